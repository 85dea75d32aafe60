/- Texts of this claim, several in one, told shortly by a program of this claim (wip/x/shrink.py): what Go functions come to, and plain words on it. -/
import Derived.Test.YteanncchmenlkaaDoorProg
import Derived.WalkSpells
import Derived.Lib.SlBytesConst
import Derived.Below
import Derived.Deep.Draws
import Derived.Deep.AppendLies
import Derived.Maps.AppendAt
import Derived.OwnWalk
import Derived.Laws.BytesArg
import Derived.Laws.MakeOwn
import Derived.Laws.OwnMore
import Derived.Deep.OwnRows
import Derived.Tactics
import Derived.Lib.ConvBytes
import Derived.Laws.Slices
import Derived.WalkKit
import Derived.KernelRfl
import Derived.RowKit3
import Derived.Deep.LoopGhost
import Derived.Deep.QuietTactic
import Derived.BigQuiet
import Derived.WideLaws
import Derived.Deep.DeepCutAuto
import Derived.Deep.CutBlock
import Derived.Deep.RegionHeld3
import Derived.Laws.Rows
import Derived.Lib.AppendStr
import Derived.ArgAppend
import Derived.Laws.IdiomCopy
import Derived.OrdersHeld
import Derived.Laws.BitsLemmas
import Derived.RowKit
import Derived.Deep.MidRow
import Derived.Test.YteanncchmenlkaaDoorShBodySame1
namespace Go.Proofs.YteanncchmenlkaaDoor.Print
open Go.RowKit Go.Proofs.YteanncchmenlkaaDoorW.PrintWords Go.Proofs.YteanncchmenlkaaDoorW.PrintLast Go.Proofs.YteanncchmenlkaaDoorW.PrintMore
attribute [local go_sem] max2_int min2_int max_two min_two max_three min_three max_four min_four
set_option linter.unusedVariables false
set_option linter.unusedSimpArgs false
def errW : Option Int → Value
 | none => .nilIface
 | some c => .iface 0 (.int .i64 c)
theorem errW_none : errW none = .nilIface := rfl
theorem errW_some (c : Int) : errW (some c) = .iface 0 (.int .i64 c) := rfl
theorem info5 : (Tryd.prog.info? 5).map (fun i => (i.zero, i.size, i.bytes)) = some (some (.int .u8 0), 1, 1) := by kernel_rfl
theorem info26 : (Tryd.prog.info? 26).map (fun i => (i.zero, i.size, i.bytes)) = some (some (.int .u32 0), 1, 4) := by kernel_rfl
theorem info62 : (Tryd.prog.info? 62).map (fun i => (i.zero, i.size, i.bytes)) = some (some (.agg #[(.int .u8 0), (.slice none 0 0)]), 2, 32) := by kernel_rfl
structure S62 where
 f0 : Int
 f1 : (List Int)
def z62 : S62 := ⟨(0 : Int), ([] : List Int)⟩
def k62 : Kd S62 := Kd.iso (Kd.pair (Kd.int .u8) (Kd.slice 5 (Kd.int .u8))) (fun x : S62 => (x.f0, x.f1))
theorem k62_open {w : World} {x : S62} {cs : List Value} (h : k62.K w x cs) : ∃ A1 c1, cs = [.int .u8 x.f0, .slice A1 x.f1.length c1] ∧ x.f1.length ≤ c1 ∧ (Kd.int .u8).C w A1 x.f1.length x.f1 := by
 obtain ⟨_, _, rfl, rfl, ⟨A1, c1, rfl, l1, g1⟩⟩ := h
 exact ⟨A1, c1, rfl, l1, g1⟩
theorem k62_mk (w : World) (x : S62) {A1 : Option Addr} {c1 : Nat} (l1 : x.f1.length ≤ c1) (g1 : (Kd.int .u8).C w A1 x.f1.length x.f1) : k62.K w x [.int .u8 x.f0, .slice A1 x.f1.length c1] := ⟨[.int .u8 x.f0], [.slice A1 x.f1.length c1], rfl, rfl, ⟨A1, c1, rfl, l1, g1⟩⟩
theorem k62_mkF (W : World) (ok : Nat → Prop) (x : S62) {A1 : Option Addr} {c1 : Nat} (l1 : x.f1.length ≤ c1) (g1 : Kd.F (Kd.int .u8) W ok A1 x.f1.length x.f1) : Kd.FK k62 W ok x [.int .u8 x.f0, .slice A1 x.f1.length c1] := fun W2 hW => k62_mk W2 x l1 (g1 W2 hW)
def rd_T62 (xs : List S62) (i : Int) : S62 := xs.getD i.toNat z62
theorem at_T62 {w : World} {A : Option Addr} {n : Nat} {xs : List S62} (h : Kd.C k62 w A n xs) (i : Int) (h0 : 0 ≤ i) (h1 : i < n) : ∃ ad A1 c1, A = some ad ∧ w.cell? (ad.add (i.toNat * 2)) = some (.int .u8 (rd_T62 xs i).f0) ∧ w.cell? ⟨(ad.add (i.toNat * 2)).block, (ad.add (i.toNat * 2)).off + 1, none⟩ = some (.slice A1 (rd_T62 xs i).f1.length c1) ∧ (rd_T62 xs i).f1.length ≤ c1 ∧ (Kd.int .u8).C w A1 (rd_T62 xs i).f1.length (rd_T62 xs i).f1 := by
 obtain ⟨ad, c, e, _, hK, hc0⟩ := Kd.C_get h z62 i h0 h1
 have hc : ∀ j u, c[j]? = some u → w.cell? (ad.add (i.toNat * 2 + j)) = some u := hc0
 obtain ⟨A1, c1, rfl, l1, g1⟩ := k62_open hK
 exact ⟨ad, A1, c1, e, hc 0 _ rfl, by rw [← add_field _ _ 1 (by omega)]; exact hc 1 _ rfl, l1, g1⟩
structure S105 where
 f0 : Int
 f1 : (List Int)
def z105 : S105 := ⟨(0 : Int), ([] : List Int)⟩
def k105 : Kd S105 := Kd.iso (Kd.pair (Kd.int .u8) (Kd.slice 5 (Kd.int .u8))) (fun x : S105 => (x.f0, x.f1))
theorem k105_heap : Kd.Heap k105 := Kd.heap_iso _ (Kd.heap_pair (Kd.heap_int .u8) (Kd.heap_slice 5 (Kd.heap_int .u8)))
theorem k105_open {w : World} {x : S105} {cs : List Value} (h : k105.K w x cs) : ∃ A1 c1, cs = [.int .u8 x.f0, .slice A1 x.f1.length c1] ∧ x.f1.length ≤ c1 ∧ (Kd.int .u8).C w A1 x.f1.length x.f1 := by
 obtain ⟨_, _, rfl, rfl, ⟨A1, c1, rfl, l1, g1⟩⟩ := h
 exact ⟨A1, c1, rfl, l1, g1⟩
theorem k105_openF {W : World} {ok : Nat → Prop} {x : S105} {cs : List Value} (h : Kd.FK k105 W ok x cs) : ∃ A1 c1, cs = [.int .u8 x.f0, .slice A1 x.f1.length c1] ∧ x.f1.length ≤ c1 ∧ Kd.F (Kd.int .u8) W ok A1 x.f1.length x.f1 := by
 obtain ⟨A1, c1, rfl, l1, _⟩ := k105_open (Kd.FK_now h)
 exact ⟨A1, c1, rfl, l1, (fun W' hW => by obtain ⟨A1_, c1_, he, l1_, g1_⟩ := k105_open (h W' hW); injection (Option.some.inj (show some (Value.slice A1 x.f1.length c1) = some (Value.slice A1_ x.f1.length c1_) from congrArg (fun l => l[1]?) he)) with ha_ _ _; rw [ha_]; exact g1_)⟩
def rd_T105 (xs : List S105) (i : Int) : S105 := xs.getD i.toNat z105
theorem at_T105 {w : World} {A : Option Addr} {n : Nat} {xs : List S105} (h : Kd.C k105 w A n xs) (i : Int) (h0 : 0 ≤ i) (h1 : i < n) : ∃ ad A1 c1, A = some ad ∧ w.cell? (ad.add (i.toNat * 2)) = some (.int .u8 (rd_T105 xs i).f0) ∧ w.cell? ⟨(ad.add (i.toNat * 2)).block, (ad.add (i.toNat * 2)).off + 1, none⟩ = some (.slice A1 (rd_T105 xs i).f1.length c1) ∧ (rd_T105 xs i).f1.length ≤ c1 ∧ (Kd.int .u8).C w A1 (rd_T105 xs i).f1.length (rd_T105 xs i).f1 := by
 obtain ⟨ad, c, e, _, hK, hc0⟩ := Kd.C_get h z105 i h0 h1
 have hc : ∀ j u, c[j]? = some u → w.cell? (ad.add (i.toNat * 2 + j)) = some u := hc0
 obtain ⟨A1, c1, rfl, l1, g1⟩ := k105_open hK
 exact ⟨ad, A1, c1, e, hc 0 _ rfl, by rw [← add_field _ _ 1 (by omega)]; exact hc 1 _ rfl, l1, g1⟩
theorem cz2 {w : World} {g t : Nat} {v0 v1 : Value} (h : w.heap[g]? = some (.cells #[v0, v1] t (0, 0))) : (w.cell? ⟨g, 0, none⟩ = some v0 ∧ w.cell? ⟨g, 1, none⟩ = some v1) ∧ w.frozen? ⟨g, 0, none⟩ = false ∧ w.frozen? ⟨g, 1, none⟩ = false :=
 ⟨⟨(blk_cell h 0).trans rfl, (blk_cell h 1).trans rfl⟩, blk_frozen h 0, blk_frozen h 1⟩
theorem cz10 {w : World} {g t : Nat} {v0 v1 v2 v3 v4 v5 v6 v7 v8 v9 : Value} (h : w.heap[g]? = some (.cells #[v0, v1, v2, v3, v4, v5, v6, v7, v8, v9] t (0, 0))) : (w.cell? ⟨g, 0, none⟩ = some v0 ∧ w.cell? ⟨g, 1, none⟩ = some v1 ∧ w.cell? ⟨g, 2, none⟩ = some v2 ∧ w.cell? ⟨g, 3, none⟩ = some v3 ∧ w.cell? ⟨g, 4, none⟩ = some v4 ∧ w.cell? ⟨g, 5, none⟩ = some v5 ∧ w.cell? ⟨g, 6, none⟩ = some v6 ∧ w.cell? ⟨g, 7, none⟩ = some v7 ∧ w.cell? ⟨g, 8, none⟩ = some v8 ∧ w.cell? ⟨g, 9, none⟩ = some v9) ∧ w.frozen? ⟨g, 0, none⟩ = false ∧ w.frozen? ⟨g, 1, none⟩ = false ∧ w.frozen? ⟨g, 2, none⟩ = false ∧ w.frozen? ⟨g, 3, none⟩ = false ∧ w.frozen? ⟨g, 4, none⟩ = false ∧ w.frozen? ⟨g, 5, none⟩ = false ∧ w.frozen? ⟨g, 6, none⟩ = false ∧ w.frozen? ⟨g, 7, none⟩ = false ∧ w.frozen? ⟨g, 8, none⟩ = false ∧ w.frozen? ⟨g, 9, none⟩ = false :=
 ⟨⟨(blk_cell h 0).trans rfl, (blk_cell h 1).trans rfl, (blk_cell h 2).trans rfl, (blk_cell h 3).trans rfl, (blk_cell h 4).trans rfl, (blk_cell h 5).trans rfl, (blk_cell h 6).trans rfl, (blk_cell h 7).trans rfl, (blk_cell h 8).trans rfl, (blk_cell h 9).trans rfl⟩, blk_frozen h 0, blk_frozen h 1, blk_frozen h 2, blk_frozen h 3, blk_frozen h 4, blk_frozen h 5, blk_frozen h 6, blk_frozen h 7, blk_frozen h 8, blk_frozen h 9⟩
end Go.Proofs.YteanncchmenlkaaDoor.Print
namespace Go.Proofs.YteanncchmenlkaaDoor.Print
open Go.RowKit Go.Proofs.YteanncchmenlkaaDoorW.PrintWords Go.Proofs.YteanncchmenlkaaDoorW.PrintLast Go.Proofs.YteanncchmenlkaaDoorW.PrintMore
attribute [local go_sem] max2_int min2_int max_two min_two max_three min_three max_four min_four
set_option linter.unusedVariables false
set_option linter.unusedSimpArgs false
def marlineref01_Equal.l0 : Nat → List Int → List Int → Int → Option (Bool)
 | 0, _, _, _ => none
 | k + 1, x0, x1, x5 => if x5 < (x0.length : Int) then (if 0 ≤ x5 then (if x5 < (x1.length : Int) then (if (rd x0 x5) = (rd x1 x5) then (marlineref01_Equal.l0 k x0 x1 (wrap64 (x5 + 1))) else (some false)) else (none)) else (none)) else (some true)
def marlineref01_Equal.f (k : Nat) (l0 : List Int) (l1 : List Int) : Option (Bool) := if (l0.length : Int) = (l1.length : Int) then (marlineref01_Equal.l0 k l0 l1 0) else (some false)
set_option maxHeartbeats 8000000 in
set_option maxRecDepth 100000 in
theorem marlineref01_Equal.calls (k : Nat) (A0 : Option Addr) (c0 : Nat) (l0 : List Int) (A1 : Option Addr) (c1 : Nat) (l1 : List Int) (r : Bool) (w : World) (hr0 : Kd.C (Kd.int .u8) w A0 l0.length l0) (hc0 : l0.length ≤ c0) (hr1 : Kd.C (Kd.int .u8) w A1 l1.length l1) (hc1 : l1.length ≤ c1) (h : marlineref01_Equal.f k l0 l1 = some r) :
 Calls Tryd.prog 17 #[.slice A0 l0.length c0, .slice A1 l1.length c1] w fun e w' => e = .returned (.bool r) ∧ Drawn0 w w' := by
 have HR0 := Aside0.mk hr0
 have HC0 := Aside0.mk hc0
 clear hr0 hc0
 have HR1 := Aside0.mk hr1
 have HC1 := Aside0.mk hc1
 clear hr1 hc1
 have H : (if (l0.length : Int) = (l1.length : Int) then (marlineref01_Equal.l0 k l0 l1 0) else (some false)) = some r := h
 clear h
 by_cases c3 : (l0.length : Int) = (l1.length : Int)
 · rw [if_pos c3] at H
   have c3b0 : ((l0.length : Int) == (l1.length : Int)) = true := beq_iff_eq.mpr c3
   have c3b1 : ((l0.length : Int) != (l1.length : Int)) = false := bne_eq_false_iff_eq.mpr c3
   have c3b2 : (l0.length == l1.length) = true := by first | simpa using c3 | (simp at c3 ⊢; omega)
   clear c3
   have H' := Aside0.mk H
   clear H
   go_enter Tryd.func17, Tryd.ntmps17
   go_wp2
   repeat (go_quiet (fail); try go_wp2)
   go_loopg [5] k (fun kq v5 w' => ∃ (x5_1 : Int), v5 = .int .i64 x5_1 ∧ Aside0 (marlineref01_Equal.l0 kq l0 l1 x5_1 = some r) ∧ Aside0 (kq ≤ k) ∧ Drawn0 w w')
   case atStart => exact ⟨(0), (by first | rfl | (simp; done) | (simp [*]; done)), H', ⟨Nat.le_refl _⟩, by repeat (first | exact Drawn0.refl _ | apply Drawn0.step)⟩
   case round =>
    clear H'
    try clear c1
    try clear p2
    try clear c3
    try clear c3b0
    try clear c3b1
    try clear c3b2
    obtain ⟨x5_1, rfl, HA, HK1, ⟨m1, rfl⟩⟩ := hrel
    cases gk with
    | zero => exact absurd HA.out (by simp [marlineref01_Equal.l0])
    | succ k1 =>
     have H := HA.out
     clear HA
     simp only [marlineref01_Equal.l0] at H
     by_cases c4 : x5_1 < (l0.length : Int)
     · rw [if_pos c4] at H
       have c4b0 : decide (x5_1 < (l0.length : Int)) = true := decide_eq_true c4
       clear c4
       by_cases c5 : 0 ≤ x5_1
       · rw [if_pos c5] at H
         have c5b0 : decide (0 ≤ x5_1) = true := decide_eq_true c5
         clear c5
         by_cases c6 : x5_1 < (l1.length : Int)
         · rw [if_pos c6] at H
           have c6b0 : decide (x5_1 < (l1.length : Int)) = true := decide_eq_true c6
           clear c6
           by_cases c7 : (rd l0 x5_1) = (rd l1 x5_1)
           · rw [if_pos c7] at H
             have c7b0 : ((rd l0 x5_1) == (rd l1 x5_1)) = true := beq_iff_eq.mpr c7
             have c7b1 : ((rd l0 x5_1) != (rd l1 x5_1)) = false := bne_eq_false_iff_eq.mpr c7
             clear c7
             have H' := Aside0.mk H
             clear H
             have p328 : 0 ≤ (x5_1 : Int) := of_decide_eq_true (by first | (with_reducible assumption) | assumption)
             have q328 : x5_1 < (l0.length : Int) := of_decide_eq_true (by first | (with_reducible assumption) | assumption)
             obtain ⟨ad328, e328, hx328_0⟩ := Kd.at_int HR0.out x5_1 p328 q328
             cases e328
             replace p328 := eq_true p328
             replace q328 := eq_true q328
             have p329 : 0 ≤ (x5_1 : Int) := of_decide_eq_true (by first | (with_reducible assumption) | assumption)
             have q329 : x5_1 < (l1.length : Int) := of_decide_eq_true (by first | (with_reducible assumption) | assumption)
             obtain ⟨ad329, e329, hx329_0⟩ := Kd.at_int HR1.out x5_1 p329 q329
             cases e329
             replace p329 := eq_true p329
             replace q329 := eq_true q329
             go_wp2
             repeat (go_quiet (fail); try go_wp2)
             go_roundg k1
             case measure => have := HK1.out; omega
             case rel => exact ⟨(wrap64 (x5_1 + 1)), (by first | rfl | (simp; done) | (simp [*]; done)), H', ⟨by have := HK1.out; omega⟩, by repeat (first | exact Drawn0.refl _ | apply Drawn0.step)⟩
           · rw [if_neg c7] at H
             have c7b0 : ((rd l0 x5_1) == (rd l1 x5_1)) = false := beq_eq_false_iff_ne.mpr c7
             have c7b1 : ((rd l0 x5_1) != (rd l1 x5_1)) = true := bne_iff_ne.mpr c7
             obtain rfl := Option.some.inj H
             have p328 : 0 ≤ (x5_1 : Int) := of_decide_eq_true (by first | (with_reducible assumption) | assumption)
             have q328 : x5_1 < (l0.length : Int) := of_decide_eq_true (by first | (with_reducible assumption) | assumption)
             obtain ⟨ad328, e328, hx328_0⟩ := Kd.at_int HR0.out x5_1 p328 q328
             cases e328
             replace p328 := eq_true p328
             replace q328 := eq_true q328
             have p329 : 0 ≤ (x5_1 : Int) := of_decide_eq_true (by first | (with_reducible assumption) | assumption)
             have q329 : x5_1 < (l1.length : Int) := of_decide_eq_true (by first | (with_reducible assumption) | assumption)
             obtain ⟨ad329, e329, hx329_0⟩ := Kd.at_int HR1.out x5_1 p329 q329
             cases e329
             replace p329 := eq_true p329
             replace q329 := eq_true q329
             go_wp2
             repeat (go_quiet (fail); try go_wp2)
             go_ret
             exact ⟨by first | rfl | (simp; done) | (simp [*]; done), by repeat (first | exact Drawn0.refl _ | apply Drawn0.step)⟩
         · rw [if_neg c6] at H
           exact absurd H (by simp)
       · rw [if_neg c5] at H
         exact absurd H (by simp)
     · rw [if_neg c4] at H
       have c4b0 : decide (x5_1 < (l0.length : Int)) = false := decide_eq_false c4
       clear c4
       obtain rfl := Option.some.inj H
       go_wp2
       repeat (go_quiet (fail); try go_wp2)
       go_ret
       exact ⟨by first | rfl | (simp; done) | (simp [*]; done), by repeat (first | exact Drawn0.refl _ | apply Drawn0.step)⟩
 · rw [if_neg c3] at H
   have c3b0 : ((l0.length : Int) == (l1.length : Int)) = false := beq_eq_false_iff_ne.mpr c3
   have c3b1 : ((l0.length : Int) != (l1.length : Int)) = true := bne_iff_ne.mpr c3
   have c3b2 : (l0.length == l1.length) = false := by first | simpa using c3 | (simp at c3 ⊢; omega)
   obtain rfl := Option.some.inj H
   go_enter Tryd.func17, Tryd.ntmps17
   go_wp2
   repeat (go_quiet (fail); try go_wp2)
   go_ret
   exact ⟨by first | rfl | (simp; done) | (simp [*]; done), by repeat (first | exact Drawn0.refl _ | apply Drawn0.step)⟩
end Go.Proofs.YteanncchmenlkaaDoor.Print
namespace Go.Proofs.YteanncchmenlkaaDoor.Print
open Go.RowKit Go.Proofs.YteanncchmenlkaaDoorW.PrintWords Go.Proofs.YteanncchmenlkaaDoorW.PrintLast Go.Proofs.YteanncchmenlkaaDoorW.PrintMore
attribute [local go_sem] max2_int min2_int max_two min_two max_three min_three max_four min_four
set_option linter.unusedVariables false
set_option linter.unusedSimpArgs false
def tlv_Size.l0 : Nat → Int → List (S62) → Int → Int → Option (Int)
 | 0, _, _, _, _ => none
 | k + 1, x3, x6, x7, x8 => if x8 < x7 then (if 0 ≤ x8 then (if x8 < (x6.length : Int) then (tlv_Size.l0 k (wrap64 (x3 + (wrap64 (2 + (((rd_T62 x6 x8).f1).length : Int))))) x6 x7 (wrap64 (x8 + 1))) else (none)) else (none)) else (some x3)
def tlv_Size.f (k : Nat) (l0 : List (S62)) : Option (Int) := tlv_Size.l0 k 0 l0 (l0.length : Int) 0
end Go.Proofs.YteanncchmenlkaaDoor.Print
namespace Go.Proofs.YteanncchmenlkaaDoor.Print
open Go.RowKit Go.Proofs.YteanncchmenlkaaDoorW.PrintWords Go.Proofs.YteanncchmenlkaaDoorW.PrintLast Go.Proofs.YteanncchmenlkaaDoorW.PrintMore
attribute [local go_sem] max2_int min2_int max_two min_two max_three min_three max_four min_four
set_option linter.unusedVariables false
set_option linter.unusedSimpArgs false
def tlv_Put.l0 : Nat → List Int → List (S62) → Int → Int → Option (List Int × Int)
 | 0, _, _, _, _ => none
 | k + 1, x4, x10, x11, x12 => if x12 < x11 then (if 0 ≤ x12 then (if x12 < (x10.length : Int) then (if (((rd_T62 x10 x12).f1).length : Int) > 253 then (some (([] : List Int), 3)) else ((some (([(rd_T62 x10 x12).f0, (wrap64 ((((rd_T62 x10 x12).f1).length : Int) + 2)) % 256] : List Int) : List Int)).bind fun y123 => (if x4.length + y123.length < 140737488355328 then ((some (x4 ++ y123 : List Int)).bind fun y126 => (if y126.length + ((rd_T62 x10 x12).f1).length < 140737488355328 then (tlv_Put.l0 k (y126 ++ ((rd_T62 x10 x12).f1)) x10 x11 (wrap64 (x12 + 1))) else (none))) else (none)))) else (none)) else (none)) else (some (x4, 0))
def tlv_Put.f (k : Nat) (l0 : List (S62)) : Option (List Int × Int) := (tlv_Size.f k l0).bind fun t117 => (if 0 ≤ t117 then (if (t117 : Int).toNat ≤ 281474976710656 then (tlv_Put.l0 k (([] : List Int)) l0 (l0.length : Int) 0) else (none)) else (none))
end Go.Proofs.YteanncchmenlkaaDoor.Print
namespace Go.Proofs.YteanncchmenlkaaDoor.Print
open Go.RowKit Go.Proofs.YteanncchmenlkaaDoorW.PrintWords Go.Proofs.YteanncchmenlkaaDoorW.PrintLast Go.Proofs.YteanncchmenlkaaDoorW.PrintMore
attribute [local go_sem] max2_int min2_int max_two min_two max_three min_three max_four min_four
set_option linter.unusedVariables false
set_option linter.unusedSimpArgs false
def slices_Clone_byte_byte.f (l0 : List Int) : Option (List Int) := if l0.length < 140737488355328 then some l0 else none
set_option maxHeartbeats 8000000 in
set_option maxRecDepth 100000 in
theorem slices_Clone_byte_byte.calls (A0 : Option Addr) (c0 : Nat) (l0 : List Int) (r : List Int) (w : World) (hr0 : Kd.C (Kd.int .u8) w A0 l0.length l0) (hc0 : l0.length ≤ c0) (h : slices_Clone_byte_byte.f l0 = some r) :
 Calls Tryd.prog 69 #[.slice A0 l0.length c0] w fun e w' => ∃ v0_ : Value, e = .returned (v0_) ∧ Kd.R (Kd.int .u8) 5 w' w.heap.size (fun _ => True) v0_ r ∧ Below w.heap.size w w' := by
 unfold slices_Clone_byte_byte.f at h
 by_cases hlim : l0.length < 140737488355328
 · rw [if_pos hlim] at h
   obtain rfl := Option.some.inj h
   have LM := Aside0.mk hlim
   clear h hlim
   have HR0 := Aside0.mk hr0
   have HC0 := Aside0.mk hc0
   have HB := Aside0.mk (Below.refl w.heap.size w)
   rcases A0 with _ | ad
   · have hz : l0.length = 0 := by
      rcases Nat.eq_zero_or_pos l0.length with h0 | h0
      · exact h0
      · obtain ⟨ad, h, _⟩ := hr0.2.2 h0
        cases h
     obtain rfl : l0 = [] := List.eq_nil_of_length_eq_zero hz
     clear hr0 hc0
     have hq : ∀ (w : World) (n c : Nat), (Go.binOp .eql 24 (.slice none n c) (.slice none 0 0)).run Tryd.prog w = .ok (.bool true) w := fun w n c => Lib.run_eql_slice_nil (P := Tryd.prog) w 24 5 none n c 0 0 Tryd.underlying24
     go_enter Tryd.func69, Tryd.ntmps69
     go_wp2
     go_ret
     exact ⟨_, rfl, Kd.R_nil _ _ _ _ _, HB.out⟩
   · clear hr0 hc0
     have hq : ∀ (w : World) (n c : Nat), (Go.binOp .eql 24 (.slice (some ad) n c) (.slice none 0 0)).run Tryd.prog w = .ok (.bool false) w := fun w n c => Lib.run_eql_slice_nil (P := Tryd.prog) w 24 5 (some ad) n c 0 0 Tryd.underlying24
     obtain ⟨y1, hy1⟩ : ∃ y_ : List Int, y_ = ([] : List Int) := ⟨_, rfl⟩
     have Ny1 := Aside0.mk hy1
     clear hy1
     go_enter Tryd.func69, Tryd.ntmps69
     go_wp2_with (first | ((with_reducible refine gate_dst (N := 5) rfl ?_); refine Kd.R_lit (Kd.int .u8) _ 5 ?hg (N := 5) ?hd (xs := ([] : List Int)) (inner := []) (ok := fun _ => True) (okp := fun _ => True) ?hr ?hp (fun _ hk => hk) trivial (Below.refl _ _) (Nat.le_refl _) (by simp) ?_; (case hd => rfl); (case hg => rfl); (case hr => first | (go_simp; done) | (go_simp; rfl)); (case hp => exact (Reps.none _ _)); intro v1 w1 ho7 hb hg_ hnew_; clear hg_ hnew_; rw [← Ny1.out] at ho7; have n0_ := Aside0.mk (Kd.R_lower ho7 (below_size (by repeat (first | (with_reducible first | exact HB.out | apply below_alloc | apply pw_below_drewN | apply below_drew1) | exact HB.out)))); have n1_ := Aside0.mk (below_step (by repeat (first | (with_reducible first | exact HB.out | apply below_alloc | apply pw_below_drewN | apply below_drew1) | exact HB.out)) hb); clear HB; have HO1 := n0_; have HB := n1_; clear n0_ n1_; clear hb ho7) | ((with_reducible refine gate_builtin (b := .append) (xs := #[.tmp 5, .tmp 6]) rfl ?_); at_builtin; refine Kd.R_append_rows (Kd.int .u8) (w0 := w) w.heap.size rfl (.tmp 5) (.tmp 6) 24 5 (.int .u8 0) 1 rfl Tryd.underlying24 info5 rfl (by decide) (by omega) v1 y1 l0 _ _ _ (fun _ => True) (fun _ => False) rfl rfl ?aO ?aR (fun _ _ h => h) (fun _ h => h.elim) ?aF ?aB ?aS ?aL ?_; (case aR => repeat (first | exact (Kd.C_below HR0.out HB.out) | (with_reducible refine Kd.C_alloc ?_ _) | (with_reducible refine Kd.C_drewN ?_ _) | (with_reducible refine Kd.C_drew ?_))); (case aB => exact (by repeat (first | (with_reducible first | exact HB.out | apply below_alloc | apply pw_below_drewN | apply below_drew1) | exact HB.out))); (case aF => exact (fun _ _ => trivial)); (case aO => exact (by (with_reducible repeat (first | apply Kd.R_alloc | apply Kd.R_drewN | apply Kd.R_drew)); exact HO1.out)); (case aS => exact (below_size (by repeat (first | (with_reducible first | exact HB.out | apply below_alloc | apply pw_below_drewN | apply below_drew1) | exact HB.out)))); (case aL => have h1_ := LM.out; rw [Ny1.out, List.length_nil]; omega); intro v2 w2 ho hb hg hat; have n0_ := Aside0.mk (hb); have n1_ := Aside0.mk (ho); clear HB HO1 hg hat ho hb; have HB := n0_; have HO2 := n1_; clear n0_ n1_))
     go_ret
     have e1 : y1 ++ l0 = l0 := by rw [Ny1.out]; rfl
     exact ⟨_, by first | rfl | (simp; done) | (simp [*]; done), by rw [e1] at HO2; exact HO2.out, HB.out⟩
 · rw [if_neg hlim] at h
   exact absurd h (by simp)
end Go.Proofs.YteanncchmenlkaaDoor.Print
namespace Go.Proofs.YteanncchmenlkaaDoor.Print
open Go.RowKit Go.Proofs.YteanncchmenlkaaDoorW.PrintWords Go.Proofs.YteanncchmenlkaaDoorW.PrintLast Go.Proofs.YteanncchmenlkaaDoorW.PrintMore
attribute [local go_sem] max2_int min2_int max_two min_two max_three min_three max_four min_four
set_option linter.unusedVariables false
set_option linter.unusedSimpArgs false
def tlv_next.f (l0 : List Int) : Option (Int × List Int × List Int × Int) := if (l0.length : Int) < 2 then (some (0, ([] : List Int), ([] : List Int), 2)) else (if 1 < (l0.length : Int) then (if (wrap64 (rd l0 1)) < 2 then (some (0, ([] : List Int), ([] : List Int), 4)) else (if (wrap64 (rd l0 1)) > (l0.length : Int) then (some (0, ([] : List Int), ([] : List Int), 2)) else (if 0 < (l0.length : Int) then (if 2 ≤ (wrap64 (rd l0 1)) then (if (wrap64 (rd l0 1)) ≤ (l0.length : Int) then ((slices_Clone_byte_byte.f ((l0.take ((wrap64 (rd l0 1)) : Int).toNat).drop 2)).bind fun t190 => (if 0 ≤ (wrap64 (rd l0 1)) then (some (rd l0 0, t190, (l0.drop ((wrap64 (rd l0 1)) : Int).toNat), 0)) else (none))) else (none)) else (none)) else (none)))) else (none))
end Go.Proofs.YteanncchmenlkaaDoor.Print
namespace Go.Proofs.YteanncchmenlkaaDoor.Print
open Go.RowKit Go.Proofs.YteanncchmenlkaaDoorW.PrintWords Go.Proofs.YteanncchmenlkaaDoorW.PrintLast Go.Proofs.YteanncchmenlkaaDoorW.PrintMore
attribute [local go_sem] max2_int min2_int max_two min_two max_three min_three max_four min_four
set_option linter.unusedVariables false
set_option linter.unusedSimpArgs false
def tlv_Get.l0 : Nat → List Int → List (S62) → Option ((List (S62)) × Int)
 | 0, _, _ => none
 | k + 1, x0, x4 => if (x0.length : Int) > 0 then ((tlv_next.f x0).bind fun bt198 => (if bt198.2.2.2 = 0 then (if x4.length < 4398046511104 then (tlv_Get.l0 k bt198.2.2.1 (x4 ++ [(⟨bt198.1, bt198.2.1⟩ : S62)])) else (none)) else (some (([] : List (S62)), bt198.2.2.2)))) else (some (x4, 0))
def tlv_Get.f (k : Nat) (l0 : List Int) : Option ((List (S62)) × Int) := tlv_Get.l0 k l0 ([] : List (S62))
end Go.Proofs.YteanncchmenlkaaDoor.Print
namespace Go.Proofs.YteanncchmenlkaaDoor.Print
open Go.RowKit Go.Proofs.YteanncchmenlkaaDoorW.PrintWords Go.Proofs.YteanncchmenlkaaDoorW.PrintLast Go.Proofs.YteanncchmenlkaaDoorW.PrintMore
attribute [local go_sem] max2_int min2_int max_two min_two max_three min_three max_four min_four
set_option linter.unusedVariables false
set_option linter.unusedSimpArgs false
def tlv_Same.one (x y : S62) : Bool := x.f0 == y.f0 && (strOfNums x.f1).toList == (strOfNums y.f1).toList
def tlv_Same.f (l0 l1 : List S62) : Option Bool := some (l0.length == l1.length && (l0.zip l1).all fun p => tlv_Same.one p.1 p.2)
set_option maxHeartbeats 8000000 in
set_option maxRecDepth 100000 in
theorem tlv_Same.eq (A0 : Option Addr) (c0 : Nat) (l0 : List Int) (A1 : Option Addr) (c1 : Nat) (l1 : List Int) (w : World) (hr0 : Kd.C (Kd.int .u8) w A0 l0.length l0) (hr1 : Kd.C (Kd.int .u8) w A1 l1.length l1) :
 Calls Tryd.prog 37 #[.slice A0 l0.length c0, .slice A1 l1.length c1] w fun e w' => e = .returned (.bool ((strOfNums l0).toList == (strOfNums l1).toList)) ∧ w' = w := by
 have h0 := Kd.C_string (c := c0) Tryd.underlying24 Tryd.underlying5 Tryd.underlying9 hr0
 have h1 := Kd.C_string (c := c1) Tryd.underlying24 Tryd.underlying5 Tryd.underlying9 hr1
 go_enter Tryd.func37, Tryd.ntmps37
 go_wp2
 go_ret
 exact ⟨rfl, rfl⟩
set_option maxHeartbeats 8000000 in
set_option maxRecDepth 100000 in
theorem tlv_Same.two (x y : S62) (A0 : Option Addr) (c0 : Nat) (A1 : Option Addr) (c1 : Nat) (w : World) (hr0 : Kd.C (Kd.int .u8) w A0 x.f1.length x.f1) (hr1 : Kd.C (Kd.int .u8) w A1 y.f1.length y.f1) :
 Calls Tryd.prog 52 #[.agg #[.int .u8 x.f0, .slice A0 x.f1.length c0], .agg #[.int .u8 y.f0, .slice A1 y.f1.length c1]] w fun e w' => e = .returned (.bool (tlv_Same.one x y)) ∧ Below w.heap.size w w' := by
 have hu := Tryd.underlying62
 have HR0 := Aside0.mk hr0
 have HR1 := Aside0.mk hr1
 clear hr0 hr1
 have HB := Aside0.mk (Below.refl w.heap.size w)
 go_enter Tryd.func52, Tryd.ntmps52
 go_wp2_with (first | (go_at_call 37; refine (tlv_Same.eq _ _ x.f1 _ _ y.f1 _ ?s1 ?s2).mono ?_; (case s1 => repeat (first | exact HR0.out | (with_reducible refine Kd.C_alloc ?_ _))); (case s2 => repeat (first | exact HR1.out | (with_reducible refine Kd.C_alloc ?_ _))); rintro e w' ⟨rfl, rfl⟩))
 · rename_i h
   go_ret
   exact ⟨by simp [tlv_Same.one, h], by repeat (first | exact HB.out | apply below_alloc)⟩
 · rename_i h
   go_ret
   exact ⟨by simp [tlv_Same.one, h], by repeat (first | exact HB.out | apply below_alloc)⟩
theorem tlv_Same.all_true (l0 l1 : List S62) (h : ∀ j : Nat, j < l0.length → j < l1.length → tlv_Same.one (rd_T62 l0 j) (rd_T62 l1 j) = true) : ((l0.zip l1).all fun p => tlv_Same.one p.1 p.2) = true := by
 rw [List.all_eq_true]
 intro p hp
 obtain ⟨j, hj, rfl⟩ := List.mem_iff_getElem.1 hp
 rw [List.length_zip] at hj
 have := h j (by omega) (by omega)
 simp only [rd_T62, Int.toNat_natCast, List.getD_eq_getElem?_getD] at this
 rw [List.getElem?_eq_getElem (by omega), List.getElem?_eq_getElem (by omega)] at this
 simpa using this
theorem tlv_Same.all_false (l0 l1 : List S62) (j : Nat) (h0 : j < l0.length) (h1 : j < l1.length) (h : tlv_Same.one (rd_T62 l0 j) (rd_T62 l1 j) = false) : ((l0.zip l1).all fun p => tlv_Same.one p.1 p.2) = false := by
 rw [← Bool.not_eq_true, List.all_eq_true]
 intro hp
 have := hp (l0[j], l1[j]) (List.mem_iff_getElem.2 ⟨j, by rw [List.length_zip]; omega, by simp⟩)
 simp only [rd_T62, Int.toNat_natCast, List.getD_eq_getElem?_getD] at h
 rw [List.getElem?_eq_getElem (by omega), List.getElem?_eq_getElem (by omega)] at h
 simp only [Option.getD_some] at h
 simp only [h] at this
 cases this
set_option maxHeartbeats 8000000 in
set_option maxRecDepth 100000 in
theorem tlv_Same.whole (A0 : Option Addr) (c0 : Nat) (l0 : List S62) (A1 : Option Addr) (c1 : Nat) (l1 : List S62) (w : World) (hr0 : Kd.C k62 w A0 l0.length l0) (hr1 : Kd.C k62 w A1 l1.length l1) (hl : l0.length ≤ 9223372036854775807) :
 Calls Tryd.prog 51 #[.slice A0 l0.length c0, .slice A1 l1.length c1, .func (.func 52) #[] #[]] w fun e w' => e = .returned (.bool (l0.length == l1.length && (l0.zip l1).all fun p => tlv_Same.one p.1 p.2)) ∧ Below w.heap.size w w' := by
 have hu := Tryd.underlying62
 have HR0 := Aside0.mk hr0
 have HR1 := Aside0.mk hr1
 clear hr0 hr1
 have HB := Aside0.mk (Below.refl w.heap.size w)
 by_cases he : l0.length = l1.length
 · have HE := Aside0.mk he
   have HE' : Aside0 ((l0.length == l1.length) = true) := ⟨by simp [he]⟩
   have c3b0 : ((l0.length : Int) == (l1.length : Int)) = true := by simp [he]
   have c3b1 : ((l0.length : Int) != (l1.length : Int)) = false := by simp [he]
   have c3b2 : (l0.length == l1.length) = true := by simp [he]
   clear he
   go_enter Tryd.func51, Tryd.ntmps51
   go_wp2
   go_loopg [17] (l0.length + 1) (fun kq v17 w' => ∃ (x : Int), v17 = .int .i64 x ∧ Aside0 (0 ≤ x ∧ x.toNat + kq = l0.length + 1) ∧ Aside0 (∀ j : Nat, (j : Int) < x → tlv_Same.one (rd_T62 l0 j) (rd_T62 l1 j) = true) ∧ Aside0 (Below w.heap.size w w'))
   case atStart => exact ⟨0, rfl, ⟨Int.le_refl _, by simp⟩, ⟨fun j h => absurd h (by omega)⟩, HB⟩
   case round =>
    obtain ⟨x, rfl, hk, hj, HB⟩ := hrel
    by_cases hi : x < (l0.length : Int)
    · have hi0 : decide (x < (l0.length : Int)) = true := decide_eq_true hi
      have hi1 : decide (x < (l1.length : Int)) = true := decide_eq_true (by have := HE.out; omega)
      have p0 : 0 ≤ x := hk.out.1
      have p0b : decide (0 ≤ x) = true := decide_eq_true p0
      have q1 : x < (l1.length : Int) := by have := HE.out; omega
      obtain ⟨ad0, B0, d0, e0, hx00, hx01, hl0, hi0_⟩ := at_T62 HR0.out x p0 hi
      obtain ⟨ad1, B1, d1, e1, hx10, hx11, hl1, hi1_⟩ := at_T62 HR1.out x p0 q1
      cases e0
      cases e1
      replace hx00 := (HB.out.cell (World.block_lt_of_cell? w _ hx00)).trans hx00
      replace hx01 := (HB.out.cell (World.block_lt_of_cell? w _ hx01)).trans hx01
      replace hx10 := (HB.out.cell (World.block_lt_of_cell? w _ hx10)).trans hx10
      replace hx11 := (HB.out.cell (World.block_lt_of_cell? w _ hx11)).trans hx11
      have hx10a : ∀ o, (wr.alloc o).cell? (ad1.add (x.toNat * 2)) = some (.int .u8 (rd_T62 l1 x).f0) := fun o => ((below_alloc (Below.refl _ wr) o).cell (World.block_lt_of_cell? wr _ hx10)).trans hx10
      have hx11a : ∀ o, (wr.alloc o).cell? ⟨(ad1.add (x.toNat * 2)).block, (ad1.add (x.toNat * 2)).off + 1, none⟩ = some (.slice B1 (rd_T62 l1 x).f1.length d1) := fun o => ((below_alloc (Below.refl _ wr) o).cell (World.block_lt_of_cell? wr _ hx11)).trans hx11
      clear hx10 hx11
      have I0 := Aside0.mk hi0_
      have I1 := Aside0.mk hi1_
      clear hi0_ hi1_
      have P0 := Aside0.mk p0
      have HI := Aside0.mk hi
      replace p0 := eq_true p0
      replace hi := eq_true hi
      replace q1 := eq_true q1
      cases gk with
      | zero =>
       have := hk.out.2
       have := HI.out
       omega
      | succ k1 =>
       have CC := fun W (h0 : Kd.C (Kd.int .u8) W B0 (rd_T62 l0 x).f1.length (rd_T62 l0 x).f1) (h1 : Kd.C (Kd.int .u8) W B1 (rd_T62 l1 x).f1.length (rd_T62 l1 x).f1) => tlv_Same.two (rd_T62 l0 x) (rd_T62 l1 x) B0 d0 B1 d1 W h0 h1
       have HW := HB.out
       have hne : ∀ b : Bool, b = tlv_Same.one (rd_T62 l0 x) (rd_T62 l1 x) → (b = true ∨ b = false) := fun b _ => by cases b <;> simp
       rcases hq : tlv_Same.one (rd_T62 l0 x) (rd_T62 l1 x) with _ | _
       · rw [hq] at CC
         go_wp2_with (first | (go_at_call 52; refine (CC _ ?s1 ?s2).mono ?_; (case s1 => repeat (first | exact Kd.C_below I0.out HB.out | (with_reducible refine Kd.C_alloc ?_ _))); (case s2 => repeat (first | exact Kd.C_below I1.out HB.out | (with_reducible refine Kd.C_alloc ?_ _))); rintro e w' ⟨rfl, hb⟩; have HB2 := Aside0.mk (below_step (by repeat (first | exact HB.out | apply below_alloc)) hb); clear hb))
         go_ret
         refine ⟨?_, HB2.out⟩
         rw [tlv_Same.all_false l0 l1 x.toNat (by have := HI.out; have := P0.out; omega) (by have := HI.out; have := P0.out; have := HE.out; omega) (by rw [Int.toNat_of_nonneg P0.out]; exact hq), Bool.and_false]
         rfl
       · rw [hq] at CC
         go_wp2_with (first | (go_at_call 52; refine (CC _ ?s1 ?s2).mono ?_; (case s1 => repeat (first | exact Kd.C_below I0.out HB.out | (with_reducible refine Kd.C_alloc ?_ _))); (case s2 => repeat (first | exact Kd.C_below I1.out HB.out | (with_reducible refine Kd.C_alloc ?_ _))); rintro e w' ⟨rfl, hb⟩; have HB2 := Aside0.mk (below_step (by repeat (first | exact HB.out | apply below_alloc)) hb); clear hb))
         have hx1 : wrap64 (x + 1) = x + 1 := by have := HI.out; have := P0.out; unfold wrap64; omega
         go_roundg k1
         case measure => omega
         case rel =>
          refine ⟨wrap64 (x + 1), (by first | rfl | (simp; done)), ⟨?_⟩, ⟨?_⟩, HB2⟩
          · have := hk.out
            rw [hx1]
            omega
          · intro j hj'
            rw [hx1] at hj'
            by_cases hjx : (j : Int) < x
            · exact hj.out j hjx
            · obtain rfl : (j : Int) = x := by omega
              exact hq
    · have hi0 : decide (x < (l0.length : Int)) = false := decide_eq_false hi
      go_wp2
      go_ret
      refine ⟨?_, HB.out⟩
      have e := tlv_Same.all_true l0 l1 (fun j h0 _ => hj.out j (by omega))
      first | (rw [HE'.out, e]; rfl) | (rw [e]; rfl)
 · have he' : (l0.length == l1.length) = false := by simp [he]
   have c3b1 : ((l0.length : Int) != (l1.length : Int)) = true := by simp; omega
   go_enter Tryd.func51, Tryd.ntmps51
   go_wp2
   go_ret
   refine ⟨?_, HB.out⟩
   rw [he', Bool.false_and]
   rfl
set_option maxHeartbeats 8000000 in
set_option maxRecDepth 100000 in
theorem tlv_Same.calls (A0 : Option Addr) (c0 : Nat) (l0 : List S62) (A1 : Option Addr) (c1 : Nat) (l1 : List S62) (r : Bool) (w : World) (hr0 : Kd.C k62 w A0 l0.length l0) (hc0 : l0.length ≤ c0) (hr1 : Kd.C k62 w A1 l1.length l1) (hc1 : l1.length ≤ c1) (h : tlv_Same.f l0 l1 = some r) :
 Calls Tryd.prog 42 #[.slice A0 l0.length c0, .slice A1 l1.length c1] w fun e w' => e = .returned (.bool r) ∧ Below w.heap.size w w' := by
 obtain rfl := Option.some.inj h
 have CC := fun W (h0 : Kd.C k62 W A0 l0.length l0) (h1 : Kd.C k62 W A1 l1.length l1) => tlv_Same.whole A0 c0 l0 A1 c1 l1 W h0 h1 hr0.2.1
 clear h hc0 hc1
 have HR0 := Aside0.mk hr0
 have HR1 := Aside0.mk hr1
 clear hr0 hr1
 go_enter Tryd.func42, Tryd.ntmps42
 go_wp2_with (first | (go_at_call 51; refine (CC _ HR0.out HR1.out).mono ?_; rintro e w' ⟨rfl, hb⟩; have HB2 := Aside0.mk hb; clear hb))
 go_ret
 exact ⟨rfl, HB2.out⟩
end Go.Proofs.YteanncchmenlkaaDoor.Print
namespace Go.Proofs.YteanncchmenlkaaDoor.Print
open Go.RowKit Go.Proofs.YteanncchmenlkaaDoorW.PrintWords Go.Proofs.YteanncchmenlkaaDoorW.PrintLast Go.Proofs.YteanncchmenlkaaDoorW.PrintMore
attribute [local go_sem] max2_int min2_int max_two min_two max_three min_three max_four min_four
set_option linter.unusedVariables false
set_option linter.unusedSimpArgs false
def marlinelaw12_Few.l0 : Nat → List (S105) → Int → List (S105) → Int → Int → Option (Bool)
 | 0, _, _, _, _, _ => none
 | k + 1, x0, x3, x6, x7, x8 => if x8 < x7 then (if 0 ≤ x8 then (if x8 < (x6.length : Int) then (marlinelaw12_Few.l0 k x0 (wrap64 (x3 + (((rd_T105 x6 x8).f1).length : Int))) x6 x7 (wrap64 (x8 + 1))) else (none)) else (none)) else (if (x0.length : Int) ≤ 60 then (some (decide (x3 ≤ 1000))) else (some false))
def marlinelaw12_Few.f (k : Nat) (l0 : List (S105)) : Option (Bool) := marlinelaw12_Few.l0 k l0 0 l0 (l0.length : Int) 0
set_option maxHeartbeats 8000000 in
set_option maxRecDepth 100000 in
theorem marlinelaw12_Few.calls (k : Nat) (A0 : Option Addr) (c0 : Nat) (l0 : List (S105)) (r : Bool) (w : World) (hr0 : Kd.C k105 w A0 l0.length l0) (hc0 : l0.length ≤ c0) (h : marlinelaw12_Few.f k l0 = some r) :
 Calls Tryd.prog 40 #[.slice A0 l0.length c0] w fun e w' => e = .returned (.bool r) ∧ Below w.heap.size w w' := by
 have hu105 := Tryd.underlying105
 have HR0 := Aside0.mk hr0
 have HC0 := Aside0.mk hc0
 clear hr0 hc0
 have HB := Aside0.mk (Below.refl w.heap.size w)
 have H : (marlinelaw12_Few.l0 k l0 0 l0 (l0.length : Int) 0) = some r := h
 clear h
 have H' := Aside0.mk H
 clear H
 go_enter Tryd.func40, Tryd.ntmps40
 go_wp2
 go_loopg [3, 8] k (fun kq v3 v8 w' => ∃ (x3_1 : Int) (x8_1 : Int), v3 = .int .i64 x3_1 ∧ v8 = .int .i64 x8_1 ∧ Aside0 (marlinelaw12_Few.l0 kq l0 x3_1 l0 (l0.length : Int) x8_1 = some r) ∧ Aside0 (kq ≤ k) ∧ Aside0 (Below w.heap.size w w'))
 case atStart => exact ⟨(0), (0), (by first | rfl | (simp; done) | (simp [*]; done)), (by first | rfl | (simp; done) | (simp [*]; done)), H', ⟨Nat.le_refl _⟩, ⟨by repeat (first | (with_reducible first | exact HB.out | apply below_alloc | apply pw_below_drewN | apply below_drew1) | exact HB.out)⟩⟩
 case round =>
  clear H'
  obtain ⟨x3_1, x8_1, rfl, rfl, HA, HK1, HB⟩ := hrel
  cases gk with
  | zero => exact absurd HA.out (by simp [marlinelaw12_Few.l0])
  | succ k1 =>
   have H := HA.out
   clear HA
   simp only [marlinelaw12_Few.l0] at H
   by_cases c2 : x8_1 < (l0.length : Int)
   · rw [if_pos c2] at H
     have c2b0 : decide (x8_1 < (l0.length : Int)) = true := decide_eq_true c2
     clear c2
     by_cases c3 : 0 ≤ x8_1
     · rw [if_pos c3] at H
       have c3b0 : decide (0 ≤ x8_1) = true := decide_eq_true c3
       clear c3
       by_cases c4 : x8_1 < (l0.length : Int)
       · rw [if_pos c4] at H
         have c4b0 : decide (x8_1 < (l0.length : Int)) = true := decide_eq_true c4
         clear c4
         have H' := Aside0.mk H
         clear H
         have p431 : 0 ≤ (x8_1 : Int) := of_decide_eq_true (by first | (with_reducible assumption) | assumption)
         have q431 : x8_1 < (l0.length : Int) := of_decide_eq_true (by first | (with_reducible assumption) | assumption)
         (try clear hHeld)
         obtain ⟨ad431, A431_1, c431_1, e431, hx431_0, hx431_1, hl431_1, hi431_1⟩ := at_T105 HR0.out x8_1 p431 q431
         cases e431
         replace hx431_0 := (HB.out.cell (World.block_lt_of_cell? w _ hx431_0)).trans hx431_0
         replace hx431_1 := (HB.out.cell (World.block_lt_of_cell? w _ hx431_1)).trans hx431_1
         have HR431_1 := Aside0.mk hi431_1
         have HC431_1 := Aside0.mk hl431_1
         clear hi431_1 hl431_1
         replace p431 := eq_true p431
         replace q431 := eq_true q431
         go_wp2_with (first | ((with_reducible refine gate_dst (N := 5) rfl ?_); refine box_event ?hg (N := 5) ?hd (cs := #[.int .u8 0, .slice none 0 0]) (t := 105) ?hr ?_; (case hd => rfl); (case hg => rfl); (case hr => first | (go_simp; done) | (go_simp; simp only [IntKind.wrap_u8, IntKind.wrap_u16, IntKind.wrap_u32, IntKind.wrap_u64]; done) | (go_simp; simp only [IntKind.wrap_u8, IntKind.wrap_u16, IntKind.wrap_u32, IntKind.wrap_u64, Int.tmod_eq_emod_of_nonneg (Int.natCast_nonneg _), Int.emod_emod]; done) | (go_simp; rfl)); intro gb432 hg w5 hbox hb; have n0_ := Aside0.mk (below_step (by repeat (first | (with_reducible first | exact HB.out | apply below_alloc | apply pw_below_drewN | apply below_drew1) | exact HB.out)) hb); have n1_ := Aside0.mk (hbox); have n2_ := Aside0.mk ((by rw [hg]; exact (below_size (by repeat (first | (with_reducible first | exact HB.out | apply below_alloc | apply pw_below_drewN | apply below_drew1) | exact HB.out))) : w.heap.size ≤ gb432)); have n3_ := Aside0.mk ((by rw [hg]; exact (below_size (by repeat (first | (with_reducible first | exact HB.out | apply below_alloc | apply pw_below_drewN | apply below_drew1) | exact HB.out))) : w.heap.size ≤ gb432)); clear HB; have HB := n0_; have BK432 := n1_; have GW432 := n2_; have GE432 := n3_; clear n0_ n1_ n2_ n3_; clear hb hbox hg; obtain ⟨⟨hcz6_0, hcz6_1⟩, hfz6_0, hfz6_1⟩ := cz2 BK432.out))
         go_roundg k1
         case measure => have := HK1.out; omega
         case rel => exact ⟨(wrap64 (x3_1 + (((rd_T105 l0 x8_1).f1).length : Int))), (wrap64 (x8_1 + 1)), (by first | rfl | (simp; done) | (simp [*]; done)), (by first | rfl | (simp; done) | (simp [*]; done)), H', ⟨by have := HK1.out; omega⟩, ⟨by repeat (first | (with_reducible first | exact HB.out | apply below_alloc | apply pw_below_drewN | apply below_drew1 | refine below_set ?_ GE432.out) | exact HB.out)⟩⟩
       · rw [if_neg c4] at H
         exact absurd H (by simp)
     · rw [if_neg c3] at H
       exact absurd H (by simp)
   · rw [if_neg c2] at H
     have c2b0 : decide (x8_1 < (l0.length : Int)) = false := decide_eq_false c2
     clear c2
     by_cases c7 : (l0.length : Int) ≤ 60
     · rw [if_pos c7] at H
       have c7b0 : decide ((l0.length : Int) ≤ 60) = true := decide_eq_true c7
       have c7b1 : decide (l0.length ≤ 60) = true := decide_eq_true (by omega)
       clear c7
       obtain rfl := Option.some.inj H
       go_wp2
       go_ret
       exact ⟨by first | rfl | (simp [errW_none, errW_some] <;> rfl) | (simp [*, errW_none, errW_some] <;> rfl), by repeat (first | (with_reducible first | exact HB.out | apply below_alloc | apply pw_below_drewN | apply below_drew1) | exact HB.out)⟩
     · rw [if_neg c7] at H
       have c7b0 : decide ((l0.length : Int) ≤ 60) = false := decide_eq_false c7
       have c7b1 : decide (l0.length ≤ 60) = false := decide_eq_false (by omega)
       clear c7
       obtain rfl := Option.some.inj H
       go_wp2
       go_ret
       exact ⟨by first | rfl | (simp [errW_none, errW_some] <;> rfl) | (simp [*, errW_none, errW_some] <;> rfl), by repeat (first | (with_reducible first | exact HB.out | apply below_alloc | apply pw_below_drewN | apply below_drew1) | exact HB.out)⟩
end Go.Proofs.YteanncchmenlkaaDoor.Print
namespace Go.Proofs.YteanncchmenlkaaDoor.Print
open Go.RowKit Go.Proofs.YteanncchmenlkaaDoorW.PrintWords Go.Proofs.YteanncchmenlkaaDoorW.PrintLast Go.Proofs.YteanncchmenlkaaDoorW.PrintMore
attribute [local go_sem] max2_int min2_int max_two min_two max_three min_three max_four min_four
set_option linter.unusedVariables false
set_option linter.unusedSimpArgs false
def marlinelaw12_Of.l0 : Nat → List (S62) → List (S105) → Int → Int → Option ((List (S62)))
 | 0, _, _, _, _ => none
 | k + 1, x3, x6, x7, x8 => if x8 < x7 then (if 0 ≤ x8 then (if x8 < (x6.length : Int) then (if x3.length < 4398046511104 then (marlinelaw12_Of.l0 k (x3 ++ [(⟨(rd_T105 x6 x8).f0, (rd_T105 x6 x8).f1⟩ : S62)]) x6 x7 (wrap64 (x8 + 1))) else (none)) else (none)) else (none)) else (some x3)
def marlinelaw12_Of.f (k : Nat) (l0 : List (S105)) : Option ((List (S62))) := marlinelaw12_Of.l0 k ([] : List (S62)) l0 (l0.length : Int) 0
set_option maxHeartbeats 8000000 in
set_option maxRecDepth 100000 in
theorem marlinelaw12_Of.calls (k : Nat) (P0_ : Nat → Prop) (A0 : Option Addr) (c0 : Nat) (l0 : List (S105)) (r : List (S62)) (w : World) (hs0 : Kd.V k105 105 w w.heap.size (fun k_ => P0_ k_) (.slice A0 l0.length c0) l0) (h : marlinelaw12_Of.f k l0 = some r) :
 Calls Tryd.prog 41 #[.slice A0 l0.length c0] w fun e w' => ∃ v0_ : Value, e = .returned (v0_) ∧ Kd.N k62 62 w' w.heap.size (fun k_ => (P0_ k_ ∨ w.heap.size ≤ k_)) v0_ r ∧ Below w.heap.size w w' := by
 have hu105 := Tryd.underlying105
 have HO0 := Aside0.mk (show Kd.V k105 105 w w.heap.size (fun k_ => (P0_ k_ ∨ w.heap.size ≤ k_)) (.slice A0 l0.length c0) l0 from Kd.V_mono hs0 (fun k_ hk => .inl hk))
 have HB := Aside0.mk (Below.refl w.heap.size w)
 have H : (marlinelaw12_Of.l0 k ([] : List (S62)) l0 (l0.length : Int) 0) = some r := h
 clear h
 have H' := Aside0.mk H
 clear H
 go_enter Tryd.func41, Tryd.ntmps41
 go_wp2
 go_loopg [3, 8] k (fun kq v3 v8 w' => ∃ (x3_1 : List (S62)) (x8_1 : Int), v8 = .int .i64 x8_1 ∧ Aside0 (marlinelaw12_Of.l0 kq x3_1 l0 (l0.length : Int) x8_1 = some r) ∧ Aside0 (kq ≤ k) ∧ Aside0 (Kd.N k62 62 w' w.heap.size (fun k_ => (P0_ k_ ∨ w.heap.size ≤ k_)) v3 x3_1) ∧ Aside0 (Kd.V k105 105 w' w.heap.size (fun k_ => (P0_ k_ ∨ w.heap.size ≤ k_) ∧ some k_ ≠ (v3 : Value).ownBlock) (.slice A0 l0.length c0) l0) ∧ Aside0 (Below w.heap.size w w'))
 case atStart => exact ⟨(([] : List (S62))), (0), (by first | rfl | (simp; done) | (simp [*]; done)), H', ⟨Nat.le_refl _⟩, ⟨by first | exact Kd.S_nil _ _ _ _ _ | exact Kd.N_nil _ _ _ _ _ | exact Kd.V_nil _ _ _ _ _ | exact Kd.Q_nil _ _ _ _ _ | exact Kd.R_nil _ _ _ _ _⟩, ⟨by (with_reducible repeat (first | apply Kd.V_alloc | apply Kd.V_drewN | apply Kd.V_drew)); exact Kd.V_mono HO0.out (fun _ hk => ⟨hk, (by simp [Value.ownBlock])⟩)⟩, ⟨by repeat (first | (with_reducible first | exact HB.out | apply below_alloc | apply pw_below_drewN | apply below_drew1) | exact HB.out)⟩⟩
 case round =>
  clear H'
  obtain ⟨x3_1, x8_1, rfl, HA, HK1, HO_3, HO_6, HB⟩ := hrel
  cases gk with
  | zero => exact absurd HA.out (by simp [marlinelaw12_Of.l0])
  | succ k1 =>
   have H := HA.out
   clear HA
   simp only [marlinelaw12_Of.l0] at H
   by_cases c2 : x8_1 < (l0.length : Int)
   · rw [if_pos c2] at H
     have c2b0 : decide (x8_1 < (l0.length : Int)) = true := decide_eq_true c2
     clear c2
     by_cases c3 : 0 ≤ x8_1
     · rw [if_pos c3] at H
       have c3b0 : decide (0 ≤ x8_1) = true := decide_eq_true c3
       clear c3
       by_cases c4 : x8_1 < (l0.length : Int)
       · rw [if_pos c4] at H
         have c4b0 : decide (x8_1 < (l0.length : Int)) = true := decide_eq_true c4
         clear c4
         by_cases c5 : x3_1.length < 4398046511104
         · rw [if_pos c5] at H
           have LMc5 := Aside0.mk c5
           clear c5
           obtain ⟨y442, hy442⟩ : ∃ y_ : List (S62), y_ = (x3_1 ++ [(⟨(rd_T105 l0 x8_1).f0, (rd_T105 l0 x8_1).f1⟩ : S62)]) := ⟨_, rfl⟩
           replace H : (marlinelaw12_Of.l0 k1 y442 l0 (l0.length : Int) (wrap64 (x8_1 + 1))) = some r := by first | (rw [hy442]; with_reducible exact H) | (have H2_ := (Option.bind_some _ _).symm.trans H; rw [hy442]; with_reducible exact H2_) | (have H2_ := (Option.bind_some _ _).symm.trans H; with_reducible exact H2_) | with_reducible exact H | (rw [hy442]; exact H) | exact H
           have Ny442 := Aside0.mk hy442
           clear hy442
           have H' := Aside0.mk H
           clear H
           have p440 : 0 ≤ (x8_1 : Int) := of_decide_eq_true (by first | (with_reducible assumption) | assumption)
           have q440 : x8_1 < (l0.length : Int) := of_decide_eq_true (by first | (with_reducible assumption) | assumption)
           (try clear hHeld)
           obtain ⟨ad440, A440_1, c440_1, e440, hx440_0, hx440_1, hl440_1, hi440_1⟩ := at_T105 (Kd.V_reads' HO_6.out).2.2 x8_1 p440 q440
           cases e440
           obtain ⟨ce440, hce440, hMe440, hcc440⟩ := Kd.V_get HO_6.out z105 x8_1 p440 (by first | exact q440 | exact of_decide_eq_true (by first | (with_reducible assumption) | assumption) | (have e_ := (Kd.V_reads' HO_6.out).1; omega))
           obtain ⟨ua440_1, uc440_1, rfl, ul440_1, ge440_1⟩ := k105_openF hMe440
           have hv440_1 := hcc440 1 _ rfl
           rw [add_field _ _ 1 (by omega)] at hv440_1
           replace hv440_1 := Option.some.inj (hv440_1.symm.trans hx440_1)
           injection hv440_1 with hva_ hvn_ hvc_
           rw [hva_] at ge440_1
           rw [hvc_] at ul440_1
           have HL440_1 := Aside0.mk (show Kd.V (Kd.int .u8) 5 _ w.heap.size _ _ ((rd_T105 l0 x8_1).f1) from Kd.V_mk ul440_1 ge440_1)
           clear hva_ hvn_ hvc_ ge440_1 ul440_1
           clear hcc440 hce440
           have HR440_1 := Aside0.mk hi440_1
           have HC440_1 := Aside0.mk hl440_1
           clear hi440_1 hl440_1
           replace p440 := eq_true p440
           replace q440 := eq_true q440
           go_wp2_with (first | ((with_reducible refine gate_dst (N := 5) rfl ?_); refine box_event ?hg (N := 5) ?hd (cs := #[.int .u8 0, .slice none 0 0]) (t := 105) ?hr ?_; (case hd => rfl); (case hg => rfl); (case hr => first | (go_simp; done) | (go_simp; simp only [IntKind.wrap_u8, IntKind.wrap_u16, IntKind.wrap_u32, IntKind.wrap_u64]; done) | (go_simp; simp only [IntKind.wrap_u8, IntKind.wrap_u16, IntKind.wrap_u32, IntKind.wrap_u64, Int.tmod_eq_emod_of_nonneg (Int.natCast_nonneg _), Int.emod_emod]; done) | (go_simp; rfl)); intro gb441 hg w6 hbox hb; have n0_ := Aside0.mk (Kd.N_below (Kd.N_elderB (by (with_reducible repeat (first | apply Kd.N_alloc | apply Kd.N_drewN | apply Kd.N_drew)); exact HO_3.out) gb441 (Nat.le_of_eq hg.symm)) hb); have n1_ := Aside0.mk (Kd.V_below (Kd.V_elderB (by (with_reducible repeat (first | apply Kd.V_alloc | apply Kd.V_drewN | apply Kd.V_drew)); exact HO_6.out) gb441 (Nat.le_of_eq hg.symm)) hb); have n2_ := Aside0.mk (Kd.V_below (Kd.V_elderB (by (with_reducible repeat (first | apply Kd.V_alloc | apply Kd.V_drewN | apply Kd.V_drew)); exact HL440_1.out) gb441 (Nat.le_of_eq hg.symm)) hb); have n3_ := Aside0.mk (Kd.C_below (by repeat (first | (with_reducible exact HR440_1.out) | (with_reducible refine Kd.C_alloc ?_ _) | (with_reducible refine Kd.C_drewN ?_ _) | (with_reducible refine Kd.C_drew ?_) | exact HR440_1.out)) hb); have n4_ := Aside0.mk (below_step (by repeat (first | (with_reducible first | exact HB.out | apply below_alloc | apply pw_below_drewN | apply below_drew1) | exact HB.out)) hb); have n5_ := Aside0.mk (hbox); have n6_ := Aside0.mk ((by rw [hg]; exact (below_size (by repeat (first | (with_reducible first | exact HB.out | apply below_alloc | apply pw_below_drewN | apply below_drew1) | exact HB.out))) : w.heap.size ≤ gb441)); have n7_ := Aside0.mk ((by rw [hg]; exact (below_size (by repeat (first | (with_reducible first | exact HB.out | apply below_alloc | apply pw_below_drewN | apply below_drew1) | exact HB.out))) : w.heap.size ≤ gb441)); clear HO_3; clear HO_6; clear HL440_1; clear HR440_1; clear HB; have HO_3 := n0_; have HO_6 := n1_; have HL440_1 := n2_; have HR440_1 := n3_; have HB := n4_; have BK441 := n5_; have GW441 := n6_; have GE441 := n7_; clear n0_ n1_ n2_ n3_ n4_ n5_ n6_ n7_; clear hb hbox hg; obtain ⟨⟨hcz7_0, hcz7_1⟩, hfz7_0, hfz7_1⟩ := cz2 BK441.out) | ((with_reducible refine gate_store (t := 105) (p := 5) rfl ?_); refine store_event (t := 105) (p := 5) (v := ?vo_w8) (w1 := ((w6.setCell ⟨gb441, 0, none⟩ (.int .u8 ((rd_T105 l0 x8_1).f0))).setCell ⟨gb441, 1, none⟩ (.slice A440_1 ((rd_T105 l0 x8_1).f1).length c440_1))) ?hg ?ho ?hn ?hr ?_; (case ho => rfl); (case hg => rfl); (case hn => rfl); (case hr => first | (go_simp; done) | (go_simp; simp only [IntKind.wrap_u8, IntKind.wrap_u16, IntKind.wrap_u32, IntKind.wrap_u64]; done) | (go_simp; simp only [IntKind.wrap_u8, IntKind.wrap_u16, IntKind.wrap_u32, IntKind.wrap_u64, Int.tmod_eq_emod_of_nonneg (Int.natCast_nonneg _), Int.emod_emod]; done) | (go_simp; rfl)); intro w8 hw; have n0_ : Aside0 (Kd.N k62 62 w8 w.heap.size (fun k_ => (P0_ k_ ∨ w.heap.size ≤ k_) ∧ k_ ≠ gb441) u3 x3_1) := ⟨(by rw [hw]; exact (by (with_reducible repeat (first | apply Kd.N_alloc | apply Kd.N_drewN | apply Kd.N_drew)); exact Kd.N_mono (Kd.N_far (p := ⟨gb441, 1, none⟩) (Kd.N_far (p := ⟨gb441, 0, none⟩) (Kd.N_mono HO_3.out (fun k_ hk => (⟨hk, hk.2⟩ : _ ∧ k_ ≠ gb441))) (fun _ hk => hk.2) (.int .u8 ((rd_T105 l0 x8_1).f0))) (fun _ hk => hk.2) (.slice A440_1 ((rd_T105 l0 x8_1).f1).length c440_1)) (fun _ hk => ⟨hk.1.1, hk.1.2⟩)))⟩; have n1_ : Aside0 (Kd.V k105 105 w8 w.heap.size (fun k_ => (P0_ k_ ∨ w.heap.size ≤ k_) ∧ some k_ ≠ (u3 : Value).ownBlock ∧ k_ ≠ gb441) (.slice (some ad440) l0.length c0) l0) := ⟨(by rw [hw]; exact (by (with_reducible repeat (first | apply Kd.V_alloc | apply Kd.V_drewN | apply Kd.V_drew)); exact Kd.V_mono (Kd.V_far (p := ⟨gb441, 1, none⟩) (Kd.V_far (p := ⟨gb441, 0, none⟩) (Kd.V_mono HO_6.out (fun k_ hk => (⟨hk, hk.2⟩ : _ ∧ k_ ≠ gb441))) (fun _ hk => hk.2) (.int .u8 ((rd_T105 l0 x8_1).f0))) (fun _ hk => hk.2) (.slice A440_1 ((rd_T105 l0 x8_1).f1).length c440_1)) (fun _ hk => ⟨hk.1.1.1, ⟨hk.1.1.2, hk.1.2⟩⟩)))⟩; have n2_ : Aside0 (Kd.V (Kd.int .u8) 5 w8 w.heap.size (fun k_ => (P0_ k_ ∨ w.heap.size ≤ k_) ∧ some k_ ≠ (u3 : Value).ownBlock ∧ k_ ≠ gb441) (.slice A440_1 ((rd_T105 l0 x8_1).f1).length c440_1) ((rd_T105 l0 x8_1).f1)) := ⟨(by rw [hw]; exact (by (with_reducible repeat (first | apply Kd.V_alloc | apply Kd.V_drewN | apply Kd.V_drew)); exact Kd.V_mono (Kd.V_far (p := ⟨gb441, 1, none⟩) (Kd.V_far (p := ⟨gb441, 0, none⟩) (Kd.V_mono HL440_1.out (fun k_ hk => (⟨hk, hk.2⟩ : _ ∧ k_ ≠ gb441))) (fun _ hk => hk.2) (.int .u8 ((rd_T105 l0 x8_1).f0))) (fun _ hk => hk.2) (.slice A440_1 ((rd_T105 l0 x8_1).f1).length c440_1)) (fun _ hk => ⟨hk.1.1.1, ⟨hk.1.1.2, hk.1.2⟩⟩)))⟩; have n3_ : Aside0 (w8.heap[gb441]? = some (.cells #[.int .u8 ((rd_T105 l0 x8_1).f0), .slice A440_1 ((rd_T105 l0 x8_1).f1).length c440_1] 105 (0, 0))) := ⟨(by rw [hw]; exact (by (with_reducible repeat (first | refine blk_drewN ?_ _ | refine blk_drew ?_ | refine blk_alloc ?_ _)); refine blk_put (cs := #[.int .u8 ((rd_T105 l0 x8_1).f0), .slice none 0 0]) ?_ 1 _ rfl; (with_reducible repeat (first | refine blk_drewN ?_ _ | refine blk_drew ?_ | refine blk_alloc ?_ _)); refine blk_put (cs := #[.int .u8 0, .slice none 0 0]) ?_ 0 _ rfl; (with_reducible repeat (first | refine blk_drewN ?_ _ | refine blk_drew ?_ | refine blk_alloc ?_ _)); exact BK441.out))⟩; have n4_ : Aside0 (Below w.heap.size w w8) := ⟨(by rw [hw]; exact (by repeat (first | (with_reducible first | exact HB.out | apply below_alloc | apply pw_below_drewN | apply below_drew1 | refine below_set ?_ GE441.out) | exact HB.out)))⟩; clear hw; clear HO_3; clear HO_6; clear HL440_1; clear BK441; clear HB; have HO_3 := n0_; have HO_6 := n1_; have HL440_1 := n2_; have BK441 := n3_; have HB := n4_; clear n0_ n1_ n2_ n3_ n4_; have hcz9_0 : w8.cell? ⟨gb441, 0, none⟩ = some (.int .u8 ((rd_T105 l0 x8_1).f0)) := (blk_cell BK441.out 0).trans rfl; have hcz9_1 : w8.cell? ⟨gb441, 1, none⟩ = some (.slice A440_1 ((rd_T105 l0 x8_1).f1).length c440_1) := (blk_cell BK441.out 1).trans rfl; have hfz9_0 := blk_frozen BK441.out 0; have hfz9_1 := blk_frozen BK441.out 1) | ((with_reducible refine gate_builtin (b := .append) (xs := #[.tmp 12, .tmp 14]) rfl ?_); at_builtin; refine Kd.N_append k62 (w0 := w) w.heap.size rfl (.tmp 12) (.tmp 14) 25 62 (.agg #[(.int .u8 0), (.slice none 0 0)]) 32 rfl Tryd.underlying25 info62 rfl (by decide) (by omega) u3 x3_1 (⟨(rd_T105 l0 x8_1).f0, (rd_T105 l0 x8_1).f1⟩ : S62) [.int .u8 ((rd_T105 l0 x8_1).f0), .slice A440_1 ((rd_T105 l0 x8_1).f1).length c440_1] (fun k_ => (P0_ k_ ∨ w.heap.size ≤ k_) ∧ k_ ≠ gb441) (fun k_ => ((fun k_ => (P0_ k_ ∨ w.heap.size ≤ k_) ∧ k_ ≠ gb441)) k_ ∧ some k_ ≠ (u3 : Value).ownBlock) rfl rfl ?aP (fun _ hk => hk) ?aF ?aO ?aB ?aS ?aL ?_; (case aP => exact (k62_mkF _ _ (⟨(rd_T105 l0 x8_1).f0, (rd_T105 l0 x8_1).f1⟩ : S62) (Kd.V_reads' (Kd.V_mono (ok' := (fun k_ => ((fun k_ => (P0_ k_ ∨ w.heap.size ≤ k_) ∧ k_ ≠ gb441)) k_ ∧ some k_ ≠ (u3 : Value).ownBlock)) (HL440_1.out) (fun k_ hk => ⟨⟨hk.1, hk.2.2⟩, hk.2.1⟩))).2.1 (Kd.V_F (Kd.V_mono (ok' := (fun k_ => ((fun k_ => (P0_ k_ ∨ w.heap.size ≤ k_) ∧ k_ ≠ gb441)) k_ ∧ some k_ ≠ (u3 : Value).ownBlock)) (HL440_1.out) (fun k_ hk => ⟨⟨hk.1, hk.2.2⟩, hk.2.1⟩))))); (case aB => exact (by repeat (first | (with_reducible first | exact HB.out | apply below_alloc | apply pw_below_drewN | apply below_drew1 | refine below_set ?_ GE441.out) | exact HB.out))); (case aF => exact (fun k_ hk => ⟨(.inr (Nat.le_trans (below_size (by repeat (first | (with_reducible first | exact HB.out | apply below_alloc | apply pw_below_drewN | apply below_drew1 | refine below_set ?_ GE441.out) | exact HB.out))) hk)), Kd.freshB (g := gb441) (o := .cells #[.int .u8 ((rd_T105 l0 x8_1).f0), .slice A440_1 ((rd_T105 l0 x8_1).f1).length c440_1] 105 (0, 0)) (by (with_reducible repeat (first | refine blk_drewN ?_ _ | refine blk_drew ?_ | refine blk_alloc ?_ _)); exact BK441.out) k_ hk⟩)); (case aO => exact (by (with_reducible repeat (first | apply Kd.N_alloc | apply Kd.N_drewN | apply Kd.N_drew)); exact HO_3.out)); (case aS => exact (below_size (by repeat (first | (with_reducible first | exact HB.out | apply below_alloc | apply pw_below_drewN | apply below_drew1 | refine below_set ?_ GE441.out) | exact HB.out)))); (case aL => have := LMc5.out; omega); intro v443 w10 ho hb hg hat; rw [← Ny442.out] at ho; have n0_ := Aside0.mk (Kd.V_afterv (ok := (fun k_ => (P0_ k_ ∨ w.heap.size ≤ k_) ∧ k_ ≠ gb441)) (by (with_reducible repeat (first | apply Kd.V_alloc | apply Kd.V_drewN | apply Kd.V_drew)); exact Kd.V_mono HO_6.out (fun _ hk => ⟨⟨hk.1, hk.2.2⟩, hk.2.1⟩)) hg hat); have n1_ := Aside0.mk (Kd.V_afterv (ok := (fun k_ => (P0_ k_ ∨ w.heap.size ≤ k_) ∧ k_ ≠ gb441)) (by (with_reducible repeat (first | apply Kd.V_alloc | apply Kd.V_drewN | apply Kd.V_drew)); exact Kd.V_mono HL440_1.out (fun _ hk => ⟨⟨hk.1, hk.2.2⟩, hk.2.1⟩)) hg hat); have n2_ := Aside0.mk (blk_grown (g := gb441) (o := .cells #[.int .u8 ((rd_T105 l0 x8_1).f0), .slice A440_1 ((rd_T105 l0 x8_1).f1).length c440_1] 105 (0, 0)) (by (with_reducible repeat (first | refine blk_drewN ?_ _ | refine blk_drew ?_ | refine blk_alloc ?_ _)); exact BK441.out) hg (Kd.N_ne HO_3.out BK441.out (by decide))); have n3_ := Aside0.mk (hb); have n4_ := Aside0.mk (ho); clear HO_6; clear HL440_1; clear BK441; clear HB; clear HO_3; have HO_6 := n0_; have HL440_1 := n1_; have BK441 := n2_; have HB := n3_; have HO444 := n4_; clear n0_ n1_ n2_ n3_ n4_; clear ho hb hg hat))
           go_roundg k1
           case measure => have := HK1.out; omega
           case rel => exact ⟨(y442), (wrap64 (x8_1 + 1)), (by first | rfl | (simp; done) | (simp [*]; done)), H', ⟨by have := HK1.out; omega⟩, ⟨by (with_reducible repeat (first | apply Kd.N_alloc | apply Kd.N_drewN | apply Kd.N_drew)); exact Kd.N_mono HO444.out (fun _ hk => hk.1)⟩, ⟨by (with_reducible repeat (first | apply Kd.V_alloc | apply Kd.V_drewN | apply Kd.V_drew)); exact Kd.V_mono HO_6.out (fun _ hk => ⟨hk.1.1, hk.2⟩)⟩, ⟨by repeat (first | (with_reducible first | exact HB.out | apply below_alloc | apply pw_below_drewN | apply below_drew1 | refine below_set ?_ GE441.out) | exact HB.out)⟩⟩
         · rw [if_neg c5] at H
           exact absurd H (by simp)
       · rw [if_neg c4] at H
         exact absurd H (by simp)
     · rw [if_neg c3] at H
       exact absurd H (by simp)
   · rw [if_neg c2] at H
     have c2b0 : decide (x8_1 < (l0.length : Int)) = false := decide_eq_false c2
     clear c2
     obtain rfl := Option.some.inj H
     go_wp2
     go_ret
     exact ⟨_, by first | rfl | (simp [errW_none, errW_some] <;> rfl) | (simp [*, errW_none, errW_some] <;> rfl), by (with_reducible repeat (first | apply Kd.N_alloc | apply Kd.N_drewN | apply Kd.N_drew)); exact HO_3.out, by repeat (first | (with_reducible first | exact HB.out | apply below_alloc | apply pw_below_drewN | apply below_drew1) | exact HB.out)⟩
end Go.Proofs.YteanncchmenlkaaDoor.Print
namespace Go.Proofs.YteanncchmenlkaaDoor.Print
open Go.RowKit Go.Proofs.YteanncchmenlkaaDoorW.PrintWords Go.Proofs.YteanncchmenlkaaDoorW.PrintLast Go.Proofs.YteanncchmenlkaaDoorW.PrintMore
attribute [local go_sem] max2_int min2_int max_two min_two max_three min_three max_four min_four
set_option linter.unusedVariables false
set_option linter.unusedSimpArgs false
def marlinelaw12_To.l0 : Nat → List (S105) → List (S62) → Int → Int → Option ((List (S105)))
 | 0, _, _, _, _ => none
 | k + 1, x3, x6, x7, x8 => if x8 < x7 then (if 0 ≤ x8 then (if x8 < (x6.length : Int) then (if x3.length < 4398046511104 then (marlinelaw12_To.l0 k (x3 ++ [(⟨(rd_T62 x6 x8).f0, (rd_T62 x6 x8).f1⟩ : S105)]) x6 x7 (wrap64 (x8 + 1))) else (none)) else (none)) else (none)) else (some x3)
def marlinelaw12_To.f (k : Nat) (l0 : List (S62)) : Option ((List (S105))) := marlinelaw12_To.l0 k ([] : List (S105)) l0 (l0.length : Int) 0
end Go.Proofs.YteanncchmenlkaaDoor.Print
namespace Go.Proofs.YteanncchmenlkaaDoor.Print
open Go.RowKit Go.Proofs.YteanncchmenlkaaDoorW.PrintWords Go.Proofs.YteanncchmenlkaaDoorW.PrintLast Go.Proofs.YteanncchmenlkaaDoorW.PrintMore
attribute [local go_sem] max2_int min2_int max_two min_two max_three min_three max_four min_four
set_option linter.unusedVariables false
set_option linter.unusedSimpArgs false
def marlineref12_Same.l0 : Nat → List (S105) → List (S105) → Int → Option (Bool)
 | 0, _, _, _ => none
 | k + 1, x0, x1, x5 => if x5 < (x0.length : Int) then (if 0 ≤ x5 then (if x5 < (x1.length : Int) then (if ((rd_T105 x0 x5).f0) = ((rd_T105 x1 x5).f0) then ((marlineref01_Equal.f k ((rd_T105 x0 x5).f1) ((rd_T105 x1 x5).f1)).bind fun t374 => (if t374 = true then (marlineref12_Same.l0 k x0 x1 (wrap64 (x5 + 1))) else (some false))) else (some false)) else (none)) else (none)) else (some true)
def marlineref12_Same.f (k : Nat) (l0 : List (S105)) (l1 : List (S105)) : Option (Bool) := if (l0.length : Int) = (l1.length : Int) then (marlineref12_Same.l0 k l0 l1 0) else (some false)
end Go.Proofs.YteanncchmenlkaaDoor.Print
namespace Go.Proofs.YteanncchmenlkaaDoor.Print
open Go.RowKit Go.Proofs.YteanncchmenlkaaDoorW.PrintWords Go.Proofs.YteanncchmenlkaaDoorW.PrintLast Go.Proofs.YteanncchmenlkaaDoorW.PrintMore
attribute [local go_sem] max2_int min2_int max_two min_two max_three min_three max_four min_four
set_option linter.unusedVariables false
set_option linter.unusedSimpArgs false
def marlinelaw15_Few.f (k : Nat) (a0_0 : Int) (a0_1 : Int) (a0_2 : Int) (l0_3 : List (S105)) (a0_4 : Int) (a0_5 : Int) (l0_6 : List Int) (l0_7 : List Int) (l0_8 : List Int) (l0_9 : List Int) : Option (Bool) := (marlinelaw12_Few.f k l0_3).bind fun t434 => (if t434 = true then (if (l0_6.length : Int) ≤ 600 then (if (l0_7.length : Int) ≤ 600 then (if (l0_8.length : Int) ≤ 600 then (some (decide ((l0_9.length : Int) ≤ 40))) else (some false)) else (some false)) else (some false)) else (some false))
set_option maxHeartbeats 8000000 in
set_option maxRecDepth 100000 in
theorem marlinelaw15_Few.calls (k : Nat) (a0_0 : Int) (a0_1 : Int) (a0_2 : Int) (A0_3 : Option Addr) (c0_3 : Nat) (l0_3 : List (S105)) (a0_4 : Int) (a0_5 : Int) (A0_6 : Option Addr) (c0_6 : Nat) (l0_6 : List Int) (A0_7 : Option Addr) (c0_7 : Nat) (l0_7 : List Int) (A0_8 : Option Addr) (c0_8 : Nat) (l0_8 : List Int) (A0_9 : Option Addr) (c0_9 : Nat) (l0_9 : List Int) (r : Bool) (w : World) (hr0_3 : Kd.C k105 w A0_3 l0_3.length l0_3) (hc0_3 : l0_3.length ≤ c0_3) (hr0_6 : Kd.C (Kd.int .u8) w A0_6 l0_6.length l0_6) (hc0_6 : l0_6.length ≤ c0_6) (hr0_7 : Kd.C (Kd.int .u8) w A0_7 l0_7.length l0_7) (hc0_7 : l0_7.length ≤ c0_7) (hr0_8 : Kd.C (Kd.int .u8) w A0_8 l0_8.length l0_8) (hc0_8 : l0_8.length ≤ c0_8) (hr0_9 : Kd.C (Kd.int .u32) w A0_9 l0_9.length l0_9) (hc0_9 : l0_9.length ≤ c0_9) (h : marlinelaw15_Few.f k a0_0 a0_1 a0_2 l0_3 a0_4 a0_5 l0_6 l0_7 l0_8 l0_9 = some r) :
 Calls Tryd.prog 23 #[.agg #[.int .u16 a0_0, .int .u8 a0_1, .int .u8 a0_2, .slice A0_3 l0_3.length c0_3, .int .u16 a0_4, .int .u32 a0_5, .slice A0_6 l0_6.length c0_6, .slice A0_7 l0_7.length c0_7, .slice A0_8 l0_8.length c0_8, .slice A0_9 l0_9.length c0_9]] w fun e w' => e = .returned (.bool r) ∧ Below w.heap.size w w' := by
 have hu42 := Tryd.underlying42
 have HR0_3 := Aside0.mk hr0_3
 have HC0_3 := Aside0.mk hc0_3
 clear hr0_3 hc0_3
 have HR0_6 := Aside0.mk hr0_6
 have HC0_6 := Aside0.mk hc0_6
 clear hr0_6 hc0_6
 have HR0_7 := Aside0.mk hr0_7
 have HC0_7 := Aside0.mk hc0_7
 clear hr0_7 hc0_7
 have HR0_8 := Aside0.mk hr0_8
 have HC0_8 := Aside0.mk hc0_8
 clear hr0_8 hc0_8
 have HR0_9 := Aside0.mk hr0_9
 have HC0_9 := Aside0.mk hc0_9
 clear hr0_9 hc0_9
 have HB := Aside0.mk (Below.refl w.heap.size w)
 have H : ((marlinelaw12_Few.f k l0_3).bind fun t434 => (if t434 = true then (if (l0_6.length : Int) ≤ 600 then (if (l0_7.length : Int) ≤ 600 then (if (l0_8.length : Int) ≤ 600 then (some (decide ((l0_9.length : Int) ≤ 40))) else (some false)) else (some false)) else (some false)) else (some false))) = some r := h
 clear h
 replace H := Option.bind_eq_some_iff.mp H
 obtain ⟨t434, A20, H⟩ := H
 replace H : (if t434 = true then (if (l0_6.length : Int) ≤ 600 then (if (l0_7.length : Int) ≤ 600 then (if (l0_8.length : Int) ≤ 600 then (some (decide ((l0_9.length : Int) ≤ 40))) else (some false)) else (some false)) else (some false)) else (some false)) = some r := H
 have A2 := Aside0.mk A20
 clear A20
 by_cases c3 : t434 = true
 · subst c3
   have H1 : (if (l0_6.length : Int) ≤ 600 then (if (l0_7.length : Int) ≤ 600 then (if (l0_8.length : Int) ≤ 600 then (some (decide ((l0_9.length : Int) ≤ 40))) else (some false)) else (some false)) else (some false)) = some r := by rw [if_pos rfl] at H; exact H
   clear H
   have H := H1
   clear H1
   by_cases c4 : (l0_6.length : Int) ≤ 600
   · rw [if_pos c4] at H
     have c4b0 : decide ((l0_6.length : Int) ≤ 600) = true := decide_eq_true c4
     have c4b1 : decide (l0_6.length ≤ 600) = true := decide_eq_true (by omega)
     clear c4
     by_cases c5 : (l0_7.length : Int) ≤ 600
     · rw [if_pos c5] at H
       have c5b0 : decide ((l0_7.length : Int) ≤ 600) = true := decide_eq_true c5
       have c5b1 : decide (l0_7.length ≤ 600) = true := decide_eq_true (by omega)
       clear c5
       by_cases c6 : (l0_8.length : Int) ≤ 600
       · rw [if_pos c6] at H
         have c6b0 : decide ((l0_8.length : Int) ≤ 600) = true := decide_eq_true c6
         have c6b1 : decide (l0_8.length ≤ 600) = true := decide_eq_true (by omega)
         clear c6
         obtain rfl := Option.some.inj H
         go_enter Tryd.func23, Tryd.ntmps23
         go_wp2_with (first | ((with_reducible refine gate_dst (N := 1) rfl ?_); (try (refine gate_guard (by rfl) ?_; dsimp only)); refine box_event ?hg (N := 1) ?hd (cs := #[.int .u16 a0_0, .int .u8 a0_1, .int .u8 a0_2, .slice A0_3 l0_3.length c0_3, .int .u16 a0_4, .int .u32 a0_5, .slice A0_6 l0_6.length c0_6, .slice A0_7 l0_7.length c0_7, .slice A0_8 l0_8.length c0_8, .slice A0_9 l0_9.length c0_9]) (t := 42) ?hr ?_; (case hd => rfl); (case hg => rfl); (case hr => first | (go_simp; done) | (go_simp; simp only [IntKind.wrap_u8, IntKind.wrap_u16, IntKind.wrap_u32, IntKind.wrap_u64]; done) | (go_simp; simp only [IntKind.wrap_u8, IntKind.wrap_u16, IntKind.wrap_u32, IntKind.wrap_u64, Int.tmod_eq_emod_of_nonneg (Int.natCast_nonneg _), Int.emod_emod]; done) | (go_simp; rfl)); intro gb433 hg w7 hbox hb; have n0_ := Aside0.mk (below_step (by repeat (first | (with_reducible first | exact HB.out | apply below_alloc | apply pw_below_drewN | apply below_drew1) | exact HB.out)) hb); have n1_ := Aside0.mk (hbox); have n2_ := Aside0.mk ((by rw [hg]; exact (below_size (by repeat (first | (with_reducible first | exact HB.out | apply below_alloc | apply pw_below_drewN | apply below_drew1) | exact HB.out))) : w.heap.size ≤ gb433)); have n3_ := Aside0.mk ((by rw [hg]; exact (below_size (by repeat (first | (with_reducible first | exact HB.out | apply below_alloc | apply pw_below_drewN | apply below_drew1) | exact HB.out))) : w.heap.size ≤ gb433)); clear HB; have HB := n0_; have BK433 := n1_; have GW433 := n2_; have GE433 := n3_; clear n0_ n1_ n2_ n3_; clear hb hbox hg; obtain ⟨⟨hcz8_0, hcz8_1, hcz8_2, hcz8_3, hcz8_4, hcz8_5, hcz8_6, hcz8_7, hcz8_8, hcz8_9⟩, hfz8_0, hfz8_1, hfz8_2, hfz8_3, hfz8_4, hfz8_5, hfz8_6, hfz8_7, hfz8_8, hfz8_9⟩ := cz10 BK433.out) | ((with_reducible refine gate_callee (f := 40) rfl ?_); refine goesL_ (some 5) rfl rfl Tryd.func40 (by kernel_rfl) rfl #[.slice A0_3 l0_3.length c0_3] rfl (by (try simp only [List.map_toArray, List.map_cons, List.map_nil]); first | done | rfl | (simp only [List.length_drop, List.length_take]; rfl)) ?_; (with_reducible refine (marlinelaw12_Few.calls k _ _ l0_3 true _ ?side1 ?side2 A2.out).mono ?_); (case side1 => repeat (first | exact (Kd.C_below HR0_3.out HB.out) | (with_reducible refine Kd.C_alloc ?_ _) | (with_reducible refine Kd.C_drewN ?_ _) | (with_reducible refine Kd.C_drew ?_))); (case side2 => exact HC0_3.out); rintro e w9 ⟨rfl, hb⟩; refine ⟨_, rfl, ?_⟩; have n0_ := Aside0.mk (blk_below (g := gb433) (o := .cells #[.int .u16 a0_0, .int .u8 a0_1, .int .u8 a0_2, .slice A0_3 l0_3.length c0_3, .int .u16 a0_4, .int .u32 a0_5, .slice A0_6 l0_6.length c0_6, .slice A0_7 l0_7.length c0_7, .slice A0_8 l0_8.length c0_8, .slice A0_9 l0_9.length c0_9] 42 (0, 0)) (by (with_reducible repeat (first | refine blk_drewN ?_ _ | refine blk_drew ?_ | refine blk_alloc ?_ _)); exact BK433.out) hb); have n1_ := Aside0.mk (below_step (by repeat (first | (with_reducible first | exact HB.out | apply below_alloc | apply pw_below_drewN | apply below_drew1 | refine below_set ?_ GE433.out) | exact HB.out)) hb); clear BK433; clear HB; have BK433 := n0_; have HB := n1_; clear n0_ n1_; (try clear hb); (try clear hb2); (try clear hk); (try clear hi); obtain ⟨⟨hcz10_0, hcz10_1, hcz10_2, hcz10_3, hcz10_4, hcz10_5, hcz10_6, hcz10_7, hcz10_8, hcz10_9⟩, hfz10_0, hfz10_1, hfz10_2, hfz10_3, hfz10_4, hfz10_5, hfz10_6, hfz10_7, hfz10_8, hfz10_9⟩ := cz10 BK433.out))
         go_ret
         exact ⟨by first | rfl | (simp [errW_none, errW_some] <;> rfl) | (simp [*, errW_none, errW_some] <;> rfl), by repeat (first | (with_reducible first | exact HB.out | apply below_alloc | apply pw_below_drewN | apply below_drew1 | refine below_set ?_ GE433.out) | exact HB.out)⟩
       · rw [if_neg c6] at H
         have c6b0 : decide ((l0_8.length : Int) ≤ 600) = false := decide_eq_false c6
         have c6b1 : decide (l0_8.length ≤ 600) = false := decide_eq_false (by omega)
         clear c6
         obtain rfl := Option.some.inj H
         go_enter Tryd.func23, Tryd.ntmps23
         go_wp2_with (first | ((with_reducible refine gate_dst (N := 1) rfl ?_); (try (refine gate_guard (by rfl) ?_; dsimp only)); refine box_event ?hg (N := 1) ?hd (cs := #[.int .u16 a0_0, .int .u8 a0_1, .int .u8 a0_2, .slice A0_3 l0_3.length c0_3, .int .u16 a0_4, .int .u32 a0_5, .slice A0_6 l0_6.length c0_6, .slice A0_7 l0_7.length c0_7, .slice A0_8 l0_8.length c0_8, .slice A0_9 l0_9.length c0_9]) (t := 42) ?hr ?_; (case hd => rfl); (case hg => rfl); (case hr => first | (go_simp; done) | (go_simp; simp only [IntKind.wrap_u8, IntKind.wrap_u16, IntKind.wrap_u32, IntKind.wrap_u64]; done) | (go_simp; simp only [IntKind.wrap_u8, IntKind.wrap_u16, IntKind.wrap_u32, IntKind.wrap_u64, Int.tmod_eq_emod_of_nonneg (Int.natCast_nonneg _), Int.emod_emod]; done) | (go_simp; rfl)); intro gb433 hg w11 hbox hb; have n0_ := Aside0.mk (below_step (by repeat (first | (with_reducible first | exact HB.out | apply below_alloc | apply pw_below_drewN | apply below_drew1) | exact HB.out)) hb); have n1_ := Aside0.mk (hbox); have n2_ := Aside0.mk ((by rw [hg]; exact (below_size (by repeat (first | (with_reducible first | exact HB.out | apply below_alloc | apply pw_below_drewN | apply below_drew1) | exact HB.out))) : w.heap.size ≤ gb433)); have n3_ := Aside0.mk ((by rw [hg]; exact (below_size (by repeat (first | (with_reducible first | exact HB.out | apply below_alloc | apply pw_below_drewN | apply below_drew1) | exact HB.out))) : w.heap.size ≤ gb433)); clear HB; have HB := n0_; have BK433 := n1_; have GW433 := n2_; have GE433 := n3_; clear n0_ n1_ n2_ n3_; clear hb hbox hg; obtain ⟨⟨hcz12_0, hcz12_1, hcz12_2, hcz12_3, hcz12_4, hcz12_5, hcz12_6, hcz12_7, hcz12_8, hcz12_9⟩, hfz12_0, hfz12_1, hfz12_2, hfz12_3, hfz12_4, hfz12_5, hfz12_6, hfz12_7, hfz12_8, hfz12_9⟩ := cz10 BK433.out) | ((with_reducible refine gate_callee (f := 40) rfl ?_); refine goesL_ (some 5) rfl rfl Tryd.func40 (by kernel_rfl) rfl #[.slice A0_3 l0_3.length c0_3] rfl (by (try simp only [List.map_toArray, List.map_cons, List.map_nil]); first | done | rfl | (simp only [List.length_drop, List.length_take]; rfl)) ?_; (with_reducible refine (marlinelaw12_Few.calls k _ _ l0_3 true _ ?side1 ?side2 A2.out).mono ?_); (case side1 => repeat (first | exact (Kd.C_below HR0_3.out HB.out) | (with_reducible refine Kd.C_alloc ?_ _) | (with_reducible refine Kd.C_drewN ?_ _) | (with_reducible refine Kd.C_drew ?_))); (case side2 => exact HC0_3.out); rintro e w13 ⟨rfl, hb⟩; refine ⟨_, rfl, ?_⟩; have n0_ := Aside0.mk (blk_below (g := gb433) (o := .cells #[.int .u16 a0_0, .int .u8 a0_1, .int .u8 a0_2, .slice A0_3 l0_3.length c0_3, .int .u16 a0_4, .int .u32 a0_5, .slice A0_6 l0_6.length c0_6, .slice A0_7 l0_7.length c0_7, .slice A0_8 l0_8.length c0_8, .slice A0_9 l0_9.length c0_9] 42 (0, 0)) (by (with_reducible repeat (first | refine blk_drewN ?_ _ | refine blk_drew ?_ | refine blk_alloc ?_ _)); exact BK433.out) hb); have n1_ := Aside0.mk (below_step (by repeat (first | (with_reducible first | exact HB.out | apply below_alloc | apply pw_below_drewN | apply below_drew1 | refine below_set ?_ GE433.out) | exact HB.out)) hb); clear BK433; clear HB; have BK433 := n0_; have HB := n1_; clear n0_ n1_; (try clear hb); (try clear hb2); (try clear hk); (try clear hi); obtain ⟨⟨hcz14_0, hcz14_1, hcz14_2, hcz14_3, hcz14_4, hcz14_5, hcz14_6, hcz14_7, hcz14_8, hcz14_9⟩, hfz14_0, hfz14_1, hfz14_2, hfz14_3, hfz14_4, hfz14_5, hfz14_6, hfz14_7, hfz14_8, hfz14_9⟩ := cz10 BK433.out))
         go_ret
         exact ⟨by first | rfl | (simp [errW_none, errW_some] <;> rfl) | (simp [*, errW_none, errW_some] <;> rfl), by repeat (first | (with_reducible first | exact HB.out | apply below_alloc | apply pw_below_drewN | apply below_drew1 | refine below_set ?_ GE433.out) | exact HB.out)⟩
     · rw [if_neg c5] at H
       have c5b0 : decide ((l0_7.length : Int) ≤ 600) = false := decide_eq_false c5
       have c5b1 : decide (l0_7.length ≤ 600) = false := decide_eq_false (by omega)
       clear c5
       obtain rfl := Option.some.inj H
       go_enter Tryd.func23, Tryd.ntmps23
       go_wp2_with (first | ((with_reducible refine gate_dst (N := 1) rfl ?_); (try (refine gate_guard (by rfl) ?_; dsimp only)); refine box_event ?hg (N := 1) ?hd (cs := #[.int .u16 a0_0, .int .u8 a0_1, .int .u8 a0_2, .slice A0_3 l0_3.length c0_3, .int .u16 a0_4, .int .u32 a0_5, .slice A0_6 l0_6.length c0_6, .slice A0_7 l0_7.length c0_7, .slice A0_8 l0_8.length c0_8, .slice A0_9 l0_9.length c0_9]) (t := 42) ?hr ?_; (case hd => rfl); (case hg => rfl); (case hr => first | (go_simp; done) | (go_simp; simp only [IntKind.wrap_u8, IntKind.wrap_u16, IntKind.wrap_u32, IntKind.wrap_u64]; done) | (go_simp; simp only [IntKind.wrap_u8, IntKind.wrap_u16, IntKind.wrap_u32, IntKind.wrap_u64, Int.tmod_eq_emod_of_nonneg (Int.natCast_nonneg _), Int.emod_emod]; done) | (go_simp; rfl)); intro gb433 hg w15 hbox hb; have n0_ := Aside0.mk (below_step (by repeat (first | (with_reducible first | exact HB.out | apply below_alloc | apply pw_below_drewN | apply below_drew1) | exact HB.out)) hb); have n1_ := Aside0.mk (hbox); have n2_ := Aside0.mk ((by rw [hg]; exact (below_size (by repeat (first | (with_reducible first | exact HB.out | apply below_alloc | apply pw_below_drewN | apply below_drew1) | exact HB.out))) : w.heap.size ≤ gb433)); have n3_ := Aside0.mk ((by rw [hg]; exact (below_size (by repeat (first | (with_reducible first | exact HB.out | apply below_alloc | apply pw_below_drewN | apply below_drew1) | exact HB.out))) : w.heap.size ≤ gb433)); clear HB; have HB := n0_; have BK433 := n1_; have GW433 := n2_; have GE433 := n3_; clear n0_ n1_ n2_ n3_; clear hb hbox hg; obtain ⟨⟨hcz16_0, hcz16_1, hcz16_2, hcz16_3, hcz16_4, hcz16_5, hcz16_6, hcz16_7, hcz16_8, hcz16_9⟩, hfz16_0, hfz16_1, hfz16_2, hfz16_3, hfz16_4, hfz16_5, hfz16_6, hfz16_7, hfz16_8, hfz16_9⟩ := cz10 BK433.out) | ((with_reducible refine gate_callee (f := 40) rfl ?_); refine goesL_ (some 5) rfl rfl Tryd.func40 (by kernel_rfl) rfl #[.slice A0_3 l0_3.length c0_3] rfl (by (try simp only [List.map_toArray, List.map_cons, List.map_nil]); first | done | rfl | (simp only [List.length_drop, List.length_take]; rfl)) ?_; (with_reducible refine (marlinelaw12_Few.calls k _ _ l0_3 true _ ?side1 ?side2 A2.out).mono ?_); (case side1 => repeat (first | exact (Kd.C_below HR0_3.out HB.out) | (with_reducible refine Kd.C_alloc ?_ _) | (with_reducible refine Kd.C_drewN ?_ _) | (with_reducible refine Kd.C_drew ?_))); (case side2 => exact HC0_3.out); rintro e w17 ⟨rfl, hb⟩; refine ⟨_, rfl, ?_⟩; have n0_ := Aside0.mk (blk_below (g := gb433) (o := .cells #[.int .u16 a0_0, .int .u8 a0_1, .int .u8 a0_2, .slice A0_3 l0_3.length c0_3, .int .u16 a0_4, .int .u32 a0_5, .slice A0_6 l0_6.length c0_6, .slice A0_7 l0_7.length c0_7, .slice A0_8 l0_8.length c0_8, .slice A0_9 l0_9.length c0_9] 42 (0, 0)) (by (with_reducible repeat (first | refine blk_drewN ?_ _ | refine blk_drew ?_ | refine blk_alloc ?_ _)); exact BK433.out) hb); have n1_ := Aside0.mk (below_step (by repeat (first | (with_reducible first | exact HB.out | apply below_alloc | apply pw_below_drewN | apply below_drew1 | refine below_set ?_ GE433.out) | exact HB.out)) hb); clear BK433; clear HB; have BK433 := n0_; have HB := n1_; clear n0_ n1_; (try clear hb); (try clear hb2); (try clear hk); (try clear hi); obtain ⟨⟨hcz18_0, hcz18_1, hcz18_2, hcz18_3, hcz18_4, hcz18_5, hcz18_6, hcz18_7, hcz18_8, hcz18_9⟩, hfz18_0, hfz18_1, hfz18_2, hfz18_3, hfz18_4, hfz18_5, hfz18_6, hfz18_7, hfz18_8, hfz18_9⟩ := cz10 BK433.out))
       go_ret
       exact ⟨by first | rfl | (simp [errW_none, errW_some] <;> rfl) | (simp [*, errW_none, errW_some] <;> rfl), by repeat (first | (with_reducible first | exact HB.out | apply below_alloc | apply pw_below_drewN | apply below_drew1 | refine below_set ?_ GE433.out) | exact HB.out)⟩
   · rw [if_neg c4] at H
     have c4b0 : decide ((l0_6.length : Int) ≤ 600) = false := decide_eq_false c4
     have c4b1 : decide (l0_6.length ≤ 600) = false := decide_eq_false (by omega)
     clear c4
     obtain rfl := Option.some.inj H
     go_enter Tryd.func23, Tryd.ntmps23
     go_wp2_with (first | ((with_reducible refine gate_dst (N := 1) rfl ?_); (try (refine gate_guard (by rfl) ?_; dsimp only)); refine box_event ?hg (N := 1) ?hd (cs := #[.int .u16 a0_0, .int .u8 a0_1, .int .u8 a0_2, .slice A0_3 l0_3.length c0_3, .int .u16 a0_4, .int .u32 a0_5, .slice A0_6 l0_6.length c0_6, .slice A0_7 l0_7.length c0_7, .slice A0_8 l0_8.length c0_8, .slice A0_9 l0_9.length c0_9]) (t := 42) ?hr ?_; (case hd => rfl); (case hg => rfl); (case hr => first | (go_simp; done) | (go_simp; simp only [IntKind.wrap_u8, IntKind.wrap_u16, IntKind.wrap_u32, IntKind.wrap_u64]; done) | (go_simp; simp only [IntKind.wrap_u8, IntKind.wrap_u16, IntKind.wrap_u32, IntKind.wrap_u64, Int.tmod_eq_emod_of_nonneg (Int.natCast_nonneg _), Int.emod_emod]; done) | (go_simp; rfl)); intro gb433 hg w19 hbox hb; have n0_ := Aside0.mk (below_step (by repeat (first | (with_reducible first | exact HB.out | apply below_alloc | apply pw_below_drewN | apply below_drew1) | exact HB.out)) hb); have n1_ := Aside0.mk (hbox); have n2_ := Aside0.mk ((by rw [hg]; exact (below_size (by repeat (first | (with_reducible first | exact HB.out | apply below_alloc | apply pw_below_drewN | apply below_drew1) | exact HB.out))) : w.heap.size ≤ gb433)); have n3_ := Aside0.mk ((by rw [hg]; exact (below_size (by repeat (first | (with_reducible first | exact HB.out | apply below_alloc | apply pw_below_drewN | apply below_drew1) | exact HB.out))) : w.heap.size ≤ gb433)); clear HB; have HB := n0_; have BK433 := n1_; have GW433 := n2_; have GE433 := n3_; clear n0_ n1_ n2_ n3_; clear hb hbox hg; obtain ⟨⟨hcz20_0, hcz20_1, hcz20_2, hcz20_3, hcz20_4, hcz20_5, hcz20_6, hcz20_7, hcz20_8, hcz20_9⟩, hfz20_0, hfz20_1, hfz20_2, hfz20_3, hfz20_4, hfz20_5, hfz20_6, hfz20_7, hfz20_8, hfz20_9⟩ := cz10 BK433.out) | ((with_reducible refine gate_callee (f := 40) rfl ?_); refine goesL_ (some 5) rfl rfl Tryd.func40 (by kernel_rfl) rfl #[.slice A0_3 l0_3.length c0_3] rfl (by (try simp only [List.map_toArray, List.map_cons, List.map_nil]); first | done | rfl | (simp only [List.length_drop, List.length_take]; rfl)) ?_; (with_reducible refine (marlinelaw12_Few.calls k _ _ l0_3 true _ ?side1 ?side2 A2.out).mono ?_); (case side1 => repeat (first | exact (Kd.C_below HR0_3.out HB.out) | (with_reducible refine Kd.C_alloc ?_ _) | (with_reducible refine Kd.C_drewN ?_ _) | (with_reducible refine Kd.C_drew ?_))); (case side2 => exact HC0_3.out); rintro e w21 ⟨rfl, hb⟩; refine ⟨_, rfl, ?_⟩; have n0_ := Aside0.mk (blk_below (g := gb433) (o := .cells #[.int .u16 a0_0, .int .u8 a0_1, .int .u8 a0_2, .slice A0_3 l0_3.length c0_3, .int .u16 a0_4, .int .u32 a0_5, .slice A0_6 l0_6.length c0_6, .slice A0_7 l0_7.length c0_7, .slice A0_8 l0_8.length c0_8, .slice A0_9 l0_9.length c0_9] 42 (0, 0)) (by (with_reducible repeat (first | refine blk_drewN ?_ _ | refine blk_drew ?_ | refine blk_alloc ?_ _)); exact BK433.out) hb); have n1_ := Aside0.mk (below_step (by repeat (first | (with_reducible first | exact HB.out | apply below_alloc | apply pw_below_drewN | apply below_drew1 | refine below_set ?_ GE433.out) | exact HB.out)) hb); clear BK433; clear HB; have BK433 := n0_; have HB := n1_; clear n0_ n1_; (try clear hb); (try clear hb2); (try clear hk); (try clear hi); obtain ⟨⟨hcz22_0, hcz22_1, hcz22_2, hcz22_3, hcz22_4, hcz22_5, hcz22_6, hcz22_7, hcz22_8, hcz22_9⟩, hfz22_0, hfz22_1, hfz22_2, hfz22_3, hfz22_4, hfz22_5, hfz22_6, hfz22_7, hfz22_8, hfz22_9⟩ := cz10 BK433.out))
     go_ret
     exact ⟨by first | rfl | (simp [errW_none, errW_some] <;> rfl) | (simp [*, errW_none, errW_some] <;> rfl), by repeat (first | (with_reducible first | exact HB.out | apply below_alloc | apply pw_below_drewN | apply below_drew1 | refine below_set ?_ GE433.out) | exact HB.out)⟩
 · replace c3 := Bool.eq_false_iff.mpr c3
   subst c3
   have H1 : (some false) = some r := by rw [if_neg (show ¬ (false = true) by decide)] at H; exact H
   clear H
   have H := H1
   clear H1
   obtain rfl := Option.some.inj H
   go_enter Tryd.func23, Tryd.ntmps23
   go_wp2_with (first | ((with_reducible refine gate_dst (N := 1) rfl ?_); (try (refine gate_guard (by rfl) ?_; dsimp only)); refine box_event ?hg (N := 1) ?hd (cs := #[.int .u16 a0_0, .int .u8 a0_1, .int .u8 a0_2, .slice A0_3 l0_3.length c0_3, .int .u16 a0_4, .int .u32 a0_5, .slice A0_6 l0_6.length c0_6, .slice A0_7 l0_7.length c0_7, .slice A0_8 l0_8.length c0_8, .slice A0_9 l0_9.length c0_9]) (t := 42) ?hr ?_; (case hd => rfl); (case hg => rfl); (case hr => first | (go_simp; done) | (go_simp; simp only [IntKind.wrap_u8, IntKind.wrap_u16, IntKind.wrap_u32, IntKind.wrap_u64]; done) | (go_simp; simp only [IntKind.wrap_u8, IntKind.wrap_u16, IntKind.wrap_u32, IntKind.wrap_u64, Int.tmod_eq_emod_of_nonneg (Int.natCast_nonneg _), Int.emod_emod]; done) | (go_simp; rfl)); intro gb433 hg w23 hbox hb; have n0_ := Aside0.mk (below_step (by repeat (first | (with_reducible first | exact HB.out | apply below_alloc | apply pw_below_drewN | apply below_drew1) | exact HB.out)) hb); have n1_ := Aside0.mk (hbox); have n2_ := Aside0.mk ((by rw [hg]; exact (below_size (by repeat (first | (with_reducible first | exact HB.out | apply below_alloc | apply pw_below_drewN | apply below_drew1) | exact HB.out))) : w.heap.size ≤ gb433)); have n3_ := Aside0.mk ((by rw [hg]; exact (below_size (by repeat (first | (with_reducible first | exact HB.out | apply below_alloc | apply pw_below_drewN | apply below_drew1) | exact HB.out))) : w.heap.size ≤ gb433)); clear HB; have HB := n0_; have BK433 := n1_; have GW433 := n2_; have GE433 := n3_; clear n0_ n1_ n2_ n3_; clear hb hbox hg; obtain ⟨⟨hcz24_0, hcz24_1, hcz24_2, hcz24_3, hcz24_4, hcz24_5, hcz24_6, hcz24_7, hcz24_8, hcz24_9⟩, hfz24_0, hfz24_1, hfz24_2, hfz24_3, hfz24_4, hfz24_5, hfz24_6, hfz24_7, hfz24_8, hfz24_9⟩ := cz10 BK433.out) | ((with_reducible refine gate_callee (f := 40) rfl ?_); refine goesL_ (some 5) rfl rfl Tryd.func40 (by kernel_rfl) rfl #[.slice A0_3 l0_3.length c0_3] rfl (by (try simp only [List.map_toArray, List.map_cons, List.map_nil]); first | done | rfl | (simp only [List.length_drop, List.length_take]; rfl)) ?_; (with_reducible refine (marlinelaw12_Few.calls k _ _ l0_3 false _ ?side1 ?side2 A2.out).mono ?_); (case side1 => repeat (first | exact (Kd.C_below HR0_3.out HB.out) | (with_reducible refine Kd.C_alloc ?_ _) | (with_reducible refine Kd.C_drewN ?_ _) | (with_reducible refine Kd.C_drew ?_))); (case side2 => exact HC0_3.out); rintro e w25 ⟨rfl, hb⟩; refine ⟨_, rfl, ?_⟩; have n0_ := Aside0.mk (blk_below (g := gb433) (o := .cells #[.int .u16 a0_0, .int .u8 a0_1, .int .u8 a0_2, .slice A0_3 l0_3.length c0_3, .int .u16 a0_4, .int .u32 a0_5, .slice A0_6 l0_6.length c0_6, .slice A0_7 l0_7.length c0_7, .slice A0_8 l0_8.length c0_8, .slice A0_9 l0_9.length c0_9] 42 (0, 0)) (by (with_reducible repeat (first | refine blk_drewN ?_ _ | refine blk_drew ?_ | refine blk_alloc ?_ _)); exact BK433.out) hb); have n1_ := Aside0.mk (below_step (by repeat (first | (with_reducible first | exact HB.out | apply below_alloc | apply pw_below_drewN | apply below_drew1 | refine below_set ?_ GE433.out) | exact HB.out)) hb); clear BK433; clear HB; have BK433 := n0_; have HB := n1_; clear n0_ n1_; (try clear hb); (try clear hb2); (try clear hk); (try clear hi)))
   go_ret
   exact ⟨by first | rfl | (simp [errW_none, errW_some] <;> rfl) | (simp [*, errW_none, errW_some] <;> rfl), by repeat (first | (with_reducible first | exact HB.out | apply below_alloc | apply pw_below_drewN | apply below_drew1 | refine below_set ?_ GE433.out) | exact HB.out)⟩
end Go.Proofs.YteanncchmenlkaaDoor.Print
namespace Go.Proofs.YteanncchmenlkaaDoor.Print
open Go.RowKit Go.Proofs.YteanncchmenlkaaDoorW.PrintWords Go.Proofs.YteanncchmenlkaaDoorW.PrintLast Go.Proofs.YteanncchmenlkaaDoorW.PrintMore
attribute [local go_sem] max2_int min2_int max_two min_two max_three min_three max_four min_four
set_option linter.unusedVariables false
set_option linter.unusedSimpArgs false
def marlinelaw15_Of.f (k : Nat) (a0_0 : Int) (a0_1 : Int) (a0_2 : Int) (l0_3 : List (S105)) (a0_4 : Int) (a0_5 : Int) (l0_6 : List Int) (l0_7 : List Int) (l0_8 : List Int) (l0_9 : List Int) : Option (Int × Int × Int × (List (S62)) × Int × Int × List Int × List Int × List Int × List Int) := (marlinelaw12_Of.f k l0_3).bind fun t447 => (some (a0_0, a0_1, a0_2, t447, a0_4, a0_5, l0_6, l0_7, l0_8, l0_9))
def marlinelaw15_Of.T1 : Bool × List (List Nat × List Nat) := (true, [([], []), ([0], [0]), ([], []), ([2], [2]), ([], []), ([4], [4]), ([], []), ([6], [6]), ([7], [7]), ([], []), ([9], [9]), ([], []), ([11], [11]), ([], []), ([13], [13]), ([], []), ([15], [15]), ([], []), ([17], [17]), ([], []), ([19], [19]), ([1, 3, 5, 8, 10, 12, 14, 16, 18, 20], [1, 3, 5, 8, 10, 12, 14, 16, 18, 20]), ([21, 8, 0, 1, 2, 3, 4, 5, 6, 7, 8, 9, 10, 11, 12, 13, 14, 15, 16, 17, 18, 19, 20, 21], [21])])
def marlinelaw15_Of.B1 : List Nat := [0, 1, 0, 4, 0, 16, 0, 64, 192, 0, 512, 0, 2048, 0, 8192, 0, 32768, 0, 131072, 0, 524288, 2097151, 4194303]
theorem marlinelaw15_Of.tab1 : rtab .any (opsOf Tryd.f24 1) = marlinelaw15_Of.T1 := by kernel_rfl
theorem marlinelaw15_Of.bits1 : waitsOk marlinelaw15_Of.T1.2 marlinelaw15_Of.B1 = true := by kernel_rfl
set_option maxHeartbeats 8000000 in
set_option maxRecDepth 100000 in
theorem marlinelaw15_Of.calls (k : Nat) (a0_0 : Int) (a0_1 : Int) (a0_2 : Int) (P0_3_ : Nat → Prop) (A0_3 : Option Addr) (c0_3 : Nat) (l0_3 : List (S105)) (a0_4 : Int) (a0_5 : Int) (P0_6_ : Nat → Prop) (A0_6 : Option Addr) (c0_6 : Nat) (l0_6 : List Int) (P0_7_ : Nat → Prop) (A0_7 : Option Addr) (c0_7 : Nat) (l0_7 : List Int) (P0_8_ : Nat → Prop) (A0_8 : Option Addr) (c0_8 : Nat) (l0_8 : List Int) (P0_9_ : Nat → Prop) (A0_9 : Option Addr) (c0_9 : Nat) (l0_9 : List Int) (r1 : Int) (r2 : Int) (r3 : Int) (r4 : List (S62)) (r5 : Int) (r6 : Int) (r7 : List Int) (r8 : List Int) (r9 : List Int) (r10 : List Int) (w : World) (hs0_3 : Kd.V k105 105 w w.heap.size (fun k_ => P0_3_ k_) (.slice A0_3 l0_3.length c0_3) l0_3) (hs0_6 : Kd.V (Kd.int .u8) 5 w w.heap.size (fun k_ => P0_6_ k_) (.slice A0_6 l0_6.length c0_6) l0_6) (hs0_7 : Kd.V (Kd.int .u8) 5 w w.heap.size (fun k_ => P0_7_ k_) (.slice A0_7 l0_7.length c0_7) l0_7) (hs0_8 : Kd.V (Kd.int .u8) 5 w w.heap.size (fun k_ => P0_8_ k_) (.slice A0_8 l0_8.length c0_8) l0_8) (hs0_9 : Kd.V (Kd.int .u32) 26 w w.heap.size (fun k_ => P0_9_ k_) (.slice A0_9 l0_9.length c0_9) l0_9) (h : marlinelaw15_Of.f k a0_0 a0_1 a0_2 l0_3 a0_4 a0_5 l0_6 l0_7 l0_8 l0_9 = some (r1, r2, r3, r4, r5, r6, r7, r8, r9, r10)) :
 Calls Tryd.prog 24 #[.agg #[.int .u16 a0_0, .int .u8 a0_1, .int .u8 a0_2, .slice A0_3 l0_3.length c0_3, .int .u16 a0_4, .int .u32 a0_5, .slice A0_6 l0_6.length c0_6, .slice A0_7 l0_7.length c0_7, .slice A0_8 l0_8.length c0_8, .slice A0_9 l0_9.length c0_9]] w fun e w' => ∃ v3_ v6_ v7_ v8_ v9_ : Value, e = .returned (.agg #[.int .u16 r1, .int .u8 r2, .int .u8 r3, v3_, .int .u16 r5, .int .u32 r6, v6_, v7_, v8_, v9_]) ∧ Kd.N k62 62 w' w.heap.size (fun k_ => ((P0_3_ k_ ∨ P0_6_ k_ ∨ P0_7_ k_ ∨ P0_8_ k_ ∨ P0_9_ k_) ∨ w.heap.size ≤ k_)) v3_ r4 ∧ Kd.V (Kd.int .u8) 5 w' w.heap.size (fun k_ => ((P0_3_ k_ ∨ P0_6_ k_ ∨ P0_7_ k_ ∨ P0_8_ k_ ∨ P0_9_ k_) ∨ w.heap.size ≤ k_) ∧ some k_ ≠ (v3_ : Value).ownBlock) v6_ r7 ∧ Kd.V (Kd.int .u8) 5 w' w.heap.size (fun k_ => ((P0_3_ k_ ∨ P0_6_ k_ ∨ P0_7_ k_ ∨ P0_8_ k_ ∨ P0_9_ k_) ∨ w.heap.size ≤ k_) ∧ some k_ ≠ (v3_ : Value).ownBlock) v7_ r8 ∧ Kd.V (Kd.int .u8) 5 w' w.heap.size (fun k_ => ((P0_3_ k_ ∨ P0_6_ k_ ∨ P0_7_ k_ ∨ P0_8_ k_ ∨ P0_9_ k_) ∨ w.heap.size ≤ k_) ∧ some k_ ≠ (v3_ : Value).ownBlock) v8_ r9 ∧ Kd.V (Kd.int .u32) 26 w' w.heap.size (fun k_ => ((P0_3_ k_ ∨ P0_6_ k_ ∨ P0_7_ k_ ∨ P0_8_ k_ ∨ P0_9_ k_) ∨ w.heap.size ≤ k_) ∧ some k_ ≠ (v3_ : Value).ownBlock) v9_ r10 ∧ Below w.heap.size w w' := by
 have hu42 := Tryd.underlying42
 have hu29 := Tryd.underlying29
 have HO0_3 := Aside0.mk (show Kd.V k105 105 w w.heap.size (fun k_ => ((P0_3_ k_ ∨ P0_6_ k_ ∨ P0_7_ k_ ∨ P0_8_ k_ ∨ P0_9_ k_) ∨ w.heap.size ≤ k_)) (.slice A0_3 l0_3.length c0_3) l0_3 from Kd.V_mono hs0_3 (fun k_ hk => .inl (.inl hk)))
 have HO0_6 := Aside0.mk (show Kd.V (Kd.int .u8) 5 w w.heap.size (fun k_ => ((P0_3_ k_ ∨ P0_6_ k_ ∨ P0_7_ k_ ∨ P0_8_ k_ ∨ P0_9_ k_) ∨ w.heap.size ≤ k_)) (.slice A0_6 l0_6.length c0_6) l0_6 from Kd.V_mono hs0_6 (fun k_ hk => .inl (.inr (.inl hk))))
 have HO0_7 := Aside0.mk (show Kd.V (Kd.int .u8) 5 w w.heap.size (fun k_ => ((P0_3_ k_ ∨ P0_6_ k_ ∨ P0_7_ k_ ∨ P0_8_ k_ ∨ P0_9_ k_) ∨ w.heap.size ≤ k_)) (.slice A0_7 l0_7.length c0_7) l0_7 from Kd.V_mono hs0_7 (fun k_ hk => .inl (.inr (.inr (.inl hk)))))
 have HO0_8 := Aside0.mk (show Kd.V (Kd.int .u8) 5 w w.heap.size (fun k_ => ((P0_3_ k_ ∨ P0_6_ k_ ∨ P0_7_ k_ ∨ P0_8_ k_ ∨ P0_9_ k_) ∨ w.heap.size ≤ k_)) (.slice A0_8 l0_8.length c0_8) l0_8 from Kd.V_mono hs0_8 (fun k_ hk => .inl (.inr (.inr (.inr (.inl hk))))))
 have HO0_9 := Aside0.mk (show Kd.V (Kd.int .u32) 26 w w.heap.size (fun k_ => ((P0_3_ k_ ∨ P0_6_ k_ ∨ P0_7_ k_ ∨ P0_8_ k_ ∨ P0_9_ k_) ∨ w.heap.size ≤ k_)) (.slice A0_9 l0_9.length c0_9) l0_9 from Kd.V_mono hs0_9 (fun k_ hk => .inl (.inr (.inr (.inr (.inr hk))))))
 have HB := Aside0.mk (Below.refl w.heap.size w)
 have H : ((marlinelaw12_Of.f k l0_3).bind fun t447 => (some (a0_0, a0_1, a0_2, t447, a0_4, a0_5, l0_6, l0_7, l0_8, l0_9))) = some (r1, r2, r3, r4, r5, r6, r7, r8, r9, r10) := h
 clear h
 replace H := Option.bind_eq_some_iff.mp H
 obtain ⟨t447, A20, H⟩ := H
 replace H : (some (a0_0, a0_1, a0_2, t447, a0_4, a0_5, l0_6, l0_7, l0_8, l0_9)) = some (r1, r2, r3, r4, r5, r6, r7, r8, r9, r10) := H
 have A2 := Aside0.mk A20
 clear A20
 simp only [Option.some.injEq, Prod.mk.injEq] at H
 obtain ⟨rfl, rfl, rfl, rfl, rfl, rfl, rfl, rfl, rfl, rfl⟩ := H
 go_enter Tryd.func24, Tryd.ntmps24
 try go_wp2_with (first | ((with_reducible refine gate_dst (N := 1) rfl ?_); refine box_event ?hg (N := 1) ?hd (cs := #[.int .u16 a0_0, .int .u8 a0_1, .int .u8 a0_2, .slice A0_3 l0_3.length c0_3, .int .u16 a0_4, .int .u32 a0_5, .slice A0_6 l0_6.length c0_6, .slice A0_7 l0_7.length c0_7, .slice A0_8 l0_8.length c0_8, .slice A0_9 l0_9.length c0_9]) (t := 42) ?hr ?_; (case hd => rfl); (case hg => rfl); (case hr => first | (go_simp; done) | (go_simp; simp only [IntKind.wrap_u8, IntKind.wrap_u16, IntKind.wrap_u32, IntKind.wrap_u64]; done) | (go_simp; simp only [IntKind.wrap_u8, IntKind.wrap_u16, IntKind.wrap_u32, IntKind.wrap_u64, Int.tmod_eq_emod_of_nonneg (Int.natCast_nonneg _), Int.emod_emod]; done) | (go_simp; rfl)); intro gb445 hg w3 hbox hb; have n0_ := Aside0.mk (Kd.V_below (Kd.V_elderB (by (with_reducible repeat (first | apply Kd.V_alloc | apply Kd.V_drewN | apply Kd.V_drew)); exact HO0_3.out) gb445 (Nat.le_of_eq hg.symm)) hb); have n1_ := Aside0.mk (Kd.V_below (Kd.V_elderB (by (with_reducible repeat (first | apply Kd.V_alloc | apply Kd.V_drewN | apply Kd.V_drew)); exact HO0_6.out) gb445 (Nat.le_of_eq hg.symm)) hb); have n2_ := Aside0.mk (Kd.V_below (Kd.V_elderB (by (with_reducible repeat (first | apply Kd.V_alloc | apply Kd.V_drewN | apply Kd.V_drew)); exact HO0_7.out) gb445 (Nat.le_of_eq hg.symm)) hb); have n3_ := Aside0.mk (Kd.V_below (Kd.V_elderB (by (with_reducible repeat (first | apply Kd.V_alloc | apply Kd.V_drewN | apply Kd.V_drew)); exact HO0_8.out) gb445 (Nat.le_of_eq hg.symm)) hb); have n4_ := Aside0.mk (Kd.V_below (Kd.V_elderB (by (with_reducible repeat (first | apply Kd.V_alloc | apply Kd.V_drewN | apply Kd.V_drew)); exact HO0_9.out) gb445 (Nat.le_of_eq hg.symm)) hb); have n5_ := Aside0.mk (below_step (by repeat (first | (with_reducible first | exact HB.out | apply below_alloc | apply pw_below_drewN | apply below_drew1) | exact HB.out)) hb); have n6_ := Aside0.mk (hbox); have n7_ := Aside0.mk ((by rw [hg]; exact (below_size (by repeat (first | (with_reducible first | exact HB.out | apply below_alloc | apply pw_below_drewN | apply below_drew1) | exact HB.out))) : w.heap.size ≤ gb445)); have n8_ := Aside0.mk ((by rw [hg]; exact (below_size (by repeat (first | (with_reducible first | exact HB.out | apply below_alloc | apply pw_below_drewN | apply below_drew1) | exact HB.out))) : w.heap.size ≤ gb445)); clear HO0_3; clear HO0_6; clear HO0_7; clear HO0_8; clear HO0_9; clear HB; have HO0_3 := n0_; have HO0_6 := n1_; have HO0_7 := n2_; have HO0_8 := n3_; have HO0_9 := n4_; have HB := n5_; have BK445 := n6_; have GW445 := n7_; have GE445 := n8_; clear n0_ n1_ n2_ n3_ n4_ n5_ n6_ n7_ n8_; clear hb hbox hg) | ((with_reducible refine gate_dst (N := 2) rfl ?_); refine box_event ?hg (N := 2) ?hd (cs := #[.int .u16 0, .int .u8 0, .int .u8 0, .slice none 0 0, .int .u16 0, .int .u32 0, .slice none 0 0, .slice none 0 0, .slice none 0 0, .slice none 0 0]) (t := 29) ?hr ?_; (case hd => rfl); (case hg => rfl); (case hr => first | (go_simp; done) | (go_simp; simp only [IntKind.wrap_u8, IntKind.wrap_u16, IntKind.wrap_u32, IntKind.wrap_u64]; done) | (go_simp; simp only [IntKind.wrap_u8, IntKind.wrap_u16, IntKind.wrap_u32, IntKind.wrap_u64, Int.tmod_eq_emod_of_nonneg (Int.natCast_nonneg _), Int.emod_emod]; done) | (go_simp; rfl)); intro gb446 hg w4 hbox hb; have n0_ := Aside0.mk (Kd.V_below (Kd.V_elderB (by (with_reducible repeat (first | apply Kd.V_alloc | apply Kd.V_drewN | apply Kd.V_drew)); exact HO0_3.out) gb446 (Nat.le_of_eq hg.symm)) hb); have n1_ := Aside0.mk (Kd.V_below (Kd.V_elderB (by (with_reducible repeat (first | apply Kd.V_alloc | apply Kd.V_drewN | apply Kd.V_drew)); exact HO0_6.out) gb446 (Nat.le_of_eq hg.symm)) hb); have n2_ := Aside0.mk (Kd.V_below (Kd.V_elderB (by (with_reducible repeat (first | apply Kd.V_alloc | apply Kd.V_drewN | apply Kd.V_drew)); exact HO0_7.out) gb446 (Nat.le_of_eq hg.symm)) hb); have n3_ := Aside0.mk (Kd.V_below (Kd.V_elderB (by (with_reducible repeat (first | apply Kd.V_alloc | apply Kd.V_drewN | apply Kd.V_drew)); exact HO0_8.out) gb446 (Nat.le_of_eq hg.symm)) hb); have n4_ := Aside0.mk (Kd.V_below (Kd.V_elderB (by (with_reducible repeat (first | apply Kd.V_alloc | apply Kd.V_drewN | apply Kd.V_drew)); exact HO0_9.out) gb446 (Nat.le_of_eq hg.symm)) hb); have n5_ := Aside0.mk (blk_below (g := gb445) (o := .cells #[.int .u16 a0_0, .int .u8 a0_1, .int .u8 a0_2, .slice A0_3 l0_3.length c0_3, .int .u16 a0_4, .int .u32 a0_5, .slice A0_6 l0_6.length c0_6, .slice A0_7 l0_7.length c0_7, .slice A0_8 l0_8.length c0_8, .slice A0_9 l0_9.length c0_9] 42 (0, 0)) (by (with_reducible repeat (first | refine blk_drewN ?_ _ | refine blk_drew ?_ | refine blk_alloc ?_ _)); exact BK445.out) hb); have n6_ := Aside0.mk (below_step (by repeat (first | (with_reducible first | exact HB.out | apply below_alloc | apply pw_below_drewN | apply below_drew1 | refine below_set ?_ GE445.out) | exact HB.out)) hb); have n7_ := Aside0.mk (hbox); have n8_ := Aside0.mk ((by rw [hg]; exact (below_size (by repeat (first | (with_reducible first | exact HB.out | apply below_alloc | apply pw_below_drewN | apply below_drew1 | refine below_set ?_ GE445.out) | exact HB.out))) : w.heap.size ≤ gb446)); have n9_ := Aside0.mk ((by rw [hg]; exact (below_size (by repeat (first | (with_reducible first | exact HB.out | apply below_alloc | apply pw_below_drewN | apply below_drew1 | refine below_set ?_ GE445.out) | exact HB.out))) : w.heap.size ≤ gb446)); have n10_ := Aside0.mk ((by rw [hg]; exact Nat.ne_of_lt (blk_lt (g := gb445) (o := .cells #[.int .u16 a0_0, .int .u8 a0_1, .int .u8 a0_2, .slice A0_3 l0_3.length c0_3, .int .u16 a0_4, .int .u32 a0_5, .slice A0_6 l0_6.length c0_6, .slice A0_7 l0_7.length c0_7, .slice A0_8 l0_8.length c0_8, .slice A0_9 l0_9.length c0_9] 42 (0, 0)) (by (with_reducible repeat (first | refine blk_drewN ?_ _ | refine blk_drew ?_ | refine blk_alloc ?_ _)); exact BK445.out)) : gb445 ≠ gb446)); have n11_ := Aside0.mk ((by rw [hg]; exact Nat.ne_of_gt (blk_lt (g := gb445) (o := .cells #[.int .u16 a0_0, .int .u8 a0_1, .int .u8 a0_2, .slice A0_3 l0_3.length c0_3, .int .u16 a0_4, .int .u32 a0_5, .slice A0_6 l0_6.length c0_6, .slice A0_7 l0_7.length c0_7, .slice A0_8 l0_8.length c0_8, .slice A0_9 l0_9.length c0_9] 42 (0, 0)) (by (with_reducible repeat (first | refine blk_drewN ?_ _ | refine blk_drew ?_ | refine blk_alloc ?_ _)); exact BK445.out)) : gb446 ≠ gb445)); clear HO0_3; clear HO0_6; clear HO0_7; clear HO0_8; clear HO0_9; clear BK445; clear HB; have HO0_3 := n0_; have HO0_6 := n1_; have HO0_7 := n2_; have HO0_8 := n3_; have HO0_9 := n4_; have BK445 := n5_; have HB := n6_; have BK446 := n7_; have GW446 := n8_; have GE446 := n9_; have NB445_446 := n10_; have NB446_445 := n11_; clear n0_ n1_ n2_ n3_ n4_ n5_ n6_ n7_ n8_ n9_ n10_ n11_; clear hb hbox hg))
 have n0_ := Aside0.mk (Kd.V_drew HO0_3.out)
 have n1_ := Aside0.mk (Kd.V_drew HO0_6.out)
 have n2_ := Aside0.mk (Kd.V_drew HO0_7.out)
 have n3_ := Aside0.mk (Kd.V_drew HO0_8.out)
 have n4_ := Aside0.mk (Kd.V_drew HO0_9.out)
 have n5_ := Aside0.mk (blk_drew BK445.out)
 have n6_ := Aside0.mk (blk_drew BK446.out)
 have n7_ := Aside0.mk (below_drew1 HB.out)
 clear HO0_3
 clear HO0_6
 clear HO0_7
 clear HO0_8
 clear HO0_9
 clear BK445
 clear BK446
 clear HB
 have HO0_3 := n0_
 have HO0_6 := n1_
 have HO0_7 := n2_
 have HO0_8 := n3_
 have HO0_9 := n4_
 have BK445 := n5_
 have BK446 := n6_
 have HB := n7_
 clear n0_ n1_ n2_ n3_ n4_ n5_ n6_ n7_
 refine start_ (n := 23) (S := fun w' => w'.cell? ⟨gb445, 0, none⟩ = some (.int .u16 a0_0) ∧ w'.cell? ⟨gb445, 1, none⟩ = some (.int .u8 a0_1) ∧ w'.cell? ⟨gb445, 2, none⟩ = some (.int .u8 a0_2) ∧ w'.cell? ⟨gb445, 3, none⟩ = some (.slice A0_3 l0_3.length c0_3) ∧ w'.cell? ⟨gb445, 4, none⟩ = some (.int .u16 a0_4) ∧ w'.cell? ⟨gb445, 5, none⟩ = some (.int .u32 a0_5) ∧ w'.cell? ⟨gb445, 6, none⟩ = some (.slice A0_6 l0_6.length c0_6) ∧ w'.cell? ⟨gb445, 7, none⟩ = some (.slice A0_7 l0_7.length c0_7) ∧ w'.cell? ⟨gb445, 8, none⟩ = some (.slice A0_8 l0_8.length c0_8) ∧ w'.cell? ⟨gb445, 9, none⟩ = some (.slice A0_9 l0_9.length c0_9)) (ds := []) #[false, false, false, false, false, false, false, false, false, false, false, false, false, false, false, false, false, false, false, false, false, false, false] (by kernel_rfl) rfl rfl ⟨(blk_cell BK445.out 0).trans rfl, (blk_cell BK445.out 1).trans rfl, (blk_cell BK445.out 2).trans rfl, (blk_cell BK445.out 3).trans rfl, (blk_cell BK445.out 4).trans rfl, (blk_cell BK445.out 5).trans rfl, (blk_cell BK445.out 6).trans rfl, (blk_cell BK445.out 7).trans rfl, (blk_cell BK445.out 8).trans rfl, (blk_cell BK445.out 9).trans rfl⟩ (fun hHeld => ?_); refine with_tabW marlinelaw15_Of.tab1 marlinelaw15_Of.bits1 (fun HT_ HW_ => ?_)
 generalize w4.drew = w5 at HO0_3 HO0_6 HO0_7 HO0_8 HO0_9 BK445 BK446 HB hHeld ⊢
 refine pure_ (i := 0) (N := some 3) (v := ?_) (a' := ?_) #[true, false, false, false, false, false, false, false, false, false, false, false, false, false, false, false, false, false, false, false, false, false, false] rfl rfl (any_of HT_.out (by kernel_rfl)) (fun _ _ _ h => h) (Or.inl ⟨by rfl, ?_⟩) ?_ ?_
 rotate_left
 · intro w'
   go_simp
   with_reducible rfl
 rotate_left
 · simp only [Act.put, List.setIfInBounds_toArray, List.set_cons_zero, List.set_cons_succ, i64_w, i32_w]
   rfl
 refine pure_ (i := 2) (N := some 5) (v := ?_) (a' := ?_) #[true, false, true, false, false, false, false, false, false, false, false, false, false, false, false, false, false, false, false, false, false, false, false] rfl rfl (any_of HT_.out (by kernel_rfl)) (fun _ _ _ h => h) (Or.inl ⟨by rfl, ?_⟩) ?_ ?_
 rotate_left
 · intro w'
   go_simp
   with_reducible rfl
 rotate_left
 · simp only [Act.put, List.setIfInBounds_toArray, List.set_cons_zero, List.set_cons_succ, i64_w, i32_w]
   rfl
 refine pure_ (i := 4) (N := some 7) (v := ?_) (a' := ?_) #[true, false, true, false, true, false, false, false, false, false, false, false, false, false, false, false, false, false, false, false, false, false, false] rfl rfl (any_of HT_.out (by kernel_rfl)) (fun _ _ _ h => h) (Or.inl ⟨by rfl, ?_⟩) ?_ ?_
 rotate_left
 · intro w'
   go_simp
   with_reducible rfl
 rotate_left
 · simp only [Act.put, List.setIfInBounds_toArray, List.set_cons_zero, List.set_cons_succ, i64_w, i32_w]
   rfl
 refine pure_ (i := 6) (N := some 9) (v := ?_) (a' := ?_) #[true, false, true, false, true, false, true, false, false, false, false, false, false, false, false, false, false, false, false, false, false, false, false] rfl rfl (any_of HT_.out (by kernel_rfl)) (fun _ _ _ h => h) (Or.inl ⟨by rfl, ?_⟩) ?_ ?_
 rotate_left
 · intro w'
   go_simp
   with_reducible rfl
 rotate_left
 · simp only [Act.put, List.setIfInBounds_toArray, List.set_cons_zero, List.set_cons_succ, i64_w, i32_w]
   rfl
 refine pure_ (i := 9) (N := some 12) (v := ?_) (a' := ?_) #[true, false, true, false, true, false, true, false, false, true, false, false, false, false, false, false, false, false, false, false, false, false, false] rfl rfl (any_of HT_.out (by kernel_rfl)) (fun _ _ _ h => h) (Or.inl ⟨by rfl, ?_⟩) ?_ ?_
 rotate_left
 · intro w'
   go_simp
   with_reducible rfl
 rotate_left
 · simp only [Act.put, List.setIfInBounds_toArray, List.set_cons_zero, List.set_cons_succ, i64_w, i32_w]
   rfl
 refine pure_ (i := 11) (N := some 14) (v := ?_) (a' := ?_) #[true, false, true, false, true, false, true, false, false, true, false, true, false, false, false, false, false, false, false, false, false, false, false] rfl rfl (any_of HT_.out (by kernel_rfl)) (fun _ _ _ h => h) (Or.inl ⟨by rfl, ?_⟩) ?_ ?_
 rotate_left
 · intro w'
   go_simp
   with_reducible rfl
 rotate_left
 · simp only [Act.put, List.setIfInBounds_toArray, List.set_cons_zero, List.set_cons_succ, i64_w, i32_w]
   rfl
 refine pure_ (i := 13) (N := some 16) (v := ?_) (a' := ?_) #[true, false, true, false, true, false, true, false, false, true, false, true, false, true, false, false, false, false, false, false, false, false, false] rfl rfl (any_of HT_.out (by kernel_rfl)) (fun _ _ _ h => h) (Or.inl ⟨by rfl, ?_⟩) ?_ ?_
 rotate_left
 · intro w'
   go_simp
   with_reducible rfl
 rotate_left
 · simp only [Act.put, List.setIfInBounds_toArray, List.set_cons_zero, List.set_cons_succ, i64_w, i32_w]
   rfl
 refine pure_ (i := 15) (N := some 18) (v := ?_) (a' := ?_) #[true, false, true, false, true, false, true, false, false, true, false, true, false, true, false, true, false, false, false, false, false, false, false] rfl rfl (any_of HT_.out (by kernel_rfl)) (fun _ _ _ h => h) (Or.inl ⟨by rfl, ?_⟩) ?_ ?_
 rotate_left
 · intro w'
   go_simp
   with_reducible rfl
 rotate_left
 · simp only [Act.put, List.setIfInBounds_toArray, List.set_cons_zero, List.set_cons_succ, i64_w, i32_w]
   rfl
 refine pure_ (i := 17) (N := some 20) (v := ?_) (a' := ?_) #[true, false, true, false, true, false, true, false, false, true, false, true, false, true, false, true, false, true, false, false, false, false, false] rfl rfl (any_of HT_.out (by kernel_rfl)) (fun _ _ _ h => h) (Or.inl ⟨by rfl, ?_⟩) ?_ ?_
 rotate_left
 · intro w'
   go_simp
   with_reducible rfl
 rotate_left
 · simp only [Act.put, List.setIfInBounds_toArray, List.set_cons_zero, List.set_cons_succ, i64_w, i32_w]
   rfl
 refine pure_ (i := 19) (N := some 22) (v := ?_) (a' := ?_) #[true, false, true, false, true, false, true, false, false, true, false, true, false, true, false, true, false, true, false, true, false, false, false] rfl rfl (any_of HT_.out (by kernel_rfl)) (fun _ _ _ h => h) (Or.inl ⟨by rfl, ?_⟩) ?_ ?_
 rotate_left
 · intro w'
   go_simp
   with_reducible rfl
 rotate_left
 · simp only [Act.put, List.setIfInBounds_toArray, List.set_cons_zero, List.set_cons_succ, i64_w, i32_w]
   rfl
 refine take_ (i := 1) (N := some 4) (v := ?_) (a' := ?_) #[true, true, true, false, true, false, true, false, false, true, false, true, false, true, false, true, false, true, false, true, false, false, false] rfl rfl (take_ofW HT_.out HW_.out (by kernel_rfl)) (fun _ _ _ h => h) (Or.inl ⟨by rfl, ?_⟩) hHeld ?_ ?_
 rotate_left
 · rintro w' ⟨s0, s1, s2, s3, s4, s5, s6, s7, s8, s9⟩
   go_simp
   with_reducible rfl
 rotate_left
 · simp only [Act.put, List.setIfInBounds_toArray, List.set_cons_zero, List.set_cons_succ, i64_w, i32_w]
   rfl
 refine take_ (i := 3) (N := some 6) (v := ?_) (a' := ?_) #[true, true, true, true, true, false, true, false, false, true, false, true, false, true, false, true, false, true, false, true, false, false, false] rfl rfl (take_ofW HT_.out HW_.out (by kernel_rfl)) (fun _ _ _ h => h) (Or.inl ⟨by rfl, ?_⟩) hHeld ?_ ?_
 rotate_left
 · rintro w' ⟨s0, s1, s2, s3, s4, s5, s6, s7, s8, s9⟩
   go_simp
   with_reducible rfl
 rotate_left
 · simp only [Act.put, List.setIfInBounds_toArray, List.set_cons_zero, List.set_cons_succ, i64_w, i32_w]
   rfl
 refine take_ (i := 5) (N := some 8) (v := ?_) (a' := ?_) #[true, true, true, true, true, true, true, false, false, true, false, true, false, true, false, true, false, true, false, true, false, false, false] rfl rfl (take_ofW HT_.out HW_.out (by kernel_rfl)) (fun _ _ _ h => h) (Or.inl ⟨by rfl, ?_⟩) hHeld ?_ ?_
 rotate_left
 · rintro w' ⟨s0, s1, s2, s3, s4, s5, s6, s7, s8, s9⟩
   go_simp
   with_reducible rfl
 rotate_left
 · simp only [Act.put, List.setIfInBounds_toArray, List.set_cons_zero, List.set_cons_succ, i64_w, i32_w]
   rfl
 refine take_ (i := 7) (N := some 10) (v := ?_) (a' := ?_) #[true, true, true, true, true, true, true, true, false, true, false, true, false, true, false, true, false, true, false, true, false, false, false] rfl rfl (take_ofW HT_.out HW_.out (by kernel_rfl)) (fun _ _ _ h => h) (Or.inl ⟨by rfl, ?_⟩) hHeld ?_ ?_
 rotate_left
 · rintro w' ⟨s0, s1, s2, s3, s4, s5, s6, s7, s8, s9⟩
   go_simp
   with_reducible rfl
 rotate_left
 · simp only [Act.put, List.setIfInBounds_toArray, List.set_cons_zero, List.set_cons_succ, i64_w, i32_w]
   rfl
 refine take_ (i := 10) (N := some 13) (v := ?_) (a' := ?_) #[true, true, true, true, true, true, true, true, false, true, true, true, false, true, false, true, false, true, false, true, false, false, false] rfl rfl (take_ofW HT_.out HW_.out (by kernel_rfl)) (fun _ _ _ h => h) (Or.inl ⟨by rfl, ?_⟩) hHeld ?_ ?_
 rotate_left
 · rintro w' ⟨s0, s1, s2, s3, s4, s5, s6, s7, s8, s9⟩
   go_simp
   with_reducible rfl
 rotate_left
 · simp only [Act.put, List.setIfInBounds_toArray, List.set_cons_zero, List.set_cons_succ, i64_w, i32_w]
   rfl
 refine take_ (i := 12) (N := some 15) (v := ?_) (a' := ?_) #[true, true, true, true, true, true, true, true, false, true, true, true, true, true, false, true, false, true, false, true, false, false, false] rfl rfl (take_ofW HT_.out HW_.out (by kernel_rfl)) (fun _ _ _ h => h) (Or.inl ⟨by rfl, ?_⟩) hHeld ?_ ?_
 rotate_left
 · rintro w' ⟨s0, s1, s2, s3, s4, s5, s6, s7, s8, s9⟩
   go_simp
   with_reducible rfl
 rotate_left
 · simp only [Act.put, List.setIfInBounds_toArray, List.set_cons_zero, List.set_cons_succ, i64_w, i32_w]
   rfl
 refine take_ (i := 14) (N := some 17) (v := ?_) (a' := ?_) #[true, true, true, true, true, true, true, true, false, true, true, true, true, true, true, true, false, true, false, true, false, false, false] rfl rfl (take_ofW HT_.out HW_.out (by kernel_rfl)) (fun _ _ _ h => h) (Or.inl ⟨by rfl, ?_⟩) hHeld ?_ ?_
 rotate_left
 · rintro w' ⟨s0, s1, s2, s3, s4, s5, s6, s7, s8, s9⟩
   go_simp
   with_reducible rfl
 rotate_left
 · simp only [Act.put, List.setIfInBounds_toArray, List.set_cons_zero, List.set_cons_succ, i64_w, i32_w]
   rfl
 refine take_ (i := 16) (N := some 19) (v := ?_) (a' := ?_) #[true, true, true, true, true, true, true, true, false, true, true, true, true, true, true, true, true, true, false, true, false, false, false] rfl rfl (take_ofW HT_.out HW_.out (by kernel_rfl)) (fun _ _ _ h => h) (Or.inl ⟨by rfl, ?_⟩) hHeld ?_ ?_
 rotate_left
 · rintro w' ⟨s0, s1, s2, s3, s4, s5, s6, s7, s8, s9⟩
   go_simp
   with_reducible rfl
 rotate_left
 · simp only [Act.put, List.setIfInBounds_toArray, List.set_cons_zero, List.set_cons_succ, i64_w, i32_w]
   rfl
 refine take_ (i := 18) (N := some 21) (v := ?_) (a' := ?_) #[true, true, true, true, true, true, true, true, false, true, true, true, true, true, true, true, true, true, true, true, false, false, false] rfl rfl (take_ofW HT_.out HW_.out (by kernel_rfl)) (fun _ _ _ h => h) (Or.inl ⟨by rfl, ?_⟩) hHeld ?_ ?_
 rotate_left
 · rintro w' ⟨s0, s1, s2, s3, s4, s5, s6, s7, s8, s9⟩
   go_simp
   with_reducible rfl
 rotate_left
 · simp only [Act.put, List.setIfInBounds_toArray, List.set_cons_zero, List.set_cons_succ, i64_w, i32_w]
   rfl
 refine take_ (i := 20) (N := some 23) (v := ?_) (a' := ?_) #[true, true, true, true, true, true, true, true, false, true, true, true, true, true, true, true, true, true, true, true, true, false, false] rfl rfl (take_ofW HT_.out HW_.out (by kernel_rfl)) (fun _ _ _ h => h) (Or.inl ⟨by rfl, ?_⟩) hHeld ?_ ?_
 rotate_left
 · rintro w' ⟨s0, s1, s2, s3, s4, s5, s6, s7, s8, s9⟩
   go_simp
   with_reducible rfl
 rotate_left
 · simp only [Act.put, List.setIfInBounds_toArray, List.set_cons_zero, List.set_cons_succ, i64_w, i32_w]
   rfl
 refine one_ (i := 8) (N := some 11) #[true, true, true, true, true, true, true, true, true, true, true, true, true, true, true, true, true, true, true, true, true, false, false] rfl rfl (one_of HT_.out (by kernel_rfl)) (by decide) (fun K hK => ?_)
 refine goes_ Tryd.func41 (by kernel_rfl) rfl #[.slice A0_3 l0_3.length c0_3] (by rfl) rfl rfl (by (try simp only [List.map_toArray, List.map_cons, List.map_nil]); first | done | rfl | (simp only [List.length_drop, List.length_take]; rfl)) ?_
 with_reducible refine (marlinelaw12_Of.calls k (fun k_ => ((((P0_3_ k_ ∨ P0_6_ k_ ∨ P0_7_ k_ ∨ P0_8_ k_ ∨ P0_9_ k_) ∨ w.heap.size ≤ k_) ∧ k_ ≠ gb445) ∧ k_ ≠ gb446)) _ _ l0_3 t447 _ ?side1 A2.out).mono ?_
 (case side1 => exact HO0_3.out)
 rintro e w6 ⟨v448, rfl, ho0, hb⟩
 refine ⟨_, rfl, ?_⟩
 have n0_ := Aside0.mk (Kd.V_elder' (by (with_reducible repeat (first | apply Kd.V_alloc | apply Kd.V_drewN | apply Kd.V_drew)); exact HO0_3.out) (Kd.N_base ho0) hb)
 have n1_ := Aside0.mk (Kd.V_elder' (by (with_reducible repeat (first | apply Kd.V_alloc | apply Kd.V_drewN | apply Kd.V_drew)); exact HO0_6.out) (Kd.N_base ho0) hb)
 have n2_ := Aside0.mk (Kd.V_elder' (by (with_reducible repeat (first | apply Kd.V_alloc | apply Kd.V_drewN | apply Kd.V_drew)); exact HO0_7.out) (Kd.N_base ho0) hb)
 have n3_ := Aside0.mk (Kd.V_elder' (by (with_reducible repeat (first | apply Kd.V_alloc | apply Kd.V_drewN | apply Kd.V_drew)); exact HO0_8.out) (Kd.N_base ho0) hb)
 have n4_ := Aside0.mk (Kd.V_elder' (by (with_reducible repeat (first | apply Kd.V_alloc | apply Kd.V_drewN | apply Kd.V_drew)); exact HO0_9.out) (Kd.N_base ho0) hb)
 have n5_ := Aside0.mk (Kd.N_lower (Kd.N_mono (ok' := fun k_ => ((P0_3_ k_ ∨ P0_6_ k_ ∨ P0_7_ k_ ∨ P0_8_ k_ ∨ P0_9_ k_) ∨ w.heap.size ≤ k_) ∧ k_ ≠ gb445 ∧ k_ ≠ gb446) ho0 (fun k_ hk_ => ⟨Or.elim hk_ (fun hs_ => hs_.1.1) (fun hn_ => (.inr (Nat.le_trans (below_size (by repeat (first | (with_reducible first | exact HB.out | apply below_alloc | apply pw_below_drewN | apply below_drew1 | refine below_set ?_ GE445.out | refine below_set ?_ GE446.out) | exact HB.out))) hn_))), Or.elim hk_ (fun hs_ => hs_.1.2) (fun hn_ => (Kd.freshB (g := gb445) (o := .cells #[.int .u16 a0_0, .int .u8 a0_1, .int .u8 a0_2, .slice A0_3 l0_3.length c0_3, .int .u16 a0_4, .int .u32 a0_5, .slice A0_6 l0_6.length c0_6, .slice A0_7 l0_7.length c0_7, .slice A0_8 l0_8.length c0_8, .slice A0_9 l0_9.length c0_9] 42 (0, 0)) (by (with_reducible repeat (first | refine blk_drewN ?_ _ | refine blk_drew ?_ | refine blk_alloc ?_ _)); exact BK445.out) k_ hn_)), Or.elim hk_ (fun hs_ => hs_.2) (fun hn_ => (Kd.freshB (g := gb446) (o := .cells #[.int .u16 0, .int .u8 0, .int .u8 0, .slice none 0 0, .int .u16 0, .int .u32 0, .slice none 0 0, .slice none 0 0, .slice none 0 0, .slice none 0 0] 29 (0, 0)) (by (with_reducible repeat (first | refine blk_drewN ?_ _ | refine blk_drew ?_ | refine blk_alloc ?_ _)); exact BK446.out) k_ hn_))⟩)) (below_size (by repeat (first | (with_reducible first | exact HB.out | apply below_alloc | apply pw_below_drewN | apply below_drew1 | refine below_set ?_ GE445.out | refine below_set ?_ GE446.out) | exact HB.out))))
 have n6_ := Aside0.mk (blk_below (g := gb445) (o := .cells #[.int .u16 a0_0, .int .u8 a0_1, .int .u8 a0_2, .slice A0_3 l0_3.length c0_3, .int .u16 a0_4, .int .u32 a0_5, .slice A0_6 l0_6.length c0_6, .slice A0_7 l0_7.length c0_7, .slice A0_8 l0_8.length c0_8, .slice A0_9 l0_9.length c0_9] 42 (0, 0)) (by (with_reducible repeat (first | refine blk_drewN ?_ _ | refine blk_drew ?_ | refine blk_alloc ?_ _)); exact BK445.out) hb)
 have n7_ := Aside0.mk (blk_below (g := gb446) (o := .cells #[.int .u16 0, .int .u8 0, .int .u8 0, .slice none 0 0, .int .u16 0, .int .u32 0, .slice none 0 0, .slice none 0 0, .slice none 0 0, .slice none 0 0] 29 (0, 0)) (by (with_reducible repeat (first | refine blk_drewN ?_ _ | refine blk_drew ?_ | refine blk_alloc ?_ _)); exact BK446.out) hb)
 have n8_ := Aside0.mk (below_step (by repeat (first | (with_reducible first | exact HB.out | apply below_alloc | apply pw_below_drewN | apply below_drew1 | refine below_set ?_ GE445.out | refine below_set ?_ GE446.out) | exact HB.out)) hb)
 clear HO0_3
 clear HO0_6
 clear HO0_7
 clear HO0_8
 clear HO0_9
 clear BK445
 clear BK446
 clear HB
 have HO0_3 := n0_
 have HO0_6 := n1_
 have HO0_7 := n2_
 have HO0_8 := n3_
 have HO0_9 := n4_
 have HO449 := n5_
 have BK445 := n6_
 have BK446 := n7_
 have HB := n8_
 clear n0_ n1_ n2_ n3_ n4_ n5_ n6_ n7_ n8_
 (try clear hb)
 (try clear hb2)
 (try clear hk)
 (try clear hi)
 (try clear ho0)
 obtain ⟨Ao7, co7, eo7⟩ := Kd.N_slice HO449.out
 (first | subst eo7 | (injection eo7 with f1_ f2_ f3_; have f4_ := f1_.symm; have f5_ := f3_.symm; clear f1_ f2_ f3_; subst f4_; subst f5_))
 refine hK.out _ _ ⟨(blk_cell BK445.out 0).trans rfl, (blk_cell BK445.out 1).trans rfl, (blk_cell BK445.out 2).trans rfl, (blk_cell BK445.out 3).trans rfl, (blk_cell BK445.out 4).trans rfl, (blk_cell BK445.out 5).trans rfl, (blk_cell BK445.out 6).trans rfl, (blk_cell BK445.out 7).trans rfl, (blk_cell BK445.out 8).trans rfl, (blk_cell BK445.out 9).trans rfl⟩ (fun hHeld => ?_)
 clear hK K
 refine norm_ (a' := ?_) ?_ ?_
 rotate_left
 · show Act.put _ (some 11) _ = _
   simp only [Act.put, List.setIfInBounds_toArray, List.set_cons_zero, List.set_cons_succ, i64_w, i32_w]
   rfl
 refine pure_ (i := 21) (N := some 24) (v := ?_) (a' := ?_) #[true, true, true, true, true, true, true, true, true, true, true, true, true, true, true, true, true, true, true, true, true, true, false] rfl rfl (any_of HT_.out (by kernel_rfl)) (fun _ _ _ h => h) (Or.inl ⟨by rfl, ?_⟩) ?_ ?_
 rotate_left
 · intro w'
   go_simp
   with_reducible rfl
 rotate_left
 · simp only [Act.put, List.setIfInBounds_toArray, List.set_cons_zero, List.set_cons_succ, i64_w, i32_w]
   rfl
 refine one_ (i := 22) (N := none) #[true, true, true, true, true, true, true, true, true, true, true, true, true, true, true, true, true, true, true, true, true, true, true] rfl rfl (one_of HT_.out (by kernel_rfl)) (by decide) (fun K hK => ?_)
 have hs8 : w6.cell? ⟨gb446, 0, none⟩ = some (.int .u16 0) := (blk_cell BK446.out 0).trans rfl
 have hfs8 := blk_frozen BK446.out 0
 have hns8_0 := NB445_446.out
 have hms8_0 := NB446_445.out
 have hs9 : w6.cell? ⟨gb446, 1, none⟩ = some (.int .u8 0) := (blk_cell BK446.out 1).trans rfl
 have hfs9 := blk_frozen BK446.out 1
 have hns9_0 := NB445_446.out
 have hms9_0 := NB446_445.out
 have hs10 : w6.cell? ⟨gb446, 2, none⟩ = some (.int .u8 0) := (blk_cell BK446.out 2).trans rfl
 have hfs10 := blk_frozen BK446.out 2
 have hns10_0 := NB445_446.out
 have hms10_0 := NB446_445.out
 have hs11 : w6.cell? ⟨gb446, 3, none⟩ = some (.slice none 0 0) := (blk_cell BK446.out 3).trans rfl
 have hfs11 := blk_frozen BK446.out 3
 have hns11_0 := NB445_446.out
 have hms11_0 := NB446_445.out
 have hs12 : w6.cell? ⟨gb446, 4, none⟩ = some (.int .u16 0) := (blk_cell BK446.out 4).trans rfl
 have hfs12 := blk_frozen BK446.out 4
 have hns12_0 := NB445_446.out
 have hms12_0 := NB446_445.out
 have hs13 : w6.cell? ⟨gb446, 5, none⟩ = some (.int .u32 0) := (blk_cell BK446.out 5).trans rfl
 have hfs13 := blk_frozen BK446.out 5
 have hns13_0 := NB445_446.out
 have hms13_0 := NB446_445.out
 have hs14 : w6.cell? ⟨gb446, 6, none⟩ = some (.slice none 0 0) := (blk_cell BK446.out 6).trans rfl
 have hfs14 := blk_frozen BK446.out 6
 have hns14_0 := NB445_446.out
 have hms14_0 := NB446_445.out
 have hs15 : w6.cell? ⟨gb446, 7, none⟩ = some (.slice none 0 0) := (blk_cell BK446.out 7).trans rfl
 have hfs15 := blk_frozen BK446.out 7
 have hns15_0 := NB445_446.out
 have hms15_0 := NB446_445.out
 have hs16 : w6.cell? ⟨gb446, 8, none⟩ = some (.slice none 0 0) := (blk_cell BK446.out 8).trans rfl
 have hfs16 := blk_frozen BK446.out 8
 have hns16_0 := NB445_446.out
 have hms16_0 := NB446_445.out
 have hs17 : w6.cell? ⟨gb446, 9, none⟩ = some (.slice none 0 0) := (blk_cell BK446.out 9).trans rfl
 have hfs17 := blk_frozen BK446.out 9
 have hns17_0 := NB445_446.out
 have hms17_0 := NB446_445.out
 refine skip_ (w1 := ?_) (by rfl) rfl ?_ ?_
 rotate_left
 · go_simp
   rfl
 refine hK.out _ _ ⟨((cell_far (p := ⟨gb446, _, none⟩) NB445_446.out _).trans (((cell_far (p := ⟨gb446, _, none⟩) NB445_446.out _).trans (((cell_far (p := ⟨gb446, _, none⟩) NB445_446.out _).trans (((cell_far (p := ⟨gb446, _, none⟩) NB445_446.out _).trans (((cell_far (p := ⟨gb446, _, none⟩) NB445_446.out _).trans (((cell_far (p := ⟨gb446, _, none⟩) NB445_446.out _).trans (((cell_far (p := ⟨gb446, _, none⟩) NB445_446.out _).trans (((cell_far (p := ⟨gb446, _, none⟩) NB445_446.out _).trans (((cell_far (p := ⟨gb446, _, none⟩) NB445_446.out _).trans (((cell_far (p := ⟨gb446, _, none⟩) NB445_446.out _).trans (hHeld.1)))))))))))))))))))), ((cell_far (p := ⟨gb446, _, none⟩) NB445_446.out _).trans (((cell_far (p := ⟨gb446, _, none⟩) NB445_446.out _).trans (((cell_far (p := ⟨gb446, _, none⟩) NB445_446.out _).trans (((cell_far (p := ⟨gb446, _, none⟩) NB445_446.out _).trans (((cell_far (p := ⟨gb446, _, none⟩) NB445_446.out _).trans (((cell_far (p := ⟨gb446, _, none⟩) NB445_446.out _).trans (((cell_far (p := ⟨gb446, _, none⟩) NB445_446.out _).trans (((cell_far (p := ⟨gb446, _, none⟩) NB445_446.out _).trans (((cell_far (p := ⟨gb446, _, none⟩) NB445_446.out _).trans (((cell_far (p := ⟨gb446, _, none⟩) NB445_446.out _).trans (hHeld.2.1)))))))))))))))))))), ((cell_far (p := ⟨gb446, _, none⟩) NB445_446.out _).trans (((cell_far (p := ⟨gb446, _, none⟩) NB445_446.out _).trans (((cell_far (p := ⟨gb446, _, none⟩) NB445_446.out _).trans (((cell_far (p := ⟨gb446, _, none⟩) NB445_446.out _).trans (((cell_far (p := ⟨gb446, _, none⟩) NB445_446.out _).trans (((cell_far (p := ⟨gb446, _, none⟩) NB445_446.out _).trans (((cell_far (p := ⟨gb446, _, none⟩) NB445_446.out _).trans (((cell_far (p := ⟨gb446, _, none⟩) NB445_446.out _).trans (((cell_far (p := ⟨gb446, _, none⟩) NB445_446.out _).trans (((cell_far (p := ⟨gb446, _, none⟩) NB445_446.out _).trans (hHeld.2.2.1)))))))))))))))))))), ((cell_far (p := ⟨gb446, _, none⟩) NB445_446.out _).trans (((cell_far (p := ⟨gb446, _, none⟩) NB445_446.out _).trans (((cell_far (p := ⟨gb446, _, none⟩) NB445_446.out _).trans (((cell_far (p := ⟨gb446, _, none⟩) NB445_446.out _).trans (((cell_far (p := ⟨gb446, _, none⟩) NB445_446.out _).trans (((cell_far (p := ⟨gb446, _, none⟩) NB445_446.out _).trans (((cell_far (p := ⟨gb446, _, none⟩) NB445_446.out _).trans (((cell_far (p := ⟨gb446, _, none⟩) NB445_446.out _).trans (((cell_far (p := ⟨gb446, _, none⟩) NB445_446.out _).trans (((cell_far (p := ⟨gb446, _, none⟩) NB445_446.out _).trans (hHeld.2.2.2.1)))))))))))))))))))), ((cell_far (p := ⟨gb446, _, none⟩) NB445_446.out _).trans (((cell_far (p := ⟨gb446, _, none⟩) NB445_446.out _).trans (((cell_far (p := ⟨gb446, _, none⟩) NB445_446.out _).trans (((cell_far (p := ⟨gb446, _, none⟩) NB445_446.out _).trans (((cell_far (p := ⟨gb446, _, none⟩) NB445_446.out _).trans (((cell_far (p := ⟨gb446, _, none⟩) NB445_446.out _).trans (((cell_far (p := ⟨gb446, _, none⟩) NB445_446.out _).trans (((cell_far (p := ⟨gb446, _, none⟩) NB445_446.out _).trans (((cell_far (p := ⟨gb446, _, none⟩) NB445_446.out _).trans (((cell_far (p := ⟨gb446, _, none⟩) NB445_446.out _).trans (hHeld.2.2.2.2.1)))))))))))))))))))), ((cell_far (p := ⟨gb446, _, none⟩) NB445_446.out _).trans (((cell_far (p := ⟨gb446, _, none⟩) NB445_446.out _).trans (((cell_far (p := ⟨gb446, _, none⟩) NB445_446.out _).trans (((cell_far (p := ⟨gb446, _, none⟩) NB445_446.out _).trans (((cell_far (p := ⟨gb446, _, none⟩) NB445_446.out _).trans (((cell_far (p := ⟨gb446, _, none⟩) NB445_446.out _).trans (((cell_far (p := ⟨gb446, _, none⟩) NB445_446.out _).trans (((cell_far (p := ⟨gb446, _, none⟩) NB445_446.out _).trans (((cell_far (p := ⟨gb446, _, none⟩) NB445_446.out _).trans (((cell_far (p := ⟨gb446, _, none⟩) NB445_446.out _).trans (hHeld.2.2.2.2.2.1)))))))))))))))))))), ((cell_far (p := ⟨gb446, _, none⟩) NB445_446.out _).trans (((cell_far (p := ⟨gb446, _, none⟩) NB445_446.out _).trans (((cell_far (p := ⟨gb446, _, none⟩) NB445_446.out _).trans (((cell_far (p := ⟨gb446, _, none⟩) NB445_446.out _).trans (((cell_far (p := ⟨gb446, _, none⟩) NB445_446.out _).trans (((cell_far (p := ⟨gb446, _, none⟩) NB445_446.out _).trans (((cell_far (p := ⟨gb446, _, none⟩) NB445_446.out _).trans (((cell_far (p := ⟨gb446, _, none⟩) NB445_446.out _).trans (((cell_far (p := ⟨gb446, _, none⟩) NB445_446.out _).trans (((cell_far (p := ⟨gb446, _, none⟩) NB445_446.out _).trans (hHeld.2.2.2.2.2.2.1)))))))))))))))))))), ((cell_far (p := ⟨gb446, _, none⟩) NB445_446.out _).trans (((cell_far (p := ⟨gb446, _, none⟩) NB445_446.out _).trans (((cell_far (p := ⟨gb446, _, none⟩) NB445_446.out _).trans (((cell_far (p := ⟨gb446, _, none⟩) NB445_446.out _).trans (((cell_far (p := ⟨gb446, _, none⟩) NB445_446.out _).trans (((cell_far (p := ⟨gb446, _, none⟩) NB445_446.out _).trans (((cell_far (p := ⟨gb446, _, none⟩) NB445_446.out _).trans (((cell_far (p := ⟨gb446, _, none⟩) NB445_446.out _).trans (((cell_far (p := ⟨gb446, _, none⟩) NB445_446.out _).trans (((cell_far (p := ⟨gb446, _, none⟩) NB445_446.out _).trans (hHeld.2.2.2.2.2.2.2.1)))))))))))))))))))), ((cell_far (p := ⟨gb446, _, none⟩) NB445_446.out _).trans (((cell_far (p := ⟨gb446, _, none⟩) NB445_446.out _).trans (((cell_far (p := ⟨gb446, _, none⟩) NB445_446.out _).trans (((cell_far (p := ⟨gb446, _, none⟩) NB445_446.out _).trans (((cell_far (p := ⟨gb446, _, none⟩) NB445_446.out _).trans (((cell_far (p := ⟨gb446, _, none⟩) NB445_446.out _).trans (((cell_far (p := ⟨gb446, _, none⟩) NB445_446.out _).trans (((cell_far (p := ⟨gb446, _, none⟩) NB445_446.out _).trans (((cell_far (p := ⟨gb446, _, none⟩) NB445_446.out _).trans (((cell_far (p := ⟨gb446, _, none⟩) NB445_446.out _).trans (hHeld.2.2.2.2.2.2.2.2.1)))))))))))))))))))), ((cell_far (p := ⟨gb446, _, none⟩) NB445_446.out _).trans (((cell_far (p := ⟨gb446, _, none⟩) NB445_446.out _).trans (((cell_far (p := ⟨gb446, _, none⟩) NB445_446.out _).trans (((cell_far (p := ⟨gb446, _, none⟩) NB445_446.out _).trans (((cell_far (p := ⟨gb446, _, none⟩) NB445_446.out _).trans (((cell_far (p := ⟨gb446, _, none⟩) NB445_446.out _).trans (((cell_far (p := ⟨gb446, _, none⟩) NB445_446.out _).trans (((cell_far (p := ⟨gb446, _, none⟩) NB445_446.out _).trans (((cell_far (p := ⟨gb446, _, none⟩) NB445_446.out _).trans (((cell_far (p := ⟨gb446, _, none⟩) NB445_446.out _).trans (hHeld.2.2.2.2.2.2.2.2.2))))))))))))))))))))⟩ (fun hHeld => ?_)
 clear hK K
 refine done_ (done_of HT_.out (by kernel_rfl)) ?_
 try go_wp2
 refine bodyPost_ret (results_cell_row rfl _ _ gb446 29 #[.int .u16 a0_0, .int .u8 a0_1, .int .u8 a0_2, .slice Ao7 t447.length co7, .int .u16 a0_4, .int .u32 a0_5, .slice A0_6 l0_6.length c0_6, .slice A0_7 l0_7.length c0_7, .slice A0_8 l0_8.length c0_8, .slice A0_9 l0_9.length c0_9] (0, 0) _ rfl (by (with_reducible repeat (first | refine blk_drewN ?_ _ | refine blk_drew ?_ | refine blk_alloc ?_ _)); refine blk_put (cs := #[.int .u16 a0_0, .int .u8 a0_1, .int .u8 a0_2, .slice Ao7 t447.length co7, .int .u16 a0_4, .int .u32 a0_5, .slice A0_6 l0_6.length c0_6, .slice A0_7 l0_7.length c0_7, .slice A0_8 l0_8.length c0_8, .slice none 0 0]) ?_ 9 _ rfl; (with_reducible repeat (first | refine blk_drewN ?_ _ | refine blk_drew ?_ | refine blk_alloc ?_ _)); refine blk_put (cs := #[.int .u16 a0_0, .int .u8 a0_1, .int .u8 a0_2, .slice Ao7 t447.length co7, .int .u16 a0_4, .int .u32 a0_5, .slice A0_6 l0_6.length c0_6, .slice A0_7 l0_7.length c0_7, .slice none 0 0, .slice none 0 0]) ?_ 8 _ rfl; (with_reducible repeat (first | refine blk_drewN ?_ _ | refine blk_drew ?_ | refine blk_alloc ?_ _)); refine blk_put (cs := #[.int .u16 a0_0, .int .u8 a0_1, .int .u8 a0_2, .slice Ao7 t447.length co7, .int .u16 a0_4, .int .u32 a0_5, .slice A0_6 l0_6.length c0_6, .slice none 0 0, .slice none 0 0, .slice none 0 0]) ?_ 7 _ rfl; (with_reducible repeat (first | refine blk_drewN ?_ _ | refine blk_drew ?_ | refine blk_alloc ?_ _)); refine blk_put (cs := #[.int .u16 a0_0, .int .u8 a0_1, .int .u8 a0_2, .slice Ao7 t447.length co7, .int .u16 a0_4, .int .u32 a0_5, .slice none 0 0, .slice none 0 0, .slice none 0 0, .slice none 0 0]) ?_ 6 _ rfl; (with_reducible repeat (first | refine blk_drewN ?_ _ | refine blk_drew ?_ | refine blk_alloc ?_ _)); refine blk_put (cs := #[.int .u16 a0_0, .int .u8 a0_1, .int .u8 a0_2, .slice Ao7 t447.length co7, .int .u16 a0_4, .int .u32 0, .slice none 0 0, .slice none 0 0, .slice none 0 0, .slice none 0 0]) ?_ 5 _ rfl; (with_reducible repeat (first | refine blk_drewN ?_ _ | refine blk_drew ?_ | refine blk_alloc ?_ _)); refine blk_put (cs := #[.int .u16 a0_0, .int .u8 a0_1, .int .u8 a0_2, .slice Ao7 t447.length co7, .int .u16 0, .int .u32 0, .slice none 0 0, .slice none 0 0, .slice none 0 0, .slice none 0 0]) ?_ 4 _ rfl; (with_reducible repeat (first | refine blk_drewN ?_ _ | refine blk_drew ?_ | refine blk_alloc ?_ _)); refine blk_put (cs := #[.int .u16 a0_0, .int .u8 a0_1, .int .u8 a0_2, .slice none 0 0, .int .u16 0, .int .u32 0, .slice none 0 0, .slice none 0 0, .slice none 0 0, .slice none 0 0]) ?_ 3 _ rfl; (with_reducible repeat (first | refine blk_drewN ?_ _ | refine blk_drew ?_ | refine blk_alloc ?_ _)); refine blk_put (cs := #[.int .u16 a0_0, .int .u8 a0_1, .int .u8 0, .slice none 0 0, .int .u16 0, .int .u32 0, .slice none 0 0, .slice none 0 0, .slice none 0 0, .slice none 0 0]) ?_ 2 _ rfl; (with_reducible repeat (first | refine blk_drewN ?_ _ | refine blk_drew ?_ | refine blk_alloc ?_ _)); refine blk_put (cs := #[.int .u16 a0_0, .int .u8 0, .int .u8 0, .slice none 0 0, .int .u16 0, .int .u32 0, .slice none 0 0, .slice none 0 0, .slice none 0 0, .slice none 0 0]) ?_ 1 _ rfl; (with_reducible repeat (first | refine blk_drewN ?_ _ | refine blk_drew ?_ | refine blk_alloc ?_ _)); refine blk_put (cs := #[.int .u16 0, .int .u8 0, .int .u8 0, .slice none 0 0, .int .u16 0, .int .u32 0, .slice none 0 0, .slice none 0 0, .slice none 0 0, .slice none 0 0]) ?_ 0 _ rfl; (with_reducible repeat (first | refine blk_drewN ?_ _ | refine blk_drew ?_ | refine blk_alloc ?_ _)); exact BK446.out) Tryd.underlying29 rfl (by kernel_rfl)) rfl ?_
 exact ⟨_, _, _, _, _, by first | rfl | (simp [errW_none, errW_some] <;> rfl) | (simp [*, errW_none, errW_some] <;> rfl), by (with_reducible repeat (first | apply Kd.N_alloc | apply Kd.N_drewN | apply Kd.N_drew)); exact Kd.N_mono (Kd.N_far (p := ⟨gb446, 9, none⟩) (Kd.N_far (p := ⟨gb446, 8, none⟩) (Kd.N_far (p := ⟨gb446, 7, none⟩) (Kd.N_far (p := ⟨gb446, 6, none⟩) (Kd.N_far (p := ⟨gb446, 5, none⟩) (Kd.N_far (p := ⟨gb446, 4, none⟩) (Kd.N_far (p := ⟨gb446, 3, none⟩) (Kd.N_far (p := ⟨gb446, 2, none⟩) (Kd.N_far (p := ⟨gb446, 1, none⟩) (Kd.N_far (p := ⟨gb446, 0, none⟩) (Kd.N_mono HO449.out (fun k_ hk => (⟨hk, hk.2.2⟩ : _ ∧ k_ ≠ gb446))) (fun _ hk => hk.2) (.int .u16 a0_0)) (fun _ hk => hk.2) (.int .u8 a0_1)) (fun _ hk => hk.2) (.int .u8 a0_2)) (fun _ hk => hk.2) (.slice Ao7 t447.length co7)) (fun _ hk => hk.2) (.int .u16 a0_4)) (fun _ hk => hk.2) (.int .u32 a0_5)) (fun _ hk => hk.2) (.slice A0_6 l0_6.length c0_6)) (fun _ hk => hk.2) (.slice A0_7 l0_7.length c0_7)) (fun _ hk => hk.2) (.slice A0_8 l0_8.length c0_8)) (fun _ hk => hk.2) (.slice A0_9 l0_9.length c0_9)) (fun _ hk => hk.1.1), by (with_reducible repeat (first | apply Kd.V_alloc | apply Kd.V_drewN | apply Kd.V_drew)); exact Kd.V_mono (Kd.V_far (p := ⟨gb446, 9, none⟩) (Kd.V_far (p := ⟨gb446, 8, none⟩) (Kd.V_far (p := ⟨gb446, 7, none⟩) (Kd.V_far (p := ⟨gb446, 6, none⟩) (Kd.V_far (p := ⟨gb446, 5, none⟩) (Kd.V_far (p := ⟨gb446, 4, none⟩) (Kd.V_far (p := ⟨gb446, 3, none⟩) (Kd.V_far (p := ⟨gb446, 2, none⟩) (Kd.V_far (p := ⟨gb446, 1, none⟩) (Kd.V_far (p := ⟨gb446, 0, none⟩) (Kd.V_mono HO0_6.out (fun k_ hk => (⟨hk, hk.1.2⟩ : _ ∧ k_ ≠ gb446))) (fun _ hk => hk.2) (.int .u16 a0_0)) (fun _ hk => hk.2) (.int .u8 a0_1)) (fun _ hk => hk.2) (.int .u8 a0_2)) (fun _ hk => hk.2) (.slice Ao7 t447.length co7)) (fun _ hk => hk.2) (.int .u16 a0_4)) (fun _ hk => hk.2) (.int .u32 a0_5)) (fun _ hk => hk.2) (.slice A0_6 l0_6.length c0_6)) (fun _ hk => hk.2) (.slice A0_7 l0_7.length c0_7)) (fun _ hk => hk.2) (.slice A0_8 l0_8.length c0_8)) (fun _ hk => hk.2) (.slice A0_9 l0_9.length c0_9)) (fun _ hk => ⟨hk.1.1.1.1, hk.1.2⟩), by (with_reducible repeat (first | apply Kd.V_alloc | apply Kd.V_drewN | apply Kd.V_drew)); exact Kd.V_mono (Kd.V_far (p := ⟨gb446, 9, none⟩) (Kd.V_far (p := ⟨gb446, 8, none⟩) (Kd.V_far (p := ⟨gb446, 7, none⟩) (Kd.V_far (p := ⟨gb446, 6, none⟩) (Kd.V_far (p := ⟨gb446, 5, none⟩) (Kd.V_far (p := ⟨gb446, 4, none⟩) (Kd.V_far (p := ⟨gb446, 3, none⟩) (Kd.V_far (p := ⟨gb446, 2, none⟩) (Kd.V_far (p := ⟨gb446, 1, none⟩) (Kd.V_far (p := ⟨gb446, 0, none⟩) (Kd.V_mono HO0_7.out (fun k_ hk => (⟨hk, hk.1.2⟩ : _ ∧ k_ ≠ gb446))) (fun _ hk => hk.2) (.int .u16 a0_0)) (fun _ hk => hk.2) (.int .u8 a0_1)) (fun _ hk => hk.2) (.int .u8 a0_2)) (fun _ hk => hk.2) (.slice Ao7 t447.length co7)) (fun _ hk => hk.2) (.int .u16 a0_4)) (fun _ hk => hk.2) (.int .u32 a0_5)) (fun _ hk => hk.2) (.slice A0_6 l0_6.length c0_6)) (fun _ hk => hk.2) (.slice A0_7 l0_7.length c0_7)) (fun _ hk => hk.2) (.slice A0_8 l0_8.length c0_8)) (fun _ hk => hk.2) (.slice A0_9 l0_9.length c0_9)) (fun _ hk => ⟨hk.1.1.1.1, hk.1.2⟩), by (with_reducible repeat (first | apply Kd.V_alloc | apply Kd.V_drewN | apply Kd.V_drew)); exact Kd.V_mono (Kd.V_far (p := ⟨gb446, 9, none⟩) (Kd.V_far (p := ⟨gb446, 8, none⟩) (Kd.V_far (p := ⟨gb446, 7, none⟩) (Kd.V_far (p := ⟨gb446, 6, none⟩) (Kd.V_far (p := ⟨gb446, 5, none⟩) (Kd.V_far (p := ⟨gb446, 4, none⟩) (Kd.V_far (p := ⟨gb446, 3, none⟩) (Kd.V_far (p := ⟨gb446, 2, none⟩) (Kd.V_far (p := ⟨gb446, 1, none⟩) (Kd.V_far (p := ⟨gb446, 0, none⟩) (Kd.V_mono HO0_8.out (fun k_ hk => (⟨hk, hk.1.2⟩ : _ ∧ k_ ≠ gb446))) (fun _ hk => hk.2) (.int .u16 a0_0)) (fun _ hk => hk.2) (.int .u8 a0_1)) (fun _ hk => hk.2) (.int .u8 a0_2)) (fun _ hk => hk.2) (.slice Ao7 t447.length co7)) (fun _ hk => hk.2) (.int .u16 a0_4)) (fun _ hk => hk.2) (.int .u32 a0_5)) (fun _ hk => hk.2) (.slice A0_6 l0_6.length c0_6)) (fun _ hk => hk.2) (.slice A0_7 l0_7.length c0_7)) (fun _ hk => hk.2) (.slice A0_8 l0_8.length c0_8)) (fun _ hk => hk.2) (.slice A0_9 l0_9.length c0_9)) (fun _ hk => ⟨hk.1.1.1.1, hk.1.2⟩), by (with_reducible repeat (first | apply Kd.V_alloc | apply Kd.V_drewN | apply Kd.V_drew)); exact Kd.V_mono (Kd.V_far (p := ⟨gb446, 9, none⟩) (Kd.V_far (p := ⟨gb446, 8, none⟩) (Kd.V_far (p := ⟨gb446, 7, none⟩) (Kd.V_far (p := ⟨gb446, 6, none⟩) (Kd.V_far (p := ⟨gb446, 5, none⟩) (Kd.V_far (p := ⟨gb446, 4, none⟩) (Kd.V_far (p := ⟨gb446, 3, none⟩) (Kd.V_far (p := ⟨gb446, 2, none⟩) (Kd.V_far (p := ⟨gb446, 1, none⟩) (Kd.V_far (p := ⟨gb446, 0, none⟩) (Kd.V_mono HO0_9.out (fun k_ hk => (⟨hk, hk.1.2⟩ : _ ∧ k_ ≠ gb446))) (fun _ hk => hk.2) (.int .u16 a0_0)) (fun _ hk => hk.2) (.int .u8 a0_1)) (fun _ hk => hk.2) (.int .u8 a0_2)) (fun _ hk => hk.2) (.slice Ao7 t447.length co7)) (fun _ hk => hk.2) (.int .u16 a0_4)) (fun _ hk => hk.2) (.int .u32 a0_5)) (fun _ hk => hk.2) (.slice A0_6 l0_6.length c0_6)) (fun _ hk => hk.2) (.slice A0_7 l0_7.length c0_7)) (fun _ hk => hk.2) (.slice A0_8 l0_8.length c0_8)) (fun _ hk => hk.2) (.slice A0_9 l0_9.length c0_9)) (fun _ hk => ⟨hk.1.1.1.1, hk.1.2⟩), by repeat (first | (with_reducible first | exact HB.out | apply below_alloc | apply pw_below_drewN | apply below_drew1 | refine below_set ?_ GE445.out | refine below_set ?_ GE446.out) | exact HB.out)⟩
end Go.Proofs.YteanncchmenlkaaDoor.Print
namespace Go.Proofs.YteanncchmenlkaaDoor.Print
open Go.RowKit Go.Proofs.YteanncchmenlkaaDoorW.PrintWords Go.Proofs.YteanncchmenlkaaDoorW.PrintLast Go.Proofs.YteanncchmenlkaaDoorW.PrintMore
attribute [local go_sem] max2_int min2_int max_two min_two max_three min_three max_four min_four
set_option linter.unusedVariables false
set_option linter.unusedSimpArgs false
def marlinelaw15_To.f (k : Nat) (a0_0 : Int) (a0_1 : Int) (a0_2 : Int) (l0_3 : List (S62)) (a0_4 : Int) (a0_5 : Int) (l0_6 : List Int) (l0_7 : List Int) (l0_8 : List Int) (l0_9 : List Int) : Option (Int × Int × Int × (List (S105)) × Int × Int × List Int × List Int × List Int × List Int) := (marlinelaw12_To.f k l0_3).bind fun t398 => (some (a0_0, a0_1, a0_2, t398, a0_4, a0_5, l0_6, l0_7, l0_8, l0_9))
end Go.Proofs.YteanncchmenlkaaDoor.Print
namespace Go.Proofs.YteanncchmenlkaaDoor.Print
open Go.RowKit Go.Proofs.YteanncchmenlkaaDoorW.PrintWords Go.Proofs.YteanncchmenlkaaDoorW.PrintLast Go.Proofs.YteanncchmenlkaaDoorW.PrintMore
attribute [local go_sem] max2_int min2_int max_two min_two max_three min_three max_four min_four
set_option linter.unusedVariables false
set_option linter.unusedSimpArgs false
mutual
def marlineref15_Same.j0 : Nat → Bool → Int → Int → Int → List (S105) → Int → Int → List Int → List Int → List Int → List Int → Int → Int → Int → List (S105) → Int → Int → List Int → List Int → List Int → List Int → Option (Bool)
 | 0, _, _, _, _, _, _, _, _, _, _, _, _, _, _, _, _, _, _, _, _, _ => none
 | k + 1, x47, x376000, x376001, x376002, x376003, x376004, x376005, x376006, x376007, x376008, x376009, x377000, x377001, x377002, x377003, x377004, x377005, x377006, x377007, x377008, x377009 => if x47 = true then (some false) else (marlineref15_Same.l0 k 0 x376000 x376001 x376002 x376003 x376004 x376005 x376006 x376007 x376008 x376009 x377000 x377001 x377002 x377003 x377004 x377005 x377006 x377007 x377008 x377009)
def marlineref15_Same.l0 : Nat → Int → Int → Int → Int → List (S105) → Int → Int → List Int → List Int → List Int → List Int → Int → Int → Int → List (S105) → Int → Int → List Int → List Int → List Int → List Int → Option (Bool)
 | 0, _, _, _, _, _, _, _, _, _, _, _, _, _, _, _, _, _, _, _, _, _ => none
 | k + 1, x5, x376000, x376001, x376002, x376003, x376004, x376005, x376006, x376007, x376008, x376009, x377000, x377001, x377002, x377003, x377004, x377005, x377006, x377007, x377008, x377009 => if x5 < (x376009.length : Int) then (if 0 ≤ x5 then (if x5 < (x377009.length : Int) then (if (rd x376009 x5) = (rd x377009 x5) then (marlineref15_Same.l0 k (wrap64 (x5 + 1)) x376000 x376001 x376002 x376003 x376004 x376005 x376006 x376007 x376008 x376009 x377000 x377001 x377002 x377003 x377004 x377005 x377006 x377007 x377008 x377009) else (some false)) else (none)) else (none)) else ((marlineref12_Same.f k x376003 x377003).bind fun t379 => (if t379 = true then ((marlineref01_Equal.f k x376006 x377006).bind fun t380 => (if t380 = true then ((marlineref01_Equal.f k x376007 x377007).bind fun t381 => (if t381 = true then ((marlineref01_Equal.f k x376008 x377008).bind fun t382 => (some t382)) else (some false))) else (some false))) else (some false)))
end
def marlineref15_Same.f (k : Nat) (a0_0 : Int) (a0_1 : Int) (a0_2 : Int) (l0_3 : List (S105)) (a0_4 : Int) (a0_5 : Int) (l0_6 : List Int) (l0_7 : List Int) (l0_8 : List Int) (l0_9 : List Int) (a1_0 : Int) (a1_1 : Int) (a1_2 : Int) (l1_3 : List (S105)) (a1_4 : Int) (a1_5 : Int) (l1_6 : List Int) (l1_7 : List Int) (l1_8 : List Int) (l1_9 : List Int) : Option (Bool) := if a0_0 = a1_0 then (if a0_1 = a1_1 then (if a0_2 = a1_2 then (if a0_4 = a1_4 then (if a0_5 = a1_5 then (marlineref15_Same.j0 k ((l0_9.length : Int) != (l1_9.length : Int)) a0_0 a0_1 a0_2 l0_3 a0_4 a0_5 l0_6 l0_7 l0_8 l0_9 a1_0 a1_1 a1_2 l1_3 a1_4 a1_5 l1_6 l1_7 l1_8 l1_9) else (marlineref15_Same.j0 k true a0_0 a0_1 a0_2 l0_3 a0_4 a0_5 l0_6 l0_7 l0_8 l0_9 a1_0 a1_1 a1_2 l1_3 a1_4 a1_5 l1_6 l1_7 l1_8 l1_9)) else (marlineref15_Same.j0 k true a0_0 a0_1 a0_2 l0_3 a0_4 a0_5 l0_6 l0_7 l0_8 l0_9 a1_0 a1_1 a1_2 l1_3 a1_4 a1_5 l1_6 l1_7 l1_8 l1_9)) else (marlineref15_Same.j0 k true a0_0 a0_1 a0_2 l0_3 a0_4 a0_5 l0_6 l0_7 l0_8 l0_9 a1_0 a1_1 a1_2 l1_3 a1_4 a1_5 l1_6 l1_7 l1_8 l1_9)) else (marlineref15_Same.j0 k true a0_0 a0_1 a0_2 l0_3 a0_4 a0_5 l0_6 l0_7 l0_8 l0_9 a1_0 a1_1 a1_2 l1_3 a1_4 a1_5 l1_6 l1_7 l1_8 l1_9)) else (marlineref15_Same.j0 k true a0_0 a0_1 a0_2 l0_3 a0_4 a0_5 l0_6 l0_7 l0_8 l0_9 a1_0 a1_1 a1_2 l1_3 a1_4 a1_5 l1_6 l1_7 l1_8 l1_9)
end Go.Proofs.YteanncchmenlkaaDoor.Print
namespace Go.Proofs.YteanncchmenlkaaDoor.Print
open Go.RowKit Go.Proofs.YteanncchmenlkaaDoorW.PrintWords Go.Proofs.YteanncchmenlkaaDoorW.PrintLast Go.Proofs.YteanncchmenlkaaDoorW.PrintMore
attribute [local go_sem] max2_int min2_int max_two min_two max_three min_three max_four min_four
set_option linter.unusedVariables false
set_option linter.unusedSimpArgs false
def wire_Put.l0 : Nat → List Int → Int → Int → Option (List Int)
 | 0, _, _, _ => none
 | k + 1, x0, x1, x7 => if x7 ≥ 0 then (if 0 ≤ (wrap64 (8 * x7)) then (if x0.length < 140737488355328 then (wire_Put.l0 k (x0 ++ [(shr .u64 x1 (wrap64 (8 * x7))) % 256]) x1 (wrap64 (x7 - 1))) else (none)) else (none)) else (some x0)
def wire_Put.f (k : Nat) (l0 : List Int) (a1 : Int) (a2 : Int) : Option (List Int) := wire_Put.l0 k l0 a1 (wrap64 (a2 - 1))
set_option maxHeartbeats 8000000 in
set_option maxRecDepth 100000 in
theorem wire_Put.calls (k : Nat) (P0_ : Nat → Prop) (u9000_ : Value) (l0 : List Int) (a1 : Int) (a2 : Int) (r : List Int) (w0 w : World) (hB : Below w0.heap.size w0 w) (ho0 : Kd.R (Kd.int .u8) 5 w w0.heap.size P0_ u9000_ l0) (h : wire_Put.f k l0 a1 a2 = some r) :
 Calls Tryd.prog 31 #[u9000_, .int .u64 a1, .int .i64 a2] w fun e w' => ∃ v0_ : Value, e = .returned (v0_) ∧ Kd.R (Kd.int .u8) 5 w' w0.heap.size (fun k_ => (P0_ k_ ∨ w.heap.size ≤ k_)) v0_ r ∧ Below w0.heap.size w0 w' ∧ Kept w w' (fun k_ => P0_ k_) := by
 have HO0 := Aside0.mk (show Kd.R (Kd.int .u8) 5 w w0.heap.size (fun k_ => (P0_ k_ ∨ w.heap.size ≤ k_)) u9000_ l0 from Kd.R_mono ho0 (fun k_ hk => (.inl hk)))
 have HK := Aside0.mk (Kept.refl w (fun k_ => P0_ k_))
 have HW0 := Aside0.mk hB.size
 have HB := Aside0.mk hB
 clear hB
 have H : (wire_Put.l0 k l0 a1 (wrap64 (a2 - 1))) = some r := h
 clear h
 have H' := Aside0.mk H
 clear H
 go_enter Tryd.func31, Tryd.ntmps31
 go_wp2
 go_loopg [0, 7] k (fun kq v0 v7 w' => ∃ (x0_1 : List Int) (x7_1 : Int), v7 = .int .i64 x7_1 ∧ Aside0 (wire_Put.l0 kq x0_1 a1 x7_1 = some r) ∧ Aside0 (kq ≤ k) ∧ Aside0 (Kd.R (Kd.int .u8) 5 w' w0.heap.size (fun k_ => (P0_ k_ ∨ w.heap.size ≤ k_)) v0 x0_1) ∧ Aside0 (Kept w w' (fun k_ => P0_ k_)) ∧ Aside0 (Below w0.heap.size w0 w'))
 case atStart => exact ⟨(l0), (wrap64 (a2 - 1)), (by first | rfl | (simp; done) | (simp [*]; done)), H', ⟨Nat.le_refl _⟩, ⟨by (with_reducible repeat (first | apply Kd.R_alloc | apply Kd.R_drewN | apply Kd.R_drew)); exact HO0.out⟩, ⟨by repeat (first | (with_reducible first | exact HK.out | apply Kept.alloc | apply Kept.drewN | apply Kept.drew) | exact HK.out)⟩, ⟨by repeat (first | (with_reducible first | exact HB.out | apply below_alloc | apply pw_below_drewN | apply below_drew1) | exact HB.out)⟩⟩
 case round =>
  clear H'
  try clear p2
  try clear c3
  obtain ⟨x0_1, x7_1, rfl, HA, HK1, HO_0, HK, HB⟩ := hrel
  cases gk with
  | zero => exact absurd HA.out (by simp [wire_Put.l0])
  | succ k1 =>
   have H := HA.out
   clear HA
   simp only [wire_Put.l0] at H
   by_cases c4 : x7_1 ≥ 0
   · rw [if_pos c4] at H
     have c4b0 : decide (0 ≤ x7_1) = true := decide_eq_true c4
     clear c4
     obtain ⟨ji5, hji5⟩ : ∃ j_ : Int, (wrap64 (8 * x7_1)) = j_ := ⟨_, rfl⟩
     replace H : (if 0 ≤ (ji5) then (if x0_1.length < 140737488355328 then (wire_Put.l0 k1 (x0_1 ++ [(shr .u64 a1 (ji5)) % 256]) a1 (wrap64 (x7_1 - 1))) else (none)) else (none)) = some r := by first | (rw [hji5] at H; exact H) | (simp only [hji5] at H ⊢; exact H)
     have hji5w : (IntKind.i64.wrap (8 * x7_1)) = ji5 := (i64_w _).trans hji5
     by_cases c6 : 0 ≤ (ji5)
     · rw [if_pos c6] at H
       have c6b0 := eq_true c6
       have c6b1 : decide (0 ≤ (ji5)) = true := decide_eq_true c6
       clear c6
       obtain ⟨ji7, hji7⟩ : ∃ j_ : Int, (shr .u64 a1 (ji5)) = j_ := ⟨_, rfl⟩
       replace H : (if x0_1.length < 140737488355328 then (wire_Put.l0 k1 (x0_1 ++ [(ji7) % 256]) a1 (wrap64 (x7_1 - 1))) else (none)) = some r := by first | (rw [hji7] at H; exact H) | (simp only [hji7] at H ⊢; exact H)
       have hji7_ : (a1 / 2 ^ min (ji5).toNat 64) = ji7 := hji7
       have hji7z : (ji5) ≤ 64 → (a1 / 2 ^ (ji5).toNat) = ji7 := shr_small hji7
       by_cases c8 : x0_1.length < 140737488355328
       · rw [if_pos c8] at H
         have LMc8 := Aside0.mk c8
         clear c8
         obtain ⟨y110, hy110⟩ : ∃ y_ : List Int, y_ = (x0_1 ++ [(ji7) % 256]) := ⟨_, rfl⟩
         replace H : (wire_Put.l0 k1 y110 a1 (wrap64 (x7_1 - 1))) = some r := by first | (rw [hy110]; with_reducible exact H) | (have H2_ := (Option.bind_some _ _).symm.trans H; rw [hy110]; with_reducible exact H2_) | (have H2_ := (Option.bind_some _ _).symm.trans H; with_reducible exact H2_) | with_reducible exact H | (rw [hy110]; exact H) | exact H
         have Ny110 := Aside0.mk hy110
         clear hy110
         have H' := Aside0.mk H
         clear H
         go_wp2_with (first | ((with_reducible refine gate_builtin (b := .append) (xs := #[.tmp 14, .tmp 20]) rfl ?_); at_builtin; refine Kd.R_append (Kd.int .u8) (w0 := w0) w0.heap.size rfl (.tmp 14) (.tmp 20) 24 5 (.int .u8 0) 1 rfl Tryd.underlying24 info5 rfl (by decide) (by omega) u0 x0_1 ((ji7) % 256) [.int .u8 ((ji7) % 256)] (fun k_ => (P0_ k_ ∨ w.heap.size ≤ k_)) (fun _ => False) rfl rfl ?aP (fun _ hk => hk.elim) ?aF ?aO ?aB ?aS ?aL ?_; (case aP => exact rfl); (case aB => exact (by repeat (first | (with_reducible first | exact HB.out | apply below_alloc | apply pw_below_drewN | apply below_drew1) | exact HB.out))); (case aF => exact (fun k_ hk => (.inr (Nat.le_trans (by first | exact HK.out.1 | exact (show Kept w _ (fun k_ => P0_ k_) from by repeat (first | (with_reducible first | exact HK.out | apply Kept.alloc | apply Kept.drewN | apply Kept.drew) | exact HK.out)).1) hk)))); (case aO => exact (by (with_reducible repeat (first | apply Kd.R_alloc | apply Kd.R_drewN | apply Kd.R_drew)); exact HO_0.out)); (case aS => exact (below_size (by repeat (first | (with_reducible first | exact HB.out | apply below_alloc | apply pw_below_drewN | apply below_drew1) | exact HB.out)))); (case aL => have := LMc8.out; omega); intro v111 w9 ho hb hg hat; rw [← Ny110.out] at ho; have n0_ := Aside0.mk (hb); have n1_ := Aside0.mk (Kept.of_grown (S := (fun k_ => P0_ k_)) hg (by repeat (first | (with_reducible first | exact HK.out | apply Kept.alloc | apply Kept.drewN | apply Kept.drew) | exact HK.out)) (fun k_ e_ => (HO_0.out.1 k_ e_))); have n2_ := Aside0.mk (ho); clear HB; clear HK; clear HO_0; have HB := n0_; have HK := n1_; have HO112 := n2_; clear n0_ n1_ n2_; clear ho hb hg hat))
         go_roundg k1
         case measure => have := HK1.out; omega
         case rel => exact ⟨(y110), (wrap64 (x7_1 - 1)), (by first | rfl | (simp; done) | (simp [*]; done)), (by first | exact H' | (simp only [hji5, hji7]; exact H')), ⟨by have := HK1.out; omega⟩, ⟨by (with_reducible repeat (first | apply Kd.R_alloc | apply Kd.R_drewN | apply Kd.R_drew)); exact HO112.out⟩, ⟨by repeat (first | (with_reducible first | exact HK.out | apply Kept.alloc | apply Kept.drewN | apply Kept.drew) | exact HK.out)⟩, ⟨by repeat (first | (with_reducible first | exact HB.out | apply below_alloc | apply pw_below_drewN | apply below_drew1) | exact HB.out)⟩⟩
       · rw [if_neg c8] at H
         exact absurd H (by simp)
     · rw [if_neg c6] at H
       exact absurd H (by simp)
   · rw [if_neg c4] at H
     have c4b0 : decide (0 ≤ x7_1) = false := decide_eq_false c4
     clear c4
     obtain rfl := Option.some.inj H
     go_wp2
     go_ret
     exact ⟨_, by first | rfl | (simp [errW_none, errW_some] <;> rfl) | (simp [*, errW_none, errW_some] <;> rfl), by (with_reducible repeat (first | apply Kd.R_alloc | apply Kd.R_drewN | apply Kd.R_drew)); exact HO_0.out, by repeat (first | (with_reducible first | exact HB.out | apply below_alloc | apply pw_below_drewN | apply below_drew1) | exact HB.out), by repeat (first | (with_reducible first | exact HK.out | apply Kept.alloc | apply Kept.drewN | apply Kept.drew) | exact HK.out)⟩
end Go.Proofs.YteanncchmenlkaaDoor.Print
namespace Go.Proofs.YteanncchmenlkaaDoor.Print
open Go.RowKit Go.Proofs.YteanncchmenlkaaDoorW.PrintWords Go.Proofs.YteanncchmenlkaaDoorW.PrintLast Go.Proofs.YteanncchmenlkaaDoorW.PrintMore
attribute [local go_sem] max2_int min2_int max_two min_two max_three min_three max_four min_four
set_option linter.unusedVariables false
set_option linter.unusedSimpArgs false
def wire_Get.l0 : Nat → Int → List Int → Int → Int → Option (Int)
 | 0, _, _, _, _ => none
 | k + 1, x5, x10, x11, x12 => if x12 < x11 then (if 0 ≤ x12 then (if x12 < (x10.length : Int) then (wire_Get.l0 k (Go.bits .or .u64 (IntKind.u64.wrap (x5 * 256)) (IntKind.u64.wrap (rd x10 x12))) x10 x11 (wrap64 (x12 + 1))) else (none)) else (none)) else (some x5)
def wire_Get.f (k : Nat) (l0 : List Int) (a1 : Int) : Option (Int) := if 0 ≤ a1 then (if a1 ≤ (l0.length : Int) then ((some (l0.take (a1 : Int).toNat : List Int)).bind fun y161 => (wire_Get.l0 k 0 y161 (y161.length : Int) 0)) else (none)) else (none)
end Go.Proofs.YteanncchmenlkaaDoor.Print
namespace Go.Proofs.YteanncchmenlkaaDoor.Print
open Go.RowKit Go.Proofs.YteanncchmenlkaaDoorW.PrintWords Go.Proofs.YteanncchmenlkaaDoorW.PrintLast Go.Proofs.YteanncchmenlkaaDoorW.PrintMore
attribute [local go_sem] max2_int min2_int max_two min_two max_three min_three max_four min_four
set_option linter.unusedVariables false
set_option linter.unusedSimpArgs false
def ctl_Put.f (k : Nat) (a0 : Int) (a1 : Int) (l2 : List Int) : Option (List Int × Int) := if (wrap64 ((l2.length : Int) + 4)) > 65535 then (some (([] : List Int), 3)) else ((wire_Put.f k (([a0, a1] : List Int)) (IntKind.u64.wrap (wrap64 ((l2.length : Int) + 4))) 2).bind fun t135 => (if t135.length + l2.length < 140737488355328 then (some ((t135 ++ l2), 0)) else (none)))
set_option maxHeartbeats 8000000 in
set_option maxRecDepth 100000 in
theorem ctl_Put.calls (k : Nat) (a0 : Int) (a1 : Int) (A2 : Option Addr) (c2 : Nat) (l2 : List Int) (r1 : List Int) (r2 : Int) (w : World) (hr2 : Kd.C (Kd.int .u8) w A2 l2.length l2) (hc2 : l2.length ≤ c2) (h : ctl_Put.f k a0 a1 l2 = some (r1, r2)) :
 Calls Tryd.prog 65 #[.int .u8 a0, .int .u8 a1, .slice A2 l2.length c2] w fun e w' => ∃ v0_ : Value, e = .returned (.tuple #[v0_, .int .i64 r2]) ∧ Kd.R (Kd.int .u8) 5 w' w.heap.size (fun _ => True) v0_ r1 ∧ Below w.heap.size w w' := by
 have HR2 := Aside0.mk hr2
 have HC2 := Aside0.mk hc2
 clear hr2 hc2
 have HB := Aside0.mk (Below.refl w.heap.size w)
 have H : (if (wrap64 ((l2.length : Int) + 4)) > 65535 then (some (([] : List Int), 3)) else ((wire_Put.f k (([a0, a1] : List Int)) (IntKind.u64.wrap (wrap64 ((l2.length : Int) + 4))) 2).bind fun t135 => (if t135.length + l2.length < 140737488355328 then (some ((t135 ++ l2), 0)) else (none)))) = some (r1, r2) := h
 clear h
 by_cases c4 : (wrap64 ((l2.length : Int) + 4)) > 65535
 · rw [if_pos c4] at H
   have c4b0 : decide (65535 < (wrap64 ((l2.length : Int) + 4))) = true := decide_eq_true c4
   clear c4
   simp only [Option.some.injEq, Prod.mk.injEq] at H
   obtain ⟨rfl, rfl⟩ := H
   go_enter Tryd.func65, Tryd.ntmps65
   go_wp2
   go_ret2
   exact ⟨_, by first | rfl | (simp [errW_none, errW_some] <;> rfl) | (simp [*, errW_none, errW_some] <;> rfl), by first | exact Kd.R_nil _ _ _ _ _ | exact Kd.N_nil _ _ _ _ _ | exact Kd.V_nil _ _ _ _ _ | exact Kd.Q_nil _ _ _ _ _ | exact Kd.S_nil _ _ _ _ _, by repeat (first | (with_reducible first | exact HB.out | apply below_alloc | apply pw_below_drewN | apply below_drew1) | exact HB.out)⟩
 · rw [if_neg c4] at H
   have c4b0 : decide (65535 < (wrap64 ((l2.length : Int) + 4))) = false := decide_eq_false c4
   clear c4
   obtain ⟨y132, hy132⟩ : ∃ y_ : List Int, y_ = (([a0, a1] : List Int)) := ⟨_, rfl⟩
   replace H : ((wire_Put.f k y132 (IntKind.u64.wrap (wrap64 ((l2.length : Int) + 4))) 2).bind fun t135 => (if t135.length + l2.length < 140737488355328 then (some ((t135 ++ l2), 0)) else (none))) = some (r1, r2) := by first | (rw [hy132]; with_reducible exact H) | (have H2_ := (Option.bind_some _ _).symm.trans H; rw [hy132]; with_reducible exact H2_) | (have H2_ := (Option.bind_some _ _).symm.trans H; with_reducible exact H2_) | with_reducible exact H | (rw [hy132]; exact H) | exact H
   have Ny132 := Aside0.mk hy132
   clear hy132
   replace H := Option.bind_eq_some_iff.mp H
   obtain ⟨t135, A50, H⟩ := H
   replace H : (if t135.length + l2.length < 140737488355328 then (some ((t135 ++ l2), 0)) else (none)) = some (r1, r2) := H
   have A5 := Aside0.mk A50
   clear A50
   by_cases c6 : t135.length + l2.length < 140737488355328
   · rw [if_pos c6] at H
     have LMc6 := Aside0.mk c6
     clear c6
     obtain ⟨y138, hy138⟩ : ∃ y_ : List Int, y_ = (t135 ++ l2) := ⟨_, rfl⟩
     replace H : (some (y138, 0)) = some (r1, r2) := by first | (rw [hy138]; with_reducible exact H) | (have H2_ := (Option.bind_some _ _).symm.trans H; rw [hy138]; with_reducible exact H2_) | (have H2_ := (Option.bind_some _ _).symm.trans H; with_reducible exact H2_) | with_reducible exact H | (rw [hy138]; exact H) | exact H
     have Ny138 := Aside0.mk hy138
     clear hy138
     simp only [Option.some.injEq, Prod.mk.injEq] at H
     obtain ⟨rfl, rfl⟩ := H
     go_enter Tryd.func65, Tryd.ntmps65
     go_wp2_with (first | ((with_reducible refine gate_dst (N := 16) rfl ?_); refine Kd.R_lit (Kd.int .u8) _ 5 ?hg (N := 16) ?hd (xs := ([a0, a1] : List Int)) (inner := [.int .u8 a0, .int .u8 a1]) (ok := fun _ => True) (okp := fun _ => True) ?hr ?hp (fun _ hk => hk) trivial (Below.refl _ _) (Nat.le_refl _) (by simp) ?_; (case hd => rfl); (case hg => rfl); (case hr => first | (go_simp; done) | (go_simp; simp only [IntKind.wrap_u8, IntKind.wrap_u16, IntKind.wrap_u32, IntKind.wrap_u64]; done) | (go_simp; simp only [IntKind.wrap_u8, IntKind.wrap_u16, IntKind.wrap_u32, IntKind.wrap_u64, Int.tmod_eq_emod_of_nonneg (Int.natCast_nonneg _), Int.emod_emod]; done) | (go_simp; rfl)); (case hp => exact (Reps.one (show Kd.M (Kd.int .u8) _ _ _ a0 [.int .u8 a0] from rfl) (Reps.one (show Kd.M (Kd.int .u8) _ _ _ a1 [.int .u8 a1] from rfl) (Reps.none _ _)))); intro v133 w7 ho8 hb hg_ hnew_; clear hg_ hnew_; (first | rw [← Ny132.out] at ho8 | (simp only [Int.reduceToNat] at ho8; rw [← Ny132.out] at ho8)); have n0_ := Aside0.mk (Kd.R_lower ho8 (below_size (by repeat (first | (with_reducible first | exact HB.out | apply below_alloc | apply pw_below_drewN | apply below_drew1) | exact HB.out)))); have n1_ := Aside0.mk (below_step (by repeat (first | (with_reducible first | exact HB.out | apply below_alloc | apply pw_below_drewN | apply below_drew1) | exact HB.out)) hb); clear HB; have HO134 := n0_; have HB := n1_; clear n0_ n1_; clear hb ho8; obtain ⟨Ao9, co9, eo9⟩ := Kd.R_slice HO134.out; subst eo9) | ((with_reducible refine gate_callee (f := 31) rfl ?_); refine goesL_ (some 19) rfl rfl Tryd.func31 (by kernel_rfl) rfl #[.slice Ao9 y132.length co9, .int .u64 (IntKind.u64.wrap (wrap64 ((l2.length : Int) + 4))), .int .i64 2] rfl (by (try simp only [List.map_toArray, List.map_cons, List.map_nil]); first | done | rfl | (simp only [List.length_drop, List.length_take]; rfl)) ?_; (with_reducible refine (wire_Put.calls k (fun k_ => some k_ = (.slice Ao9 y132.length co9 : Value).ownBlock) (.slice Ao9 y132.length co9) y132 (IntKind.u64.wrap (wrap64 ((l2.length : Int) + 4))) 2 t135 w _ ?side1 ?side2 A5.out).mono ?_); (case side1 => repeat (first | (with_reducible first | exact HB.out | apply below_alloc | apply pw_below_drewN | apply below_drew1) | exact HB.out)); (case side2 => exact Kd.R_tight rfl HO134.out); rintro e w10 ⟨v136, rfl, ho0, hb, hkp⟩; refine ⟨_, rfl, ?_⟩; have n0_ := Aside0.mk (Kd.R_mono (ok' := fun k_ => True) ho0 (fun k_ hk_ => trivial)); have n1_ := Aside0.mk (hb); clear HB; clear HO134; have HO137 := n0_; have HB := n1_; clear n0_ n1_; (try clear hb); (try clear hkp); (try clear ho0)) | ((with_reducible refine gate_builtin (b := .append) (xs := #[.tmp 19, .tmp 20]) rfl ?_); at_builtin; refine Kd.R_append_rows (Kd.int .u8) (w0 := w) w.heap.size rfl (.tmp 19) (.tmp 20) 24 5 (.int .u8 0) 1 rfl Tryd.underlying24 info5 rfl (by decide) (by omega) v136 t135 l2 _ _ _ (fun _ => True) (fun _ => False) rfl rfl ?aO ?aR (fun _ _ h => h) (fun _ h => h.elim) ?aF ?aB ?aS ?aL ?_; (case aR => repeat (first | exact (Kd.C_below HR2.out HB.out) | (with_reducible refine Kd.C_alloc ?_ _) | (with_reducible refine Kd.C_drewN ?_ _) | (with_reducible refine Kd.C_drew ?_))); (case aB => exact (by repeat (first | (with_reducible first | exact HB.out | apply below_alloc | apply pw_below_drewN | apply below_drew1) | exact HB.out))); (case aF => exact (fun _ _ => trivial)); (case aO => exact (by (with_reducible repeat (first | apply Kd.R_alloc | apply Kd.R_drewN | apply Kd.R_drew)); exact HO137.out)); (case aS => exact (below_size (by repeat (first | (with_reducible first | exact HB.out | apply below_alloc | apply pw_below_drewN | apply below_drew1) | exact HB.out)))); (case aL => have := LMc6.out; omega); intro v139 w11 ho hb hg hat; rw [← Ny138.out] at ho; have n0_ := Aside0.mk (hb); have n1_ := Aside0.mk (ho); clear HB; clear HO137; have HB := n0_; have HO140 := n1_; clear n0_ n1_; clear ho hb hg hat))
     go_ret2
     exact ⟨_, by first | rfl | (simp [errW_none, errW_some] <;> rfl) | (simp [*, errW_none, errW_some] <;> rfl), by (with_reducible repeat (first | apply Kd.R_alloc | apply Kd.R_drewN | apply Kd.R_drew)); exact HO140.out, by repeat (first | (with_reducible first | exact HB.out | apply below_alloc | apply pw_below_drewN | apply below_drew1) | exact HB.out)⟩
   · rw [if_neg c6] at H
     exact absurd H (by simp)
end Go.Proofs.YteanncchmenlkaaDoor.Print
namespace Go.Proofs.YteanncchmenlkaaDoor.Print
open Go.RowKit Go.Proofs.YteanncchmenlkaaDoorW.PrintWords Go.Proofs.YteanncchmenlkaaDoorW.PrintLast Go.Proofs.YteanncchmenlkaaDoorW.PrintMore
attribute [local go_sem] max2_int min2_int max_two min_two max_three min_three max_four min_four
set_option linter.unusedVariables false
set_option linter.unusedSimpArgs false
def ctl_size.f (k : Nat) (l0 : List Int) : Option (Int × Int) := if (l0.length : Int) < 4 then (some (0, 2)) else (if 2 ≤ (l0.length : Int) then ((wire_Get.f k (l0.drop 2) 2).bind fun t170 => (if (wrap64 (t170)) < 4 then (some (0, 4)) else (if (wrap64 (t170)) > (l0.length : Int) then (some (0, 2)) else (some (wrap64 (t170), 0))))) else (none))
end Go.Proofs.YteanncchmenlkaaDoor.Print
namespace Go.Proofs.YteanncchmenlkaaDoor.Print
open Go.RowKit Go.Proofs.YteanncchmenlkaaDoorW.PrintWords Go.Proofs.YteanncchmenlkaaDoorW.PrintLast Go.Proofs.YteanncchmenlkaaDoorW.PrintMore
attribute [local go_sem] max2_int min2_int max_two min_two max_three min_three max_four min_four
set_option linter.unusedVariables false
set_option linter.unusedSimpArgs false
def ctl_Get.f (k : Nat) (l0 : List Int) : Option (Int × Int × List Int × Int) := (ctl_size.f k l0).bind fun bt171 => (if bt171.2 = 0 then (if 0 < (l0.length : Int) then (if 1 < (l0.length : Int) then (if 4 ≤ bt171.1 then (if bt171.1 ≤ (l0.length : Int) then ((slices_Clone_byte_byte.f ((l0.take (bt171.1 : Int).toNat).drop 4)).bind fun t179 => (some (rd l0 0, rd l0 1, t179, 0))) else (none)) else (none)) else (none)) else (none)) else (some (0, 0, ([] : List Int), bt171.2)))
end Go.Proofs.YteanncchmenlkaaDoor.Print
namespace Go.Proofs.YteanncchmenlkaaDoor.Print
open Go.RowKit Go.Proofs.YteanncchmenlkaaDoorW.PrintWords Go.Proofs.YteanncchmenlkaaDoorW.PrintLast Go.Proofs.YteanncchmenlkaaDoorW.PrintMore
attribute [local go_sem] max2_int min2_int max_two min_two max_three min_three max_four min_four
set_option linter.unusedVariables false
set_option linter.unusedSimpArgs false
def bytes_Equal.f (l0 : List Int) (l1 : List Int) : Option (Bool) := some ((strOfNums l0).toList == (strOfNums l1).toList)
set_option maxHeartbeats 8000000 in
set_option maxRecDepth 100000 in
theorem bytes_Equal.calls (A0 : Option Addr) (c0 : Nat) (l0 : List Int) (A1 : Option Addr) (c1 : Nat) (l1 : List Int) (r : Bool) (w : World) (hr0 : Kd.C (Kd.int .u8) w A0 l0.length l0) (hc0 : l0.length ≤ c0) (hr1 : Kd.C (Kd.int .u8) w A1 l1.length l1) (hc1 : l1.length ≤ c1) (h : bytes_Equal.f l0 l1 = some r) :
 Calls Tryd.prog 37 #[.slice A0 l0.length c0, .slice A1 l1.length c1] w fun e w' => e = .returned (.bool r) ∧ Drawn0 w w' := by
 have HR0 := Aside0.mk hr0
 have HC0 := Aside0.mk hc0
 clear hr0 hc0
 have HR1 := Aside0.mk hr1
 have HC1 := Aside0.mk hc1
 clear hr1 hc1
 have H : (some ((strOfNums l0).toList == (strOfNums l1).toList)) = some r := h
 clear h
 obtain rfl := Option.some.inj H
 have hcv3 := Kd.C_string (P := Tryd.prog) (A := A0) (c := c0) Tryd.underlying24 Tryd.underlying5 Tryd.underlying9 HR0.out
 have hcv4 := Kd.C_string (P := Tryd.prog) (A := A1) (c := c1) Tryd.underlying24 Tryd.underlying5 Tryd.underlying9 HR1.out
 go_enter Tryd.func37, Tryd.ntmps37
 go_wp2
 go_ret
 exact ⟨by first | rfl | (simp; done) | (simp [*]; done), by repeat (first | exact Drawn0.refl _ | apply Drawn0.step)⟩
end Go.Proofs.YteanncchmenlkaaDoor.Print
namespace Go.Proofs.YteanncchmenlkaaDoor.Print
open Go.RowKit Go.Proofs.YteanncchmenlkaaDoorW.PrintWords Go.Proofs.YteanncchmenlkaaDoorW.PrintLast Go.Proofs.YteanncchmenlkaaDoorW.PrintMore
attribute [local go_sem] max2_int min2_int max_two min_two max_three min_three max_four min_four
set_option linter.unusedVariables false
set_option linter.unusedSimpArgs false
def slices_Equal_uint32_uint32.l0 : Nat → List Int → List Int → Int → Int → Option (Bool)
 | 0, _, _, _, _ => none
 | k + 1, x0, x1, x12, x13 => if x13 < x12 then (if 0 ≤ x13 then (if x13 < (x0.length : Int) then (if x13 < (x1.length : Int) then (if (rd x0 x13) = (rd x1 x13) then (slices_Equal_uint32_uint32.l0 k x0 x1 x12 (wrap64 (x13 + 1))) else (some false)) else (none)) else (none)) else (none)) else (some true)
def slices_Equal_uint32_uint32.f (k : Nat) (l0 : List Int) (l1 : List Int) : Option (Bool) := if (l0.length : Int) = (l1.length : Int) then (slices_Equal_uint32_uint32.l0 k l0 l1 (l0.length : Int) 0) else (some false)
set_option maxHeartbeats 8000000 in
set_option maxRecDepth 100000 in
theorem slices_Equal_uint32_uint32.calls (k : Nat) (A0 : Option Addr) (c0 : Nat) (l0 : List Int) (A1 : Option Addr) (c1 : Nat) (l1 : List Int) (r : Bool) (w : World) (hr0 : Kd.C (Kd.int .u32) w A0 l0.length l0) (hc0 : l0.length ≤ c0) (hr1 : Kd.C (Kd.int .u32) w A1 l1.length l1) (hc1 : l1.length ≤ c1) (h : slices_Equal_uint32_uint32.f k l0 l1 = some r) :
 Calls Tryd.prog 43 #[.slice A0 l0.length c0, .slice A1 l1.length c1] w fun e w' => e = .returned (.bool r) ∧ Drawn0 w w' := by
 have HR0 := Aside0.mk hr0
 have HC0 := Aside0.mk hc0
 clear hr0 hc0
 have HR1 := Aside0.mk hr1
 have HC1 := Aside0.mk hc1
 clear hr1 hc1
 have H : (if (l0.length : Int) = (l1.length : Int) then (slices_Equal_uint32_uint32.l0 k l0 l1 (l0.length : Int) 0) else (some false)) = some r := h
 clear h
 by_cases c3 : (l0.length : Int) = (l1.length : Int)
 · rw [if_pos c3] at H
   have c3b0 : ((l0.length : Int) == (l1.length : Int)) = true := beq_iff_eq.mpr c3
   have c3b1 : ((l0.length : Int) != (l1.length : Int)) = false := bne_eq_false_iff_eq.mpr c3
   have c3b2 : (l0.length == l1.length) = true := by first | simpa using c3 | (simp at c3 ⊢; omega)
   clear c3
   have H' := Aside0.mk H
   clear H
   go_enter Tryd.func43, Tryd.ntmps43
   go_wp2
   repeat (go_quiet (fail); try go_wp2)
   go_loopg [13] k (fun kq v13 w' => ∃ (x13_1 : Int), v13 = .int .i64 x13_1 ∧ Aside0 (slices_Equal_uint32_uint32.l0 kq l0 l1 (l0.length : Int) x13_1 = some r) ∧ Aside0 (kq ≤ k) ∧ Drawn0 w w')
   case atStart => exact ⟨(0), (by first | rfl | (simp; done) | (simp [*]; done)), H', ⟨Nat.le_refl _⟩, by repeat (first | exact Drawn0.refl _ | apply Drawn0.step)⟩
   case round =>
    clear H'
    try clear c1
    try clear p2
    try clear c3
    try clear c3b0
    try clear c3b1
    try clear c3b2
    obtain ⟨x13_1, rfl, HA, HK1, ⟨m1, rfl⟩⟩ := hrel
    cases gk with
    | zero => exact absurd HA.out (by simp [slices_Equal_uint32_uint32.l0])
    | succ k1 =>
     have H := HA.out
     clear HA
     simp only [slices_Equal_uint32_uint32.l0] at H
     by_cases c4 : x13_1 < (l0.length : Int)
     · rw [if_pos c4] at H
       have c4b0 : decide (x13_1 < (l0.length : Int)) = true := decide_eq_true c4
       clear c4
       by_cases c5 : 0 ≤ x13_1
       · rw [if_pos c5] at H
         have c5b0 : decide (0 ≤ x13_1) = true := decide_eq_true c5
         clear c5
         by_cases c6 : x13_1 < (l0.length : Int)
         · rw [if_pos c6] at H
           have c6b0 : decide (x13_1 < (l0.length : Int)) = true := decide_eq_true c6
           clear c6
           by_cases c7 : x13_1 < (l1.length : Int)
           · rw [if_pos c7] at H
             have c7b0 : decide (x13_1 < (l1.length : Int)) = true := decide_eq_true c7
             clear c7
             by_cases c8 : (rd l0 x13_1) = (rd l1 x13_1)
             · rw [if_pos c8] at H
               have c8b0 : ((rd l0 x13_1) == (rd l1 x13_1)) = true := beq_iff_eq.mpr c8
               have c8b1 : ((rd l0 x13_1) != (rd l1 x13_1)) = false := bne_eq_false_iff_eq.mpr c8
               clear c8
               have H' := Aside0.mk H
               clear H
               have p101 : 0 ≤ (x13_1 : Int) := of_decide_eq_true (by first | (with_reducible assumption) | assumption)
               have q101 : x13_1 < (l0.length : Int) := of_decide_eq_true (by first | (with_reducible assumption) | assumption)
               obtain ⟨ad101, e101, hx101_0⟩ := Kd.at_int HR0.out x13_1 p101 q101
               cases e101
               replace p101 := eq_true p101
               replace q101 := eq_true q101
               have p102 : 0 ≤ (x13_1 : Int) := of_decide_eq_true (by first | (with_reducible assumption) | assumption)
               have q102 : x13_1 < (l1.length : Int) := of_decide_eq_true (by first | (with_reducible assumption) | assumption)
               obtain ⟨ad102, e102, hx102_0⟩ := Kd.at_int HR1.out x13_1 p102 q102
               cases e102
               replace p102 := eq_true p102
               replace q102 := eq_true q102
               go_wp2
               repeat (go_quiet (fail); try go_wp2)
               go_roundg k1
               case measure => have := HK1.out; omega
               case rel => exact ⟨(wrap64 (x13_1 + 1)), (by first | rfl | (simp; done) | (simp [*]; done)), H', ⟨by have := HK1.out; omega⟩, by repeat (first | exact Drawn0.refl _ | apply Drawn0.step)⟩
             · rw [if_neg c8] at H
               have c8b0 : ((rd l0 x13_1) == (rd l1 x13_1)) = false := beq_eq_false_iff_ne.mpr c8
               have c8b1 : ((rd l0 x13_1) != (rd l1 x13_1)) = true := bne_iff_ne.mpr c8
               obtain rfl := Option.some.inj H
               have p101 : 0 ≤ (x13_1 : Int) := of_decide_eq_true (by first | (with_reducible assumption) | assumption)
               have q101 : x13_1 < (l0.length : Int) := of_decide_eq_true (by first | (with_reducible assumption) | assumption)
               obtain ⟨ad101, e101, hx101_0⟩ := Kd.at_int HR0.out x13_1 p101 q101
               cases e101
               replace p101 := eq_true p101
               replace q101 := eq_true q101
               have p102 : 0 ≤ (x13_1 : Int) := of_decide_eq_true (by first | (with_reducible assumption) | assumption)
               have q102 : x13_1 < (l1.length : Int) := of_decide_eq_true (by first | (with_reducible assumption) | assumption)
               obtain ⟨ad102, e102, hx102_0⟩ := Kd.at_int HR1.out x13_1 p102 q102
               cases e102
               replace p102 := eq_true p102
               replace q102 := eq_true q102
               go_wp2
               repeat (go_quiet (fail); try go_wp2)
               go_ret
               exact ⟨by first | rfl | (simp; done) | (simp [*]; done), by repeat (first | exact Drawn0.refl _ | apply Drawn0.step)⟩
           · rw [if_neg c7] at H
             exact absurd H (by simp)
         · rw [if_neg c6] at H
           exact absurd H (by simp)
       · rw [if_neg c5] at H
         exact absurd H (by simp)
     · rw [if_neg c4] at H
       have c4b0 : decide (x13_1 < (l0.length : Int)) = false := decide_eq_false c4
       clear c4
       obtain rfl := Option.some.inj H
       go_wp2
       repeat (go_quiet (fail); try go_wp2)
       go_ret
       exact ⟨by first | rfl | (simp; done) | (simp [*]; done), by repeat (first | exact Drawn0.refl _ | apply Drawn0.step)⟩
 · rw [if_neg c3] at H
   have c3b0 : ((l0.length : Int) == (l1.length : Int)) = false := beq_eq_false_iff_ne.mpr c3
   have c3b1 : ((l0.length : Int) != (l1.length : Int)) = true := bne_iff_ne.mpr c3
   have c3b2 : (l0.length == l1.length) = false := by first | simpa using c3 | (simp at c3 ⊢; omega)
   obtain rfl := Option.some.inj H
   go_enter Tryd.func43, Tryd.ntmps43
   go_wp2
   repeat (go_quiet (fail); try go_wp2)
   go_ret
   exact ⟨by first | rfl | (simp; done) | (simp [*]; done), by repeat (first | exact Drawn0.refl _ | apply Drawn0.step)⟩
end Go.Proofs.YteanncchmenlkaaDoor.Print
namespace Go.Proofs.YteanncchmenlkaaDoor.Print
open Go.RowKit Go.Proofs.YteanncchmenlkaaDoorW.PrintWords Go.Proofs.YteanncchmenlkaaDoorW.PrintLast Go.Proofs.YteanncchmenlkaaDoorW.PrintMore
attribute [local go_sem] max2_int min2_int max_two min_two max_three min_three max_four min_four
set_option linter.unusedVariables false
set_option linter.unusedSimpArgs false
def body_Same.j0 : Nat → Bool → Int → Int → Int → List (S62) → Int → Int → List Int → List Int → List Int → List Int → Int → Int → Int → List (S62) → Int → Int → List Int → List Int → List Int → List Int → Option (Bool)
 | 0, _, _, _, _, _, _, _, _, _, _, _, _, _, _, _, _, _, _, _, _, _ => none
 | k + 1, x5, x104000, x104001, x104002, x104003, x104004, x104005, x104006, x104007, x104008, x104009, x105000, x105001, x105002, x105003, x105004, x105005, x105006, x105007, x105008, x105009 => if x5 = true then ((tlv_Same.f x104003 x105003).bind fun t105 => (if t105 = true then ((bytes_Equal.f x104006 x105006).bind fun t106 => (if t106 = true then ((bytes_Equal.f x104007 x105007).bind fun t107 => (if t107 = true then ((bytes_Equal.f x104008 x105008).bind fun t108 => (if t108 = true then ((slices_Equal_uint32_uint32.f k x104009 x105009).bind fun t109 => (some t109)) else (some false))) else (some false))) else (some false))) else (some false))) else (some false)
def body_Same.f (k : Nat) (a0_0 : Int) (a0_1 : Int) (a0_2 : Int) (l0_3 : List (S62)) (a0_4 : Int) (a0_5 : Int) (l0_6 : List Int) (l0_7 : List Int) (l0_8 : List Int) (l0_9 : List Int) (a1_0 : Int) (a1_1 : Int) (a1_2 : Int) (l1_3 : List (S62)) (a1_4 : Int) (a1_5 : Int) (l1_6 : List Int) (l1_7 : List Int) (l1_8 : List Int) (l1_9 : List Int) : Option (Bool) := if a0_0 = a1_0 then (if a0_1 = a1_1 then (if a0_2 = a1_2 then (if a0_4 = a1_4 then (body_Same.j0 k (a0_5 == a1_5) a0_0 a0_1 a0_2 l0_3 a0_4 a0_5 l0_6 l0_7 l0_8 l0_9 a1_0 a1_1 a1_2 l1_3 a1_4 a1_5 l1_6 l1_7 l1_8 l1_9) else (body_Same.j0 k false a0_0 a0_1 a0_2 l0_3 a0_4 a0_5 l0_6 l0_7 l0_8 l0_9 a1_0 a1_1 a1_2 l1_3 a1_4 a1_5 l1_6 l1_7 l1_8 l1_9)) else (body_Same.j0 k false a0_0 a0_1 a0_2 l0_3 a0_4 a0_5 l0_6 l0_7 l0_8 l0_9 a1_0 a1_1 a1_2 l1_3 a1_4 a1_5 l1_6 l1_7 l1_8 l1_9)) else (body_Same.j0 k false a0_0 a0_1 a0_2 l0_3 a0_4 a0_5 l0_6 l0_7 l0_8 l0_9 a1_0 a1_1 a1_2 l1_3 a1_4 a1_5 l1_6 l1_7 l1_8 l1_9)) else (body_Same.j0 k false a0_0 a0_1 a0_2 l0_3 a0_4 a0_5 l0_6 l0_7 l0_8 l0_9 a1_0 a1_1 a1_2 l1_3 a1_4 a1_5 l1_6 l1_7 l1_8 l1_9)
set_option maxHeartbeats 8000000 in
set_option maxRecDepth 100000 in
theorem body_Same.calls (k : Nat) (a0_0 : Int) (a0_1 : Int) (a0_2 : Int) (A0_3 : Option Addr) (c0_3 : Nat) (l0_3 : List (S62)) (a0_4 : Int) (a0_5 : Int) (A0_6 : Option Addr) (c0_6 : Nat) (l0_6 : List Int) (A0_7 : Option Addr) (c0_7 : Nat) (l0_7 : List Int) (A0_8 : Option Addr) (c0_8 : Nat) (l0_8 : List Int) (A0_9 : Option Addr) (c0_9 : Nat) (l0_9 : List Int) (a1_0 : Int) (a1_1 : Int) (a1_2 : Int) (A1_3 : Option Addr) (c1_3 : Nat) (l1_3 : List (S62)) (a1_4 : Int) (a1_5 : Int) (A1_6 : Option Addr) (c1_6 : Nat) (l1_6 : List Int) (A1_7 : Option Addr) (c1_7 : Nat) (l1_7 : List Int) (A1_8 : Option Addr) (c1_8 : Nat) (l1_8 : List Int) (A1_9 : Option Addr) (c1_9 : Nat) (l1_9 : List Int) (r : Bool) (w : World) (hr0_3 : Kd.C k62 w A0_3 l0_3.length l0_3) (hc0_3 : l0_3.length ≤ c0_3) (hr0_6 : Kd.C (Kd.int .u8) w A0_6 l0_6.length l0_6) (hc0_6 : l0_6.length ≤ c0_6) (hr0_7 : Kd.C (Kd.int .u8) w A0_7 l0_7.length l0_7) (hc0_7 : l0_7.length ≤ c0_7) (hr0_8 : Kd.C (Kd.int .u8) w A0_8 l0_8.length l0_8) (hc0_8 : l0_8.length ≤ c0_8) (hr0_9 : Kd.C (Kd.int .u32) w A0_9 l0_9.length l0_9) (hc0_9 : l0_9.length ≤ c0_9) (hr1_3 : Kd.C k62 w A1_3 l1_3.length l1_3) (hc1_3 : l1_3.length ≤ c1_3) (hr1_6 : Kd.C (Kd.int .u8) w A1_6 l1_6.length l1_6) (hc1_6 : l1_6.length ≤ c1_6) (hr1_7 : Kd.C (Kd.int .u8) w A1_7 l1_7.length l1_7) (hc1_7 : l1_7.length ≤ c1_7) (hr1_8 : Kd.C (Kd.int .u8) w A1_8 l1_8.length l1_8) (hc1_8 : l1_8.length ≤ c1_8) (hr1_9 : Kd.C (Kd.int .u32) w A1_9 l1_9.length l1_9) (hc1_9 : l1_9.length ≤ c1_9) (h : body_Same.f k a0_0 a0_1 a0_2 l0_3 a0_4 a0_5 l0_6 l0_7 l0_8 l0_9 a1_0 a1_1 a1_2 l1_3 a1_4 a1_5 l1_6 l1_7 l1_8 l1_9 = some r) :
 Calls Tryd.prog 25 #[.agg #[.int .u16 a0_0, .int .u8 a0_1, .int .u8 a0_2, .slice A0_3 l0_3.length c0_3, .int .u16 a0_4, .int .u32 a0_5, .slice A0_6 l0_6.length c0_6, .slice A0_7 l0_7.length c0_7, .slice A0_8 l0_8.length c0_8, .slice A0_9 l0_9.length c0_9], .agg #[.int .u16 a1_0, .int .u8 a1_1, .int .u8 a1_2, .slice A1_3 l1_3.length c1_3, .int .u16 a1_4, .int .u32 a1_5, .slice A1_6 l1_6.length c1_6, .slice A1_7 l1_7.length c1_7, .slice A1_8 l1_8.length c1_8, .slice A1_9 l1_9.length c1_9]] w fun e w' => e = .returned (.bool r) ∧ Below w.heap.size w w' := by
 have hu29 := Tryd.underlying29
 have HR0_3 := Aside0.mk hr0_3
 have HC0_3 := Aside0.mk hc0_3
 clear hr0_3 hc0_3
 have HR0_6 := Aside0.mk hr0_6
 have HC0_6 := Aside0.mk hc0_6
 clear hr0_6 hc0_6
 have HR0_7 := Aside0.mk hr0_7
 have HC0_7 := Aside0.mk hc0_7
 clear hr0_7 hc0_7
 have HR0_8 := Aside0.mk hr0_8
 have HC0_8 := Aside0.mk hc0_8
 clear hr0_8 hc0_8
 have HR0_9 := Aside0.mk hr0_9
 have HC0_9 := Aside0.mk hc0_9
 clear hr0_9 hc0_9
 have HR1_3 := Aside0.mk hr1_3
 have HC1_3 := Aside0.mk hc1_3
 clear hr1_3 hc1_3
 have HR1_6 := Aside0.mk hr1_6
 have HC1_6 := Aside0.mk hc1_6
 clear hr1_6 hc1_6
 have HR1_7 := Aside0.mk hr1_7
 have HC1_7 := Aside0.mk hc1_7
 clear hr1_7 hc1_7
 have HR1_8 := Aside0.mk hr1_8
 have HC1_8 := Aside0.mk hc1_8
 clear hr1_8 hc1_8
 have HR1_9 := Aside0.mk hr1_9
 have HC1_9 := Aside0.mk hc1_9
 clear hr1_9 hc1_9
 have HB := Aside0.mk (Below.refl w.heap.size w)
 have H : (if a0_0 = a1_0 then (if a0_1 = a1_1 then (if a0_2 = a1_2 then (if a0_4 = a1_4 then (body_Same.j0 k (a0_5 == a1_5) a0_0 a0_1 a0_2 l0_3 a0_4 a0_5 l0_6 l0_7 l0_8 l0_9 a1_0 a1_1 a1_2 l1_3 a1_4 a1_5 l1_6 l1_7 l1_8 l1_9) else (body_Same.j0 k false a0_0 a0_1 a0_2 l0_3 a0_4 a0_5 l0_6 l0_7 l0_8 l0_9 a1_0 a1_1 a1_2 l1_3 a1_4 a1_5 l1_6 l1_7 l1_8 l1_9)) else (body_Same.j0 k false a0_0 a0_1 a0_2 l0_3 a0_4 a0_5 l0_6 l0_7 l0_8 l0_9 a1_0 a1_1 a1_2 l1_3 a1_4 a1_5 l1_6 l1_7 l1_8 l1_9)) else (body_Same.j0 k false a0_0 a0_1 a0_2 l0_3 a0_4 a0_5 l0_6 l0_7 l0_8 l0_9 a1_0 a1_1 a1_2 l1_3 a1_4 a1_5 l1_6 l1_7 l1_8 l1_9)) else (body_Same.j0 k false a0_0 a0_1 a0_2 l0_3 a0_4 a0_5 l0_6 l0_7 l0_8 l0_9 a1_0 a1_1 a1_2 l1_3 a1_4 a1_5 l1_6 l1_7 l1_8 l1_9)) = some r := h
 clear h
 have HC3 := Aside0.mk H
 clear H
 go_enter Tryd.func25, Tryd.ntmps25
 go_upto_region 1 with (first | ((with_reducible refine gate_dst (N := 2) rfl ?_); refine box_event ?hg (N := 2) ?hd (cs := #[.int .u16 a0_0, .int .u8 a0_1, .int .u8 a0_2, .slice A0_3 l0_3.length c0_3, .int .u16 a0_4, .int .u32 a0_5, .slice A0_6 l0_6.length c0_6, .slice A0_7 l0_7.length c0_7, .slice A0_8 l0_8.length c0_8, .slice A0_9 l0_9.length c0_9]) (t := 29) ?hr ?_; (case hd => rfl); (case hg => rfl); (case hr => first | (go_simp; done) | (go_simp; simp only [IntKind.wrap_u8, IntKind.wrap_u16, IntKind.wrap_u32, IntKind.wrap_u64]; done) | (go_simp; simp only [IntKind.wrap_u8, IntKind.wrap_u16, IntKind.wrap_u32, IntKind.wrap_u64, Int.tmod_eq_emod_of_nonneg (Int.natCast_nonneg _), Int.emod_emod]; done) | (go_simp; rfl)); intro gb103 hg w4 hbox hb; have n0_ := Aside0.mk (below_step (by repeat (first | (with_reducible first | exact HB.out | apply below_alloc | apply pw_below_drewN | apply below_drew1) | exact HB.out)) hb); have n1_ := Aside0.mk (hbox); have n2_ := Aside0.mk ((by rw [hg]; exact (below_size (by repeat (first | (with_reducible first | exact HB.out | apply below_alloc | apply pw_below_drewN | apply below_drew1) | exact HB.out))) : w.heap.size ≤ gb103)); have n3_ := Aside0.mk ((by rw [hg]; exact (below_size (by repeat (first | (with_reducible first | exact HB.out | apply below_alloc | apply pw_below_drewN | apply below_drew1) | exact HB.out))) : w.heap.size ≤ gb103)); clear HB; have HB := n0_; have BK103 := n1_; have GW103 := n2_; have GE103 := n3_; clear n0_ n1_ n2_ n3_; clear hb hbox hg) | ((with_reducible refine gate_dst (N := 3) rfl ?_); refine box_event ?hg (N := 3) ?hd (cs := #[.int .u16 a1_0, .int .u8 a1_1, .int .u8 a1_2, .slice A1_3 l1_3.length c1_3, .int .u16 a1_4, .int .u32 a1_5, .slice A1_6 l1_6.length c1_6, .slice A1_7 l1_7.length c1_7, .slice A1_8 l1_8.length c1_8, .slice A1_9 l1_9.length c1_9]) (t := 29) ?hr ?_; (case hd => rfl); (case hg => rfl); (case hr => first | (go_simp; done) | (go_simp; simp only [IntKind.wrap_u8, IntKind.wrap_u16, IntKind.wrap_u32, IntKind.wrap_u64]; done) | (go_simp; simp only [IntKind.wrap_u8, IntKind.wrap_u16, IntKind.wrap_u32, IntKind.wrap_u64, Int.tmod_eq_emod_of_nonneg (Int.natCast_nonneg _), Int.emod_emod]; done) | (go_simp; rfl)); intro gb104 hg w5 hbox hb; have n0_ := Aside0.mk (blk_below (g := gb103) (o := .cells #[.int .u16 a0_0, .int .u8 a0_1, .int .u8 a0_2, .slice A0_3 l0_3.length c0_3, .int .u16 a0_4, .int .u32 a0_5, .slice A0_6 l0_6.length c0_6, .slice A0_7 l0_7.length c0_7, .slice A0_8 l0_8.length c0_8, .slice A0_9 l0_9.length c0_9] 29 (0, 0)) (by (with_reducible repeat (first | refine blk_drewN ?_ _ | refine blk_drew ?_ | refine blk_alloc ?_ _)); exact BK103.out) hb); have n1_ := Aside0.mk (below_step (by repeat (first | (with_reducible first | exact HB.out | apply below_alloc | apply pw_below_drewN | apply below_drew1 | refine below_set ?_ GE103.out) | exact HB.out)) hb); have n2_ := Aside0.mk (hbox); have n3_ := Aside0.mk ((by rw [hg]; exact (below_size (by repeat (first | (with_reducible first | exact HB.out | apply below_alloc | apply pw_below_drewN | apply below_drew1 | refine below_set ?_ GE103.out) | exact HB.out))) : w.heap.size ≤ gb104)); have n4_ := Aside0.mk ((by rw [hg]; exact (below_size (by repeat (first | (with_reducible first | exact HB.out | apply below_alloc | apply pw_below_drewN | apply below_drew1 | refine below_set ?_ GE103.out) | exact HB.out))) : w.heap.size ≤ gb104)); have n5_ := Aside0.mk ((by rw [hg]; exact Nat.ne_of_lt (blk_lt (g := gb103) (o := .cells #[.int .u16 a0_0, .int .u8 a0_1, .int .u8 a0_2, .slice A0_3 l0_3.length c0_3, .int .u16 a0_4, .int .u32 a0_5, .slice A0_6 l0_6.length c0_6, .slice A0_7 l0_7.length c0_7, .slice A0_8 l0_8.length c0_8, .slice A0_9 l0_9.length c0_9] 29 (0, 0)) (by (with_reducible repeat (first | refine blk_drewN ?_ _ | refine blk_drew ?_ | refine blk_alloc ?_ _)); exact BK103.out)) : gb103 ≠ gb104)); have n6_ := Aside0.mk ((by rw [hg]; exact Nat.ne_of_gt (blk_lt (g := gb103) (o := .cells #[.int .u16 a0_0, .int .u8 a0_1, .int .u8 a0_2, .slice A0_3 l0_3.length c0_3, .int .u16 a0_4, .int .u32 a0_5, .slice A0_6 l0_6.length c0_6, .slice A0_7 l0_7.length c0_7, .slice A0_8 l0_8.length c0_8, .slice A0_9 l0_9.length c0_9] 29 (0, 0)) (by (with_reducible repeat (first | refine blk_drewN ?_ _ | refine blk_drew ?_ | refine blk_alloc ?_ _)); exact BK103.out)) : gb104 ≠ gb103)); clear BK103; clear HB; have BK103 := n0_; have HB := n1_; have BK104 := n2_; have GW104 := n3_; have GE104 := n4_; have NB103_104 := n5_; have NB104_103 := n6_; clear n0_ n1_ n2_ n3_ n4_ n5_ n6_; clear hb hbox hg))
 (try simp only [Act.put, List.setIfInBounds_toArray, List.set_cons_zero, List.set_cons_succ])
 go_cut [5] (fun v5 wc => ∃ (kq : Nat) (x5_2 : Bool), v5 = .bool x5_2 ∧ Aside0 (body_Same.j0 kq x5_2 a0_0 a0_1 a0_2 l0_3 a0_4 a0_5 l0_6 l0_7 l0_8 l0_9 a1_0 a1_1 a1_2 l1_3 a1_4 a1_5 l1_6 l1_7 l1_8 l1_9 = some r) ∧ Aside0 (kq ≤ k) ∧ Aside0 (wc.heap[gb103]? = some (.cells #[.int .u16 a0_0, .int .u8 a0_1, .int .u8 a0_2, (.slice A0_3 l0_3.length c0_3), .int .u16 a0_4, .int .u32 a0_5, (.slice A0_6 l0_6.length c0_6), (.slice A0_7 l0_7.length c0_7), (.slice A0_8 l0_8.length c0_8), (.slice A0_9 l0_9.length c0_9)] 29 (0, 0))) ∧ Aside0 (wc.heap[gb104]? = some (.cells #[.int .u16 a1_0, .int .u8 a1_1, .int .u8 a1_2, (.slice A1_3 l1_3.length c1_3), .int .u16 a1_4, .int .u32 a1_5, (.slice A1_6 l1_6.length c1_6), (.slice A1_7 l1_7.length c1_7), (.slice A1_8 l1_8.length c1_8), (.slice A1_9 l1_9.length c1_9)] 29 (0, 0))) ∧ Aside0 (Below w.heap.size w wc))
 case first =>
  have H := HC3.out
  clear HC3
  by_cases c6 : a0_0 = a1_0
  · rw [if_pos c6] at H
    have c6b0 : (a0_0 == a1_0) = true := beq_iff_eq.mpr c6
    have c6b1 : (a0_0 != a1_0) = false := bne_eq_false_iff_eq.mpr c6
    clear c6
    (first | rw [c6b0] | (simp only [i64_w, i32_w]; rw [c6b0]) | skip)
    by_cases c7 : a0_1 = a1_1
    · rw [if_pos c7] at H
      have c7b0 : (a0_1 == a1_1) = true := beq_iff_eq.mpr c7
      have c7b1 : (a0_1 != a1_1) = false := bne_eq_false_iff_eq.mpr c7
      clear c7
      by_cases c8 : a0_2 = a1_2
      · rw [if_pos c8] at H
        have c8b0 : (a0_2 == a1_2) = true := beq_iff_eq.mpr c8
        have c8b1 : (a0_2 != a1_2) = false := bne_eq_false_iff_eq.mpr c8
        clear c8
        by_cases c9 : a0_4 = a1_4
        · rw [if_pos c9] at H
          have c9b0 : (a0_4 == a1_4) = true := beq_iff_eq.mpr c9
          have c9b1 : (a0_4 != a1_4) = false := bne_eq_false_iff_eq.mpr c9
          clear c9
          have H' := Aside0.mk H
          clear H
          have hnb10 := NB103_104.out
          have hnc10 := NB104_103.out
          obtain ⟨⟨hcz11_0, hcz11_1, hcz11_2, hcz11_3, hcz11_4, hcz11_5, hcz11_6, hcz11_7, hcz11_8, hcz11_9⟩, hfz11_0, hfz11_1, hfz11_2, hfz11_3, hfz11_4, hfz11_5, hfz11_6, hfz11_7, hfz11_8, hfz11_9⟩ := cz10 BK103.out
          obtain ⟨⟨hcz12_0, hcz12_1, hcz12_2, hcz12_3, hcz12_4, hcz12_5, hcz12_6, hcz12_7, hcz12_8, hcz12_9⟩, hfz12_0, hfz12_1, hfz12_2, hfz12_3, hfz12_4, hfz12_5, hfz12_6, hfz12_7, hfz12_8, hfz12_9⟩ := cz10 BK104.out
          go_wp2
          go_meet
          case rel => exact ⟨_, ((a0_5 == a1_5)), (by first | rfl | (simp; done) | (simp [*]; done)), H', ⟨by first | omega | exact Nat.le_refl _⟩, ⟨by (with_reducible repeat (first | refine blk_drewN ?_ _ | refine blk_drew ?_ | refine blk_alloc ?_ _)); exact BK103.out⟩, ⟨by (with_reducible repeat (first | refine blk_drewN ?_ _ | refine blk_drew ?_ | refine blk_alloc ?_ _)); exact BK104.out⟩, ⟨by repeat (first | (with_reducible first | exact HB.out | apply below_alloc | apply pw_below_drewN | apply below_drew1 | refine below_set ?_ GE103.out | refine below_set ?_ GE104.out) | exact HB.out)⟩⟩
        · rw [if_neg c9] at H
          have c9b0 : (a0_4 == a1_4) = false := beq_eq_false_iff_ne.mpr c9
          have c9b1 : (a0_4 != a1_4) = true := bne_iff_ne.mpr c9
          have H' := Aside0.mk H
          clear H
          have hnb13 := NB103_104.out
          have hnc13 := NB104_103.out
          obtain ⟨⟨hcz14_0, hcz14_1, hcz14_2, hcz14_3, hcz14_4, hcz14_5, hcz14_6, hcz14_7, hcz14_8, hcz14_9⟩, hfz14_0, hfz14_1, hfz14_2, hfz14_3, hfz14_4, hfz14_5, hfz14_6, hfz14_7, hfz14_8, hfz14_9⟩ := cz10 BK103.out
          obtain ⟨⟨hcz15_0, hcz15_1, hcz15_2, hcz15_3, hcz15_4, hcz15_5, hcz15_6, hcz15_7, hcz15_8, hcz15_9⟩, hfz15_0, hfz15_1, hfz15_2, hfz15_3, hfz15_4, hfz15_5, hfz15_6, hfz15_7, hfz15_8, hfz15_9⟩ := cz10 BK104.out
          go_wp2
          go_meet
          case rel => exact ⟨_, (false), (by first | rfl | (simp; done) | (simp [*]; done)), H', ⟨by first | omega | exact Nat.le_refl _⟩, ⟨by (with_reducible repeat (first | refine blk_drewN ?_ _ | refine blk_drew ?_ | refine blk_alloc ?_ _)); exact BK103.out⟩, ⟨by (with_reducible repeat (first | refine blk_drewN ?_ _ | refine blk_drew ?_ | refine blk_alloc ?_ _)); exact BK104.out⟩, ⟨by repeat (first | (with_reducible first | exact HB.out | apply below_alloc | apply pw_below_drewN | apply below_drew1 | refine below_set ?_ GE103.out | refine below_set ?_ GE104.out) | exact HB.out)⟩⟩
      · rw [if_neg c8] at H
        have c8b0 : (a0_2 == a1_2) = false := beq_eq_false_iff_ne.mpr c8
        have c8b1 : (a0_2 != a1_2) = true := bne_iff_ne.mpr c8
        have H' := Aside0.mk H
        clear H
        have hnb16 := NB103_104.out
        have hnc16 := NB104_103.out
        obtain ⟨⟨hcz17_0, hcz17_1, hcz17_2, hcz17_3, hcz17_4, hcz17_5, hcz17_6, hcz17_7, hcz17_8, hcz17_9⟩, hfz17_0, hfz17_1, hfz17_2, hfz17_3, hfz17_4, hfz17_5, hfz17_6, hfz17_7, hfz17_8, hfz17_9⟩ := cz10 BK103.out
        obtain ⟨⟨hcz18_0, hcz18_1, hcz18_2, hcz18_3, hcz18_4, hcz18_5, hcz18_6, hcz18_7, hcz18_8, hcz18_9⟩, hfz18_0, hfz18_1, hfz18_2, hfz18_3, hfz18_4, hfz18_5, hfz18_6, hfz18_7, hfz18_8, hfz18_9⟩ := cz10 BK104.out
        go_wp2
        go_meet
        case rel => exact ⟨_, (false), (by first | rfl | (simp; done) | (simp [*]; done)), H', ⟨by first | omega | exact Nat.le_refl _⟩, ⟨by (with_reducible repeat (first | refine blk_drewN ?_ _ | refine blk_drew ?_ | refine blk_alloc ?_ _)); exact BK103.out⟩, ⟨by (with_reducible repeat (first | refine blk_drewN ?_ _ | refine blk_drew ?_ | refine blk_alloc ?_ _)); exact BK104.out⟩, ⟨by repeat (first | (with_reducible first | exact HB.out | apply below_alloc | apply pw_below_drewN | apply below_drew1 | refine below_set ?_ GE103.out | refine below_set ?_ GE104.out) | exact HB.out)⟩⟩
    · rw [if_neg c7] at H
      have c7b0 : (a0_1 == a1_1) = false := beq_eq_false_iff_ne.mpr c7
      have c7b1 : (a0_1 != a1_1) = true := bne_iff_ne.mpr c7
      have H' := Aside0.mk H
      clear H
      have hnb19 := NB103_104.out
      have hnc19 := NB104_103.out
      obtain ⟨⟨hcz20_0, hcz20_1, hcz20_2, hcz20_3, hcz20_4, hcz20_5, hcz20_6, hcz20_7, hcz20_8, hcz20_9⟩, hfz20_0, hfz20_1, hfz20_2, hfz20_3, hfz20_4, hfz20_5, hfz20_6, hfz20_7, hfz20_8, hfz20_9⟩ := cz10 BK103.out
      obtain ⟨⟨hcz21_0, hcz21_1, hcz21_2, hcz21_3, hcz21_4, hcz21_5, hcz21_6, hcz21_7, hcz21_8, hcz21_9⟩, hfz21_0, hfz21_1, hfz21_2, hfz21_3, hfz21_4, hfz21_5, hfz21_6, hfz21_7, hfz21_8, hfz21_9⟩ := cz10 BK104.out
      go_wp2
      go_meet
      case rel => exact ⟨_, (false), (by first | rfl | (simp; done) | (simp [*]; done)), H', ⟨by first | omega | exact Nat.le_refl _⟩, ⟨by (with_reducible repeat (first | refine blk_drewN ?_ _ | refine blk_drew ?_ | refine blk_alloc ?_ _)); exact BK103.out⟩, ⟨by (with_reducible repeat (first | refine blk_drewN ?_ _ | refine blk_drew ?_ | refine blk_alloc ?_ _)); exact BK104.out⟩, ⟨by repeat (first | (with_reducible first | exact HB.out | apply below_alloc | apply pw_below_drewN | apply below_drew1 | refine below_set ?_ GE103.out | refine below_set ?_ GE104.out) | exact HB.out)⟩⟩
  · rw [if_neg c6] at H
    have c6b0 : (a0_0 == a1_0) = false := beq_eq_false_iff_ne.mpr c6
    have c6b1 : (a0_0 != a1_0) = true := bne_iff_ne.mpr c6
    (first | rw [c6b0] | (simp only [i64_w, i32_w]; rw [c6b0]) | skip)
    have H' := Aside0.mk H
    clear H
    have hnb22 := NB103_104.out
    have hnc22 := NB104_103.out
    obtain ⟨⟨hcz23_0, hcz23_1, hcz23_2, hcz23_3, hcz23_4, hcz23_5, hcz23_6, hcz23_7, hcz23_8, hcz23_9⟩, hfz23_0, hfz23_1, hfz23_2, hfz23_3, hfz23_4, hfz23_5, hfz23_6, hfz23_7, hfz23_8, hfz23_9⟩ := cz10 BK103.out
    obtain ⟨⟨hcz24_0, hcz24_1, hcz24_2, hcz24_3, hcz24_4, hcz24_5, hcz24_6, hcz24_7, hcz24_8, hcz24_9⟩, hfz24_0, hfz24_1, hfz24_2, hfz24_3, hfz24_4, hfz24_5, hfz24_6, hfz24_7, hfz24_8, hfz24_9⟩ := cz10 BK104.out
    go_wp2
    go_meet
    case rel => exact ⟨_, (false), (by first | rfl | (simp; done) | (simp [*]; done)), H', ⟨by first | omega | exact Nat.le_refl _⟩, ⟨by (with_reducible repeat (first | refine blk_drewN ?_ _ | refine blk_drew ?_ | refine blk_alloc ?_ _)); exact BK103.out⟩, ⟨by (with_reducible repeat (first | refine blk_drewN ?_ _ | refine blk_drew ?_ | refine blk_alloc ?_ _)); exact BK104.out⟩, ⟨by repeat (first | (with_reducible first | exact HB.out | apply below_alloc | apply pw_below_drewN | apply below_drew1 | refine below_set ?_ GE103.out | refine below_set ?_ GE104.out) | exact HB.out)⟩⟩
 case rest =>
  clear HC3
  try clear c1
  try clear c2
  try clear p2
  try clear c6
  try clear c6b0
  try clear c6b1
  try clear c7
  try clear c7b0
  try clear c7b1
  try clear c8
  try clear c8b0
  try clear c8b1
  try clear c9
  try clear c9b0
  try clear c9b1
  try clear c10
  try clear c13
  try clear c16
  try clear c19
  try clear c22
  try clear hcz11_0 hcz11_1 hcz11_2 hcz11_3 hcz11_4 hcz11_5 hcz11_6 hcz11_7 hcz11_8 hcz11_9 hfz11_0 hfz11_1 hfz11_2 hfz11_3 hfz11_4 hfz11_5 hfz11_6 hfz11_7 hfz11_8 hfz11_9
  try clear hcz12_0 hcz12_1 hcz12_2 hcz12_3 hcz12_4 hcz12_5 hcz12_6 hcz12_7 hcz12_8 hcz12_9 hfz12_0 hfz12_1 hfz12_2 hfz12_3 hfz12_4 hfz12_5 hfz12_6 hfz12_7 hfz12_8 hfz12_9
  try clear hcz14_0 hcz14_1 hcz14_2 hcz14_3 hcz14_4 hcz14_5 hcz14_6 hcz14_7 hcz14_8 hcz14_9 hfz14_0 hfz14_1 hfz14_2 hfz14_3 hfz14_4 hfz14_5 hfz14_6 hfz14_7 hfz14_8 hfz14_9
  try clear hcz15_0 hcz15_1 hcz15_2 hcz15_3 hcz15_4 hcz15_5 hcz15_6 hcz15_7 hcz15_8 hcz15_9 hfz15_0 hfz15_1 hfz15_2 hfz15_3 hfz15_4 hfz15_5 hfz15_6 hfz15_7 hfz15_8 hfz15_9
  try clear hcz17_0 hcz17_1 hcz17_2 hcz17_3 hcz17_4 hcz17_5 hcz17_6 hcz17_7 hcz17_8 hcz17_9 hfz17_0 hfz17_1 hfz17_2 hfz17_3 hfz17_4 hfz17_5 hfz17_6 hfz17_7 hfz17_8 hfz17_9
  try clear hcz18_0 hcz18_1 hcz18_2 hcz18_3 hcz18_4 hcz18_5 hcz18_6 hcz18_7 hcz18_8 hcz18_9 hfz18_0 hfz18_1 hfz18_2 hfz18_3 hfz18_4 hfz18_5 hfz18_6 hfz18_7 hfz18_8 hfz18_9
  try clear hcz20_0 hcz20_1 hcz20_2 hcz20_3 hcz20_4 hcz20_5 hcz20_6 hcz20_7 hcz20_8 hcz20_9 hfz20_0 hfz20_1 hfz20_2 hfz20_3 hfz20_4 hfz20_5 hfz20_6 hfz20_7 hfz20_8 hfz20_9
  try clear hcz21_0 hcz21_1 hcz21_2 hcz21_3 hcz21_4 hcz21_5 hcz21_6 hcz21_7 hcz21_8 hcz21_9 hfz21_0 hfz21_1 hfz21_2 hfz21_3 hfz21_4 hfz21_5 hfz21_6 hfz21_7 hfz21_8 hfz21_9
  try clear hcz23_0 hcz23_1 hcz23_2 hcz23_3 hcz23_4 hcz23_5 hcz23_6 hcz23_7 hcz23_8 hcz23_9 hfz23_0 hfz23_1 hfz23_2 hfz23_3 hfz23_4 hfz23_5 hfz23_6 hfz23_7 hfz23_8 hfz23_9
  try clear hcz24_0 hcz24_1 hcz24_2 hcz24_3 hcz24_4 hcz24_5 hcz24_6 hcz24_7 hcz24_8 hcz24_9 hfz24_0 hfz24_1 hfz24_2 hfz24_3 hfz24_4 hfz24_5 hfz24_6 hfz24_7 hfz24_8 hfz24_9
  obtain ⟨kq, x5_2, rfl, HA, HJ2, BK103, BK104, HB⟩ := hcut
  cases kq with
  | zero => exact absurd HA.out (by simp [body_Same.j0])
  | succ kj2 =>
   have H := HA.out
   clear HA
   simp only [body_Same.j0] at H
   by_cases c25 : x5_2 = true
   · subst c25
     have H1 : ((tlv_Same.f l0_3 l1_3).bind fun t105 => (if t105 = true then ((bytes_Equal.f l0_6 l1_6).bind fun t106 => (if t106 = true then ((bytes_Equal.f l0_7 l1_7).bind fun t107 => (if t107 = true then ((bytes_Equal.f l0_8 l1_8).bind fun t108 => (if t108 = true then ((slices_Equal_uint32_uint32.f kj2 l0_9 l1_9).bind fun t109 => (some t109)) else (some false))) else (some false))) else (some false))) else (some false))) = some r := by rw [if_pos rfl] at H; exact H
     clear H
     have H := H1
     clear H1
     replace H := Option.bind_eq_some_iff.mp H
     obtain ⟨t105, A260, H⟩ := H
     replace H : (if t105 = true then ((bytes_Equal.f l0_6 l1_6).bind fun t106 => (if t106 = true then ((bytes_Equal.f l0_7 l1_7).bind fun t107 => (if t107 = true then ((bytes_Equal.f l0_8 l1_8).bind fun t108 => (if t108 = true then ((slices_Equal_uint32_uint32.f kj2 l0_9 l1_9).bind fun t109 => (some t109)) else (some false))) else (some false))) else (some false))) else (some false)) = some r := H
     have A26 := Aside0.mk A260
     clear A260
     by_cases c27 : t105 = true
     · subst c27
       have H1 : ((bytes_Equal.f l0_6 l1_6).bind fun t106 => (if t106 = true then ((bytes_Equal.f l0_7 l1_7).bind fun t107 => (if t107 = true then ((bytes_Equal.f l0_8 l1_8).bind fun t108 => (if t108 = true then ((slices_Equal_uint32_uint32.f kj2 l0_9 l1_9).bind fun t109 => (some t109)) else (some false))) else (some false))) else (some false))) = some r := by rw [if_pos rfl] at H; exact H
       clear H
       have H := H1
       clear H1
       replace H := Option.bind_eq_some_iff.mp H
       obtain ⟨t106, A280, H⟩ := H
       replace H : (if t106 = true then ((bytes_Equal.f l0_7 l1_7).bind fun t107 => (if t107 = true then ((bytes_Equal.f l0_8 l1_8).bind fun t108 => (if t108 = true then ((slices_Equal_uint32_uint32.f kj2 l0_9 l1_9).bind fun t109 => (some t109)) else (some false))) else (some false))) else (some false)) = some r := H
       have A28 := Aside0.mk A280
       clear A280
       by_cases c29 : t106 = true
       · subst c29
         have H1 : ((bytes_Equal.f l0_7 l1_7).bind fun t107 => (if t107 = true then ((bytes_Equal.f l0_8 l1_8).bind fun t108 => (if t108 = true then ((slices_Equal_uint32_uint32.f kj2 l0_9 l1_9).bind fun t109 => (some t109)) else (some false))) else (some false))) = some r := by rw [if_pos rfl] at H; exact H
         clear H
         have H := H1
         clear H1
         replace H := Option.bind_eq_some_iff.mp H
         obtain ⟨t107, A300, H⟩ := H
         replace H : (if t107 = true then ((bytes_Equal.f l0_8 l1_8).bind fun t108 => (if t108 = true then ((slices_Equal_uint32_uint32.f kj2 l0_9 l1_9).bind fun t109 => (some t109)) else (some false))) else (some false)) = some r := H
         have A30 := Aside0.mk A300
         clear A300
         by_cases c31 : t107 = true
         · subst c31
           have H1 : ((bytes_Equal.f l0_8 l1_8).bind fun t108 => (if t108 = true then ((slices_Equal_uint32_uint32.f kj2 l0_9 l1_9).bind fun t109 => (some t109)) else (some false))) = some r := by rw [if_pos rfl] at H; exact H
           clear H
           have H := H1
           clear H1
           replace H := Option.bind_eq_some_iff.mp H
           obtain ⟨t108, A320, H⟩ := H
           replace H : (if t108 = true then ((slices_Equal_uint32_uint32.f kj2 l0_9 l1_9).bind fun t109 => (some t109)) else (some false)) = some r := H
           have A32 := Aside0.mk A320
           clear A320
           by_cases c33 : t108 = true
           · subst c33
             have H1 : ((slices_Equal_uint32_uint32.f kj2 l0_9 l1_9).bind fun t109 => (some t109)) = some r := by rw [if_pos rfl] at H; exact H
             clear H
             have H := H1
             clear H1
             replace H := Option.bind_eq_some_iff.mp H
             obtain ⟨t109, A340, H⟩ := H
             replace H : (some t109) = some r := H
             have A34 := Aside0.mk A340
             clear A340
             obtain rfl := Option.some.inj H
             have hnb35 := NB103_104.out
             have hnc35 := NB104_103.out
             obtain ⟨⟨hcz36_0, hcz36_1, hcz36_2, hcz36_3, hcz36_4, hcz36_5, hcz36_6, hcz36_7, hcz36_8, hcz36_9⟩, hfz36_0, hfz36_1, hfz36_2, hfz36_3, hfz36_4, hfz36_5, hfz36_6, hfz36_7, hfz36_8, hfz36_9⟩ := cz10 BK103.out
             obtain ⟨⟨hcz37_0, hcz37_1, hcz37_2, hcz37_3, hcz37_4, hcz37_5, hcz37_6, hcz37_7, hcz37_8, hcz37_9⟩, hfz37_0, hfz37_1, hfz37_2, hfz37_3, hfz37_4, hfz37_5, hfz37_6, hfz37_7, hfz37_8, hfz37_9⟩ := cz10 BK104.out
             go_wp2_with (first | (go_at_call 42; (with_reducible refine (tlv_Same.calls _ _ l0_3 _ _ l1_3 true _ ?side1 ?side2 ?side3 ?side4 A26.out).mono ?_); (case side1 => repeat (first | exact (Kd.C_below HR0_3.out HB.out) | (with_reducible refine Kd.C_alloc ?_ _) | (with_reducible refine Kd.C_drewN ?_ _) | (with_reducible refine Kd.C_drew ?_))); (case side2 => exact HC0_3.out); (case side3 => repeat (first | exact (Kd.C_below HR1_3.out HB.out) | (with_reducible refine Kd.C_alloc ?_ _) | (with_reducible refine Kd.C_drewN ?_ _) | (with_reducible refine Kd.C_drew ?_))); (case side4 => exact HC1_3.out); rintro e w38 ⟨rfl, hb⟩; have n0_ := Aside0.mk (blk_below (g := gb103) (o := .cells #[.int .u16 a0_0, .int .u8 a0_1, .int .u8 a0_2, .slice A0_3 l0_3.length c0_3, .int .u16 a0_4, .int .u32 a0_5, .slice A0_6 l0_6.length c0_6, .slice A0_7 l0_7.length c0_7, .slice A0_8 l0_8.length c0_8, .slice A0_9 l0_9.length c0_9] 29 (0, 0)) (by (with_reducible repeat (first | refine blk_drewN ?_ _ | refine blk_drew ?_ | refine blk_alloc ?_ _)); exact BK103.out) hb); have n1_ := Aside0.mk (blk_below (g := gb104) (o := .cells #[.int .u16 a1_0, .int .u8 a1_1, .int .u8 a1_2, .slice A1_3 l1_3.length c1_3, .int .u16 a1_4, .int .u32 a1_5, .slice A1_6 l1_6.length c1_6, .slice A1_7 l1_7.length c1_7, .slice A1_8 l1_8.length c1_8, .slice A1_9 l1_9.length c1_9] 29 (0, 0)) (by (with_reducible repeat (first | refine blk_drewN ?_ _ | refine blk_drew ?_ | refine blk_alloc ?_ _)); exact BK104.out) hb); have n2_ := Aside0.mk (below_step (by repeat (first | (with_reducible first | exact HB.out | apply below_alloc | apply pw_below_drewN | apply below_drew1 | refine below_set ?_ GE103.out | refine below_set ?_ GE104.out) | exact HB.out)) hb); clear BK103; clear BK104; clear HB; have BK103 := n0_; have BK104 := n1_; have HB := n2_; clear n0_ n1_ n2_; (try clear hb); (try clear hb2); (try clear hk); (try clear hi); obtain ⟨⟨hcz39_0, hcz39_1, hcz39_2, hcz39_3, hcz39_4, hcz39_5, hcz39_6, hcz39_7, hcz39_8, hcz39_9⟩, hfz39_0, hfz39_1, hfz39_2, hfz39_3, hfz39_4, hfz39_5, hfz39_6, hfz39_7, hfz39_8, hfz39_9⟩ := cz10 BK103.out; obtain ⟨⟨hcz40_0, hcz40_1, hcz40_2, hcz40_3, hcz40_4, hcz40_5, hcz40_6, hcz40_7, hcz40_8, hcz40_9⟩, hfz40_0, hfz40_1, hfz40_2, hfz40_3, hfz40_4, hfz40_5, hfz40_6, hfz40_7, hfz40_8, hfz40_9⟩ := cz10 BK104.out) | (go_at_call 37; (with_reducible refine (bytes_Equal.calls _ _ l0_6 _ _ l1_6 true _ ?side1 ?side2 ?side3 ?side4 A28.out).mono ?_); (case side1 => repeat (first | exact (Kd.C_below HR0_6.out HB.out) | (with_reducible refine Kd.C_alloc ?_ _) | (with_reducible refine Kd.C_drewN ?_ _) | (with_reducible refine Kd.C_drew ?_))); (case side2 => exact HC0_6.out); (case side3 => repeat (first | exact (Kd.C_below HR1_6.out HB.out) | (with_reducible refine Kd.C_alloc ?_ _) | (with_reducible refine Kd.C_drewN ?_ _) | (with_reducible refine Kd.C_drew ?_))); (case side4 => exact HC1_6.out); rintro e w' ⟨rfl, ⟨nd, rfl⟩⟩) | (go_at_call 37; (with_reducible refine (bytes_Equal.calls _ _ l0_7 _ _ l1_7 true _ ?side1 ?side2 ?side3 ?side4 A30.out).mono ?_); (case side1 => repeat (first | exact (Kd.C_below HR0_7.out (by repeat (first | (with_reducible first | exact HB.out | apply below_alloc | apply pw_below_drewN | apply below_drew1 | refine below_set ?_ GE103.out | refine below_set ?_ GE104.out) | exact HB.out))) | (with_reducible refine Kd.C_alloc ?_ _) | (with_reducible refine Kd.C_drewN ?_ _) | (with_reducible refine Kd.C_drew ?_))); (case side2 => exact HC0_7.out); (case side3 => repeat (first | exact (Kd.C_below HR1_7.out (by repeat (first | (with_reducible first | exact HB.out | apply below_alloc | apply pw_below_drewN | apply below_drew1 | refine below_set ?_ GE103.out | refine below_set ?_ GE104.out) | exact HB.out))) | (with_reducible refine Kd.C_alloc ?_ _) | (with_reducible refine Kd.C_drewN ?_ _) | (with_reducible refine Kd.C_drew ?_))); (case side4 => exact HC1_7.out); rintro e w' ⟨rfl, ⟨nd, rfl⟩⟩) | (go_at_call 37; (with_reducible refine (bytes_Equal.calls _ _ l0_8 _ _ l1_8 true _ ?side1 ?side2 ?side3 ?side4 A32.out).mono ?_); (case side1 => repeat (first | exact (Kd.C_below HR0_8.out (by repeat (first | (with_reducible first | exact HB.out | apply below_alloc | apply pw_below_drewN | apply below_drew1 | refine below_set ?_ GE103.out | refine below_set ?_ GE104.out) | exact HB.out))) | (with_reducible refine Kd.C_alloc ?_ _) | (with_reducible refine Kd.C_drewN ?_ _) | (with_reducible refine Kd.C_drew ?_))); (case side2 => exact HC0_8.out); (case side3 => repeat (first | exact (Kd.C_below HR1_8.out (by repeat (first | (with_reducible first | exact HB.out | apply below_alloc | apply pw_below_drewN | apply below_drew1 | refine below_set ?_ GE103.out | refine below_set ?_ GE104.out) | exact HB.out))) | (with_reducible refine Kd.C_alloc ?_ _) | (with_reducible refine Kd.C_drewN ?_ _) | (with_reducible refine Kd.C_drew ?_))); (case side4 => exact HC1_8.out); rintro e w' ⟨rfl, ⟨nd, rfl⟩⟩) | (go_at_call 43; (with_reducible refine (slices_Equal_uint32_uint32.calls kj2 _ _ l0_9 _ _ l1_9 t109 _ ?side1 ?side2 ?side3 ?side4 A34.out).mono ?_); (case side1 => repeat (first | exact (Kd.C_below HR0_9.out (by repeat (first | (with_reducible first | exact HB.out | apply below_alloc | apply pw_below_drewN | apply below_drew1 | refine below_set ?_ GE103.out | refine below_set ?_ GE104.out) | exact HB.out))) | (with_reducible refine Kd.C_alloc ?_ _) | (with_reducible refine Kd.C_drewN ?_ _) | (with_reducible refine Kd.C_drew ?_))); (case side2 => exact HC0_9.out); (case side3 => repeat (first | exact (Kd.C_below HR1_9.out (by repeat (first | (with_reducible first | exact HB.out | apply below_alloc | apply pw_below_drewN | apply below_drew1 | refine below_set ?_ GE103.out | refine below_set ?_ GE104.out) | exact HB.out))) | (with_reducible refine Kd.C_alloc ?_ _) | (with_reducible refine Kd.C_drewN ?_ _) | (with_reducible refine Kd.C_drew ?_))); (case side4 => exact HC1_9.out); rintro e w' ⟨rfl, ⟨nd, rfl⟩⟩))
             go_ret
             exact ⟨by first | rfl | (simp [errW_none, errW_some] <;> rfl) | (simp [*, errW_none, errW_some] <;> rfl), by repeat (first | (with_reducible first | exact HB.out | apply below_alloc | apply pw_below_drewN | apply below_drew1 | refine below_set ?_ GE103.out | refine below_set ?_ GE104.out) | exact HB.out)⟩
           · replace c33 := Bool.eq_false_iff.mpr c33
             subst c33
             have H1 : (some false) = some r := by rw [if_neg (show ¬ (false = true) by decide)] at H; exact H
             clear H
             have H := H1
             clear H1
             obtain rfl := Option.some.inj H
             have hnb41 := NB103_104.out
             have hnc41 := NB104_103.out
             obtain ⟨⟨hcz42_0, hcz42_1, hcz42_2, hcz42_3, hcz42_4, hcz42_5, hcz42_6, hcz42_7, hcz42_8, hcz42_9⟩, hfz42_0, hfz42_1, hfz42_2, hfz42_3, hfz42_4, hfz42_5, hfz42_6, hfz42_7, hfz42_8, hfz42_9⟩ := cz10 BK103.out
             obtain ⟨⟨hcz43_0, hcz43_1, hcz43_2, hcz43_3, hcz43_4, hcz43_5, hcz43_6, hcz43_7, hcz43_8, hcz43_9⟩, hfz43_0, hfz43_1, hfz43_2, hfz43_3, hfz43_4, hfz43_5, hfz43_6, hfz43_7, hfz43_8, hfz43_9⟩ := cz10 BK104.out
             go_wp2_with (first | (go_at_call 42; (with_reducible refine (tlv_Same.calls _ _ l0_3 _ _ l1_3 true _ ?side1 ?side2 ?side3 ?side4 A26.out).mono ?_); (case side1 => repeat (first | exact (Kd.C_below HR0_3.out HB.out) | (with_reducible refine Kd.C_alloc ?_ _) | (with_reducible refine Kd.C_drewN ?_ _) | (with_reducible refine Kd.C_drew ?_))); (case side2 => exact HC0_3.out); (case side3 => repeat (first | exact (Kd.C_below HR1_3.out HB.out) | (with_reducible refine Kd.C_alloc ?_ _) | (with_reducible refine Kd.C_drewN ?_ _) | (with_reducible refine Kd.C_drew ?_))); (case side4 => exact HC1_3.out); rintro e w44 ⟨rfl, hb⟩; have n0_ := Aside0.mk (blk_below (g := gb103) (o := .cells #[.int .u16 a0_0, .int .u8 a0_1, .int .u8 a0_2, .slice A0_3 l0_3.length c0_3, .int .u16 a0_4, .int .u32 a0_5, .slice A0_6 l0_6.length c0_6, .slice A0_7 l0_7.length c0_7, .slice A0_8 l0_8.length c0_8, .slice A0_9 l0_9.length c0_9] 29 (0, 0)) (by (with_reducible repeat (first | refine blk_drewN ?_ _ | refine blk_drew ?_ | refine blk_alloc ?_ _)); exact BK103.out) hb); have n1_ := Aside0.mk (blk_below (g := gb104) (o := .cells #[.int .u16 a1_0, .int .u8 a1_1, .int .u8 a1_2, .slice A1_3 l1_3.length c1_3, .int .u16 a1_4, .int .u32 a1_5, .slice A1_6 l1_6.length c1_6, .slice A1_7 l1_7.length c1_7, .slice A1_8 l1_8.length c1_8, .slice A1_9 l1_9.length c1_9] 29 (0, 0)) (by (with_reducible repeat (first | refine blk_drewN ?_ _ | refine blk_drew ?_ | refine blk_alloc ?_ _)); exact BK104.out) hb); have n2_ := Aside0.mk (below_step (by repeat (first | (with_reducible first | exact HB.out | apply below_alloc | apply pw_below_drewN | apply below_drew1 | refine below_set ?_ GE103.out | refine below_set ?_ GE104.out) | exact HB.out)) hb); clear BK103; clear BK104; clear HB; have BK103 := n0_; have BK104 := n1_; have HB := n2_; clear n0_ n1_ n2_; (try clear hb); (try clear hb2); (try clear hk); (try clear hi); obtain ⟨⟨hcz45_0, hcz45_1, hcz45_2, hcz45_3, hcz45_4, hcz45_5, hcz45_6, hcz45_7, hcz45_8, hcz45_9⟩, hfz45_0, hfz45_1, hfz45_2, hfz45_3, hfz45_4, hfz45_5, hfz45_6, hfz45_7, hfz45_8, hfz45_9⟩ := cz10 BK103.out; obtain ⟨⟨hcz46_0, hcz46_1, hcz46_2, hcz46_3, hcz46_4, hcz46_5, hcz46_6, hcz46_7, hcz46_8, hcz46_9⟩, hfz46_0, hfz46_1, hfz46_2, hfz46_3, hfz46_4, hfz46_5, hfz46_6, hfz46_7, hfz46_8, hfz46_9⟩ := cz10 BK104.out) | (go_at_call 37; (with_reducible refine (bytes_Equal.calls _ _ l0_6 _ _ l1_6 true _ ?side1 ?side2 ?side3 ?side4 A28.out).mono ?_); (case side1 => repeat (first | exact (Kd.C_below HR0_6.out HB.out) | (with_reducible refine Kd.C_alloc ?_ _) | (with_reducible refine Kd.C_drewN ?_ _) | (with_reducible refine Kd.C_drew ?_))); (case side2 => exact HC0_6.out); (case side3 => repeat (first | exact (Kd.C_below HR1_6.out HB.out) | (with_reducible refine Kd.C_alloc ?_ _) | (with_reducible refine Kd.C_drewN ?_ _) | (with_reducible refine Kd.C_drew ?_))); (case side4 => exact HC1_6.out); rintro e w' ⟨rfl, ⟨nd, rfl⟩⟩) | (go_at_call 37; (with_reducible refine (bytes_Equal.calls _ _ l0_7 _ _ l1_7 true _ ?side1 ?side2 ?side3 ?side4 A30.out).mono ?_); (case side1 => repeat (first | exact (Kd.C_below HR0_7.out (by repeat (first | (with_reducible first | exact HB.out | apply below_alloc | apply pw_below_drewN | apply below_drew1 | refine below_set ?_ GE103.out | refine below_set ?_ GE104.out) | exact HB.out))) | (with_reducible refine Kd.C_alloc ?_ _) | (with_reducible refine Kd.C_drewN ?_ _) | (with_reducible refine Kd.C_drew ?_))); (case side2 => exact HC0_7.out); (case side3 => repeat (first | exact (Kd.C_below HR1_7.out (by repeat (first | (with_reducible first | exact HB.out | apply below_alloc | apply pw_below_drewN | apply below_drew1 | refine below_set ?_ GE103.out | refine below_set ?_ GE104.out) | exact HB.out))) | (with_reducible refine Kd.C_alloc ?_ _) | (with_reducible refine Kd.C_drewN ?_ _) | (with_reducible refine Kd.C_drew ?_))); (case side4 => exact HC1_7.out); rintro e w' ⟨rfl, ⟨nd, rfl⟩⟩) | (go_at_call 37; (with_reducible refine (bytes_Equal.calls _ _ l0_8 _ _ l1_8 false _ ?side1 ?side2 ?side3 ?side4 A32.out).mono ?_); (case side1 => repeat (first | exact (Kd.C_below HR0_8.out (by repeat (first | (with_reducible first | exact HB.out | apply below_alloc | apply pw_below_drewN | apply below_drew1 | refine below_set ?_ GE103.out | refine below_set ?_ GE104.out) | exact HB.out))) | (with_reducible refine Kd.C_alloc ?_ _) | (with_reducible refine Kd.C_drewN ?_ _) | (with_reducible refine Kd.C_drew ?_))); (case side2 => exact HC0_8.out); (case side3 => repeat (first | exact (Kd.C_below HR1_8.out (by repeat (first | (with_reducible first | exact HB.out | apply below_alloc | apply pw_below_drewN | apply below_drew1 | refine below_set ?_ GE103.out | refine below_set ?_ GE104.out) | exact HB.out))) | (with_reducible refine Kd.C_alloc ?_ _) | (with_reducible refine Kd.C_drewN ?_ _) | (with_reducible refine Kd.C_drew ?_))); (case side4 => exact HC1_8.out); rintro e w' ⟨rfl, ⟨nd, rfl⟩⟩))
             go_ret
             exact ⟨by first | rfl | (simp [errW_none, errW_some] <;> rfl) | (simp [*, errW_none, errW_some] <;> rfl), by repeat (first | (with_reducible first | exact HB.out | apply below_alloc | apply pw_below_drewN | apply below_drew1 | refine below_set ?_ GE103.out | refine below_set ?_ GE104.out) | exact HB.out)⟩
         · replace c31 := Bool.eq_false_iff.mpr c31
           subst c31
           have H1 : (some false) = some r := by rw [if_neg (show ¬ (false = true) by decide)] at H; exact H
           clear H
           have H := H1
           clear H1
           obtain rfl := Option.some.inj H
           have hnb47 := NB103_104.out
           have hnc47 := NB104_103.out
           obtain ⟨⟨hcz48_0, hcz48_1, hcz48_2, hcz48_3, hcz48_4, hcz48_5, hcz48_6, hcz48_7, hcz48_8, hcz48_9⟩, hfz48_0, hfz48_1, hfz48_2, hfz48_3, hfz48_4, hfz48_5, hfz48_6, hfz48_7, hfz48_8, hfz48_9⟩ := cz10 BK103.out
           obtain ⟨⟨hcz49_0, hcz49_1, hcz49_2, hcz49_3, hcz49_4, hcz49_5, hcz49_6, hcz49_7, hcz49_8, hcz49_9⟩, hfz49_0, hfz49_1, hfz49_2, hfz49_3, hfz49_4, hfz49_5, hfz49_6, hfz49_7, hfz49_8, hfz49_9⟩ := cz10 BK104.out
           go_wp2_with (first | (go_at_call 42; (with_reducible refine (tlv_Same.calls _ _ l0_3 _ _ l1_3 true _ ?side1 ?side2 ?side3 ?side4 A26.out).mono ?_); (case side1 => repeat (first | exact (Kd.C_below HR0_3.out HB.out) | (with_reducible refine Kd.C_alloc ?_ _) | (with_reducible refine Kd.C_drewN ?_ _) | (with_reducible refine Kd.C_drew ?_))); (case side2 => exact HC0_3.out); (case side3 => repeat (first | exact (Kd.C_below HR1_3.out HB.out) | (with_reducible refine Kd.C_alloc ?_ _) | (with_reducible refine Kd.C_drewN ?_ _) | (with_reducible refine Kd.C_drew ?_))); (case side4 => exact HC1_3.out); rintro e w50 ⟨rfl, hb⟩; have n0_ := Aside0.mk (blk_below (g := gb103) (o := .cells #[.int .u16 a0_0, .int .u8 a0_1, .int .u8 a0_2, .slice A0_3 l0_3.length c0_3, .int .u16 a0_4, .int .u32 a0_5, .slice A0_6 l0_6.length c0_6, .slice A0_7 l0_7.length c0_7, .slice A0_8 l0_8.length c0_8, .slice A0_9 l0_9.length c0_9] 29 (0, 0)) (by (with_reducible repeat (first | refine blk_drewN ?_ _ | refine blk_drew ?_ | refine blk_alloc ?_ _)); exact BK103.out) hb); have n1_ := Aside0.mk (blk_below (g := gb104) (o := .cells #[.int .u16 a1_0, .int .u8 a1_1, .int .u8 a1_2, .slice A1_3 l1_3.length c1_3, .int .u16 a1_4, .int .u32 a1_5, .slice A1_6 l1_6.length c1_6, .slice A1_7 l1_7.length c1_7, .slice A1_8 l1_8.length c1_8, .slice A1_9 l1_9.length c1_9] 29 (0, 0)) (by (with_reducible repeat (first | refine blk_drewN ?_ _ | refine blk_drew ?_ | refine blk_alloc ?_ _)); exact BK104.out) hb); have n2_ := Aside0.mk (below_step (by repeat (first | (with_reducible first | exact HB.out | apply below_alloc | apply pw_below_drewN | apply below_drew1 | refine below_set ?_ GE103.out | refine below_set ?_ GE104.out) | exact HB.out)) hb); clear BK103; clear BK104; clear HB; have BK103 := n0_; have BK104 := n1_; have HB := n2_; clear n0_ n1_ n2_; (try clear hb); (try clear hb2); (try clear hk); (try clear hi); obtain ⟨⟨hcz51_0, hcz51_1, hcz51_2, hcz51_3, hcz51_4, hcz51_5, hcz51_6, hcz51_7, hcz51_8, hcz51_9⟩, hfz51_0, hfz51_1, hfz51_2, hfz51_3, hfz51_4, hfz51_5, hfz51_6, hfz51_7, hfz51_8, hfz51_9⟩ := cz10 BK103.out; obtain ⟨⟨hcz52_0, hcz52_1, hcz52_2, hcz52_3, hcz52_4, hcz52_5, hcz52_6, hcz52_7, hcz52_8, hcz52_9⟩, hfz52_0, hfz52_1, hfz52_2, hfz52_3, hfz52_4, hfz52_5, hfz52_6, hfz52_7, hfz52_8, hfz52_9⟩ := cz10 BK104.out) | (go_at_call 37; (with_reducible refine (bytes_Equal.calls _ _ l0_6 _ _ l1_6 true _ ?side1 ?side2 ?side3 ?side4 A28.out).mono ?_); (case side1 => repeat (first | exact (Kd.C_below HR0_6.out HB.out) | (with_reducible refine Kd.C_alloc ?_ _) | (with_reducible refine Kd.C_drewN ?_ _) | (with_reducible refine Kd.C_drew ?_))); (case side2 => exact HC0_6.out); (case side3 => repeat (first | exact (Kd.C_below HR1_6.out HB.out) | (with_reducible refine Kd.C_alloc ?_ _) | (with_reducible refine Kd.C_drewN ?_ _) | (with_reducible refine Kd.C_drew ?_))); (case side4 => exact HC1_6.out); rintro e w' ⟨rfl, ⟨nd, rfl⟩⟩) | (go_at_call 37; (with_reducible refine (bytes_Equal.calls _ _ l0_7 _ _ l1_7 false _ ?side1 ?side2 ?side3 ?side4 A30.out).mono ?_); (case side1 => repeat (first | exact (Kd.C_below HR0_7.out (by repeat (first | (with_reducible first | exact HB.out | apply below_alloc | apply pw_below_drewN | apply below_drew1 | refine below_set ?_ GE103.out | refine below_set ?_ GE104.out) | exact HB.out))) | (with_reducible refine Kd.C_alloc ?_ _) | (with_reducible refine Kd.C_drewN ?_ _) | (with_reducible refine Kd.C_drew ?_))); (case side2 => exact HC0_7.out); (case side3 => repeat (first | exact (Kd.C_below HR1_7.out (by repeat (first | (with_reducible first | exact HB.out | apply below_alloc | apply pw_below_drewN | apply below_drew1 | refine below_set ?_ GE103.out | refine below_set ?_ GE104.out) | exact HB.out))) | (with_reducible refine Kd.C_alloc ?_ _) | (with_reducible refine Kd.C_drewN ?_ _) | (with_reducible refine Kd.C_drew ?_))); (case side4 => exact HC1_7.out); rintro e w' ⟨rfl, ⟨nd, rfl⟩⟩))
           go_ret
           exact ⟨by first | rfl | (simp [errW_none, errW_some] <;> rfl) | (simp [*, errW_none, errW_some] <;> rfl), by repeat (first | (with_reducible first | exact HB.out | apply below_alloc | apply pw_below_drewN | apply below_drew1 | refine below_set ?_ GE103.out | refine below_set ?_ GE104.out) | exact HB.out)⟩
       · replace c29 := Bool.eq_false_iff.mpr c29
         subst c29
         have H1 : (some false) = some r := by rw [if_neg (show ¬ (false = true) by decide)] at H; exact H
         clear H
         have H := H1
         clear H1
         obtain rfl := Option.some.inj H
         have hnb53 := NB103_104.out
         have hnc53 := NB104_103.out
         obtain ⟨⟨hcz54_0, hcz54_1, hcz54_2, hcz54_3, hcz54_4, hcz54_5, hcz54_6, hcz54_7, hcz54_8, hcz54_9⟩, hfz54_0, hfz54_1, hfz54_2, hfz54_3, hfz54_4, hfz54_5, hfz54_6, hfz54_7, hfz54_8, hfz54_9⟩ := cz10 BK103.out
         obtain ⟨⟨hcz55_0, hcz55_1, hcz55_2, hcz55_3, hcz55_4, hcz55_5, hcz55_6, hcz55_7, hcz55_8, hcz55_9⟩, hfz55_0, hfz55_1, hfz55_2, hfz55_3, hfz55_4, hfz55_5, hfz55_6, hfz55_7, hfz55_8, hfz55_9⟩ := cz10 BK104.out
         go_wp2_with (first | (go_at_call 42; (with_reducible refine (tlv_Same.calls _ _ l0_3 _ _ l1_3 true _ ?side1 ?side2 ?side3 ?side4 A26.out).mono ?_); (case side1 => repeat (first | exact (Kd.C_below HR0_3.out HB.out) | (with_reducible refine Kd.C_alloc ?_ _) | (with_reducible refine Kd.C_drewN ?_ _) | (with_reducible refine Kd.C_drew ?_))); (case side2 => exact HC0_3.out); (case side3 => repeat (first | exact (Kd.C_below HR1_3.out HB.out) | (with_reducible refine Kd.C_alloc ?_ _) | (with_reducible refine Kd.C_drewN ?_ _) | (with_reducible refine Kd.C_drew ?_))); (case side4 => exact HC1_3.out); rintro e w56 ⟨rfl, hb⟩; have n0_ := Aside0.mk (blk_below (g := gb103) (o := .cells #[.int .u16 a0_0, .int .u8 a0_1, .int .u8 a0_2, .slice A0_3 l0_3.length c0_3, .int .u16 a0_4, .int .u32 a0_5, .slice A0_6 l0_6.length c0_6, .slice A0_7 l0_7.length c0_7, .slice A0_8 l0_8.length c0_8, .slice A0_9 l0_9.length c0_9] 29 (0, 0)) (by (with_reducible repeat (first | refine blk_drewN ?_ _ | refine blk_drew ?_ | refine blk_alloc ?_ _)); exact BK103.out) hb); have n1_ := Aside0.mk (blk_below (g := gb104) (o := .cells #[.int .u16 a1_0, .int .u8 a1_1, .int .u8 a1_2, .slice A1_3 l1_3.length c1_3, .int .u16 a1_4, .int .u32 a1_5, .slice A1_6 l1_6.length c1_6, .slice A1_7 l1_7.length c1_7, .slice A1_8 l1_8.length c1_8, .slice A1_9 l1_9.length c1_9] 29 (0, 0)) (by (with_reducible repeat (first | refine blk_drewN ?_ _ | refine blk_drew ?_ | refine blk_alloc ?_ _)); exact BK104.out) hb); have n2_ := Aside0.mk (below_step (by repeat (first | (with_reducible first | exact HB.out | apply below_alloc | apply pw_below_drewN | apply below_drew1 | refine below_set ?_ GE103.out | refine below_set ?_ GE104.out) | exact HB.out)) hb); clear BK103; clear BK104; clear HB; have BK103 := n0_; have BK104 := n1_; have HB := n2_; clear n0_ n1_ n2_; (try clear hb); (try clear hb2); (try clear hk); (try clear hi); obtain ⟨⟨hcz57_0, hcz57_1, hcz57_2, hcz57_3, hcz57_4, hcz57_5, hcz57_6, hcz57_7, hcz57_8, hcz57_9⟩, hfz57_0, hfz57_1, hfz57_2, hfz57_3, hfz57_4, hfz57_5, hfz57_6, hfz57_7, hfz57_8, hfz57_9⟩ := cz10 BK103.out; obtain ⟨⟨hcz58_0, hcz58_1, hcz58_2, hcz58_3, hcz58_4, hcz58_5, hcz58_6, hcz58_7, hcz58_8, hcz58_9⟩, hfz58_0, hfz58_1, hfz58_2, hfz58_3, hfz58_4, hfz58_5, hfz58_6, hfz58_7, hfz58_8, hfz58_9⟩ := cz10 BK104.out) | (go_at_call 37; (with_reducible refine (bytes_Equal.calls _ _ l0_6 _ _ l1_6 false _ ?side1 ?side2 ?side3 ?side4 A28.out).mono ?_); (case side1 => repeat (first | exact (Kd.C_below HR0_6.out HB.out) | (with_reducible refine Kd.C_alloc ?_ _) | (with_reducible refine Kd.C_drewN ?_ _) | (with_reducible refine Kd.C_drew ?_))); (case side2 => exact HC0_6.out); (case side3 => repeat (first | exact (Kd.C_below HR1_6.out HB.out) | (with_reducible refine Kd.C_alloc ?_ _) | (with_reducible refine Kd.C_drewN ?_ _) | (with_reducible refine Kd.C_drew ?_))); (case side4 => exact HC1_6.out); rintro e w' ⟨rfl, ⟨nd, rfl⟩⟩))
         go_ret
         exact ⟨by first | rfl | (simp [errW_none, errW_some] <;> rfl) | (simp [*, errW_none, errW_some] <;> rfl), by repeat (first | (with_reducible first | exact HB.out | apply below_alloc | apply pw_below_drewN | apply below_drew1 | refine below_set ?_ GE103.out | refine below_set ?_ GE104.out) | exact HB.out)⟩
     · replace c27 := Bool.eq_false_iff.mpr c27
       subst c27
       have H1 : (some false) = some r := by rw [if_neg (show ¬ (false = true) by decide)] at H; exact H
       clear H
       have H := H1
       clear H1
       obtain rfl := Option.some.inj H
       have hnb59 := NB103_104.out
       have hnc59 := NB104_103.out
       obtain ⟨⟨hcz60_0, hcz60_1, hcz60_2, hcz60_3, hcz60_4, hcz60_5, hcz60_6, hcz60_7, hcz60_8, hcz60_9⟩, hfz60_0, hfz60_1, hfz60_2, hfz60_3, hfz60_4, hfz60_5, hfz60_6, hfz60_7, hfz60_8, hfz60_9⟩ := cz10 BK103.out
       obtain ⟨⟨hcz61_0, hcz61_1, hcz61_2, hcz61_3, hcz61_4, hcz61_5, hcz61_6, hcz61_7, hcz61_8, hcz61_9⟩, hfz61_0, hfz61_1, hfz61_2, hfz61_3, hfz61_4, hfz61_5, hfz61_6, hfz61_7, hfz61_8, hfz61_9⟩ := cz10 BK104.out
       go_wp2_with (first | (go_at_call 42; (with_reducible refine (tlv_Same.calls _ _ l0_3 _ _ l1_3 false _ ?side1 ?side2 ?side3 ?side4 A26.out).mono ?_); (case side1 => repeat (first | exact (Kd.C_below HR0_3.out HB.out) | (with_reducible refine Kd.C_alloc ?_ _) | (with_reducible refine Kd.C_drewN ?_ _) | (with_reducible refine Kd.C_drew ?_))); (case side2 => exact HC0_3.out); (case side3 => repeat (first | exact (Kd.C_below HR1_3.out HB.out) | (with_reducible refine Kd.C_alloc ?_ _) | (with_reducible refine Kd.C_drewN ?_ _) | (with_reducible refine Kd.C_drew ?_))); (case side4 => exact HC1_3.out); rintro e w62 ⟨rfl, hb⟩; have n0_ := Aside0.mk (blk_below (g := gb103) (o := .cells #[.int .u16 a0_0, .int .u8 a0_1, .int .u8 a0_2, .slice A0_3 l0_3.length c0_3, .int .u16 a0_4, .int .u32 a0_5, .slice A0_6 l0_6.length c0_6, .slice A0_7 l0_7.length c0_7, .slice A0_8 l0_8.length c0_8, .slice A0_9 l0_9.length c0_9] 29 (0, 0)) (by (with_reducible repeat (first | refine blk_drewN ?_ _ | refine blk_drew ?_ | refine blk_alloc ?_ _)); exact BK103.out) hb); have n1_ := Aside0.mk (blk_below (g := gb104) (o := .cells #[.int .u16 a1_0, .int .u8 a1_1, .int .u8 a1_2, .slice A1_3 l1_3.length c1_3, .int .u16 a1_4, .int .u32 a1_5, .slice A1_6 l1_6.length c1_6, .slice A1_7 l1_7.length c1_7, .slice A1_8 l1_8.length c1_8, .slice A1_9 l1_9.length c1_9] 29 (0, 0)) (by (with_reducible repeat (first | refine blk_drewN ?_ _ | refine blk_drew ?_ | refine blk_alloc ?_ _)); exact BK104.out) hb); have n2_ := Aside0.mk (below_step (by repeat (first | (with_reducible first | exact HB.out | apply below_alloc | apply pw_below_drewN | apply below_drew1 | refine below_set ?_ GE103.out | refine below_set ?_ GE104.out) | exact HB.out)) hb); clear BK103; clear BK104; clear HB; have BK103 := n0_; have BK104 := n1_; have HB := n2_; clear n0_ n1_ n2_; (try clear hb); (try clear hb2); (try clear hk); (try clear hi)))
       go_ret
       exact ⟨by first | rfl | (simp [errW_none, errW_some] <;> rfl) | (simp [*, errW_none, errW_some] <;> rfl), by repeat (first | (with_reducible first | exact HB.out | apply below_alloc | apply pw_below_drewN | apply below_drew1 | refine below_set ?_ GE103.out | refine below_set ?_ GE104.out) | exact HB.out)⟩
   · replace c25 := Bool.eq_false_iff.mpr c25
     subst c25
     have H1 : (some false) = some r := by rw [if_neg (show ¬ (false = true) by decide)] at H; exact H
     clear H
     have H := H1
     clear H1
     obtain rfl := Option.some.inj H
     go_wp2
     go_ret
     exact ⟨by first | rfl | (simp [errW_none, errW_some] <;> rfl) | (simp [*, errW_none, errW_some] <;> rfl), by repeat (first | (with_reducible first | exact HB.out | apply below_alloc | apply pw_below_drewN | apply below_drew1 | refine below_set ?_ GE103.out | refine below_set ?_ GE104.out) | exact HB.out)⟩
end Go.Proofs.YteanncchmenlkaaDoor.Print
namespace Go.Proofs.YteanncchmenlkaaDoor.Hw
open Go.RowKit Go.Proofs.YteanncchmenlkaaDoorW.PrintWords Go.Proofs.YteanncchmenlkaaDoorW.PrintLast
set_option linter.unusedVariables false
set_option linter.unusedSimpArgs false
structure OnlyG (W w1 : World) (g : Nat) : Prop where
 os : w1.os = W.os
 tape : w1.tape = W.tape
 output : w1.output = W.output
 size : w1.heap.size = W.heap.size
 block : ∀ k, k ≠ g → w1.heap[k]? = W.heap[k]?
theorem only_set (W : World) (g o : Nat) (v : Value) : OnlyG W (W.setCell ⟨g, o, none⟩ v) g :=
 ⟨rfl, rfl, rfl, by simp [World.setCell], fun k hk => Below.heap_setCell W ⟨g, o, none⟩ v k hk⟩
theorem OnlyG.trans {W w1 w2 : World} {g : Nat} (h : OnlyG W w1 g) (k : OnlyG w1 w2 g) : OnlyG W w2 g :=
 ⟨k.os.trans h.os, k.tape.trans h.tape, k.output.trans h.output, k.size.trans h.size, fun j hj => (k.block j hj).trans (h.block j hj)⟩
theorem OnlyG.refl (W : World) (g : Nat) : OnlyG W W g := ⟨rfl, rfl, rfl, rfl, fun _ _ => rfl⟩
theorem only_sets (g : Nat) : ∀ (vs : List Value) (o : Nat) (W : World), OnlyG W (W.setCells g o vs) g
 | [], _, W => OnlyG.refl W g
 | v :: r, o, W => (only_set W g o v).trans (only_sets g r (o + 1) _)
theorem below_only {base g : Nat} {w W w1 : World} (h : Below base w W) (k : OnlyG W w1 g) (hg : base ≤ g) : Below base w w1 :=
 ⟨k.os.trans h.os, k.tape.trans h.tape, k.output.trans h.output, by rw [k.size]; exact h.size, fun j hj => (k.block j (by omega)).trans (h.block j hj)⟩
theorem blk_only {W w1 : World} {g g' : Nat} {o : Obj} (h : W.heap[g']? = some o) (k : OnlyG W w1 g) (hne : g' ≠ g) : w1.heap[g']? = some o := (k.block g' hne).trans h
def setAll (cs : Array Value) : Nat → List Value → Array Value
 | _, [] => cs
 | o, v :: r => setAll (cs.setIfInBounds o v) (o + 1) r
theorem setAll_get : ∀ (vs : List Value) (cs : Array Value) (o i : Nat), o + vs.length ≤ cs.size → (setAll cs o vs)[i]? = if o ≤ i ∧ i < o + vs.length then vs[i - o]? else cs[i]?
 | [], cs, o, i, _ => by rw [setAll, if_neg (by simp only [List.length_nil]; omega)]
 | v :: r, cs, o, i, h => by
  simp only [List.length_cons] at h
  rw [setAll, setAll_get r _ (o + 1) i (by simp; omega)]
  by_cases h1 : o + 1 ≤ i ∧ i < o + 1 + r.length
  · rw [if_pos h1, if_pos (by simp only [List.length_cons]; omega)]
    obtain ⟨j, rfl⟩ : ∃ j, i = o + 1 + j := ⟨i - (o + 1), by omega⟩
    rw [show o + 1 + j - o = j + 1 by omega, show o + 1 + j - (o + 1) = j by omega]
    simp
  · rw [if_neg h1]
    by_cases h2 : i = o
    · subst h2
      rw [if_pos (by simp only [List.length_cons]; omega)]
      rw [Nat.sub_self, List.getElem?_cons_zero, Array.getElem?_setIfInBounds_self_of_lt (by omega)]
    · rw [if_neg (by simp only [List.length_cons]; omega), Array.getElem?_setIfInBounds_ne (by omega)]
theorem setAll_all {cs : Array Value} {vs : List Value} (h : cs.size = vs.length) : setAll cs 0 vs = vs.toArray := by
 apply Array.ext_getElem?
 intro i
 rw [setAll_get vs cs 0 i (by omega)]
 by_cases hi : i < vs.length
 · rw [if_pos (by omega)]; simp
 · rw [if_neg (by omega), Array.getElem?_eq_none (by omega)]
   simp only [List.getElem?_toArray]
   rw [List.getElem?_eq_none (by omega)]
theorem blk_sets {g : Nat} {t : TypeId} : ∀ (vs : List Value) (o : Nat) (W : World) (cs : Array Value), W.heap[g]? = some (.cells cs t (0, 0)) → (W.setCells g o vs).heap[g]? = some (.cells (setAll cs o vs) t (0, 0))
 | [], _, _, _, h => h
 | v :: r, o, W, cs, h => blk_sets r (o + 1) _ _ (blk_set h o v)
section
variable {P : Program} {ops : Array Oper} {o : Oper} {rest : List Oper} {a : Act} {Q : Exit → Act → World → Prop} {W : World} {g j : Nat} {t ty : TypeId} {cs cells : Array Value} {x y : Operand} {d : TypeDesc} {v : Value}
theorem range_blk (hb : W.heap[g]? = some (.cells cs t (0, 0))) : W.rangeAt g 0 cs.toList := fun j v hv => by
 rw [Nat.zero_add, blk_cell hb j]
 simpa using hv
theorem there_blk (hb : W.heap[g]? = some (.cells cs t (0, 0))) {n : Nat} (hn : n ≤ cs.size) : W.there g 0 n := fun j hj => by
 rw [Nat.zero_add]
 refine ⟨?_, blk_frozen hb j⟩
 rw [blk_cell hb j]
 simp; omega
theorem ev_box (hgd : o.guard = none) (ho : o.op = .box ty x) (hx : a.eval x = .agg cs)
 (h : ∀ g, g = W.heap.size → ∀ w1, w1.heap[g]? = some (.cells cs ty (0, 0)) → Below W.heap.size W w1 → wpList P ops Q rest (a.put o.dst (.pointer (some ⟨g, 0, none⟩))) w1) : wpList P ops Q (o :: rest) a W := by
 have hrun : (execOp a.eval o).run P W = .ok (.value (.pointer (some ⟨W.heap.size, 0, none⟩))) (W.alloc (.cells cs ty (0, 0))) := by
  unfold execOp
  simp only [ho, hx]
  rfl
 exact Kd.event_run hgd hrun (h _ rfl _ (blk_new W _) (below_alloc (Below.refl _ _) _))
theorem ev_slice {n : Nat} {e : TypeId} (hgd : o.guard = none) (hrun : (execOp a.eval o).run P W = .ok (.value (.slice (some ⟨W.heap.size, 0, none⟩) n n)) (W.alloc (.cells cs e (0, 0))))
 (h : ∀ g, g = W.heap.size → ∀ w1, w1.heap[g]? = some (.cells cs e (0, 0)) → Below W.heap.size W w1 → wpList P ops Q rest (a.put o.dst (.slice (some ⟨g, 0, none⟩) n n)) w1) : wpList P ops Q (o :: rest) a W :=
 Kd.event_run hgd hrun (h _ rfl _ (blk_new W _) (below_alloc (Below.refl _ _) _))
theorem ev_load (hgd : o.guard = none) (ho : o.op = .load ty x) (hx : a.eval x = .pointer (some ⟨g, 0, none⟩)) (hb : W.heap[g]? = some (.cells cs t (0, 0)))
 (hu : P.underlying ty = some d) (hd : d.isRow = true) (hi : (P.info? ty).map (·.size) = some cs.size) (h : wpList P ops Q rest (a.put o.dst (.agg cs)) W) : wpList P ops Q (o :: rest) a W :=
 wpList_load_mid hgd ty x ho g 0 hx cs.toList d (range_blk hb) hu hd (by simpa using hi) (by simpa using h)
theorem ev_store (hgd : o.guard = none) (ho : o.op = .store ty x y) (hx : a.eval x = .pointer (some ⟨g, 0, none⟩)) (hy : a.eval y = .agg cells) (hb : W.heap[g]? = some (.cells cs t (0, 0)))
 (hs : cs.size = cells.size) (hi : (P.info? ty).map (·.size) = some cells.size) (h1 : cells.all (·.oneCell') = true)
 (h : ∀ w1, w1.heap[g]? = some (.cells cells t (0, 0)) → OnlyG W w1 g → wpList P ops Q rest (a.put o.dst undef) w1) : wpList P ops Q (o :: rest) a W :=
 wpList_store_mid hgd ty x y ho g 0 cells hx hy (there_blk hb (by omega)) hi h1 (h _ (by have := blk_sets cells.toList 0 W cs hb; rw [setAll_all (by simpa using hs)] at this; simpa using this) (only_sets g _ 0 W))
theorem ev_loadf (hgd : o.guard = none) (ho : o.op = .load ty x) (hx : a.eval x = .pointer (some ⟨g, j, none⟩)) (hb : W.heap[g]? = some (.cells cs t (0, 0))) (hv : cs[j]? = some v)
 (hu : P.underlying ty = some d) (hd : d.isRow = false) (h : wpList P ops Q rest (a.put o.dst v) W) : wpList P ops Q (o :: rest) a W := by
 have hagg : ∀ w : World, (isAgg ty).run P w = .ok false w := fun w => by
  unfold isAgg
  rw [Sem.run_bind, run_underlying hu w]
  cases d <;> simp_all
 have hc : W.cell? ⟨g, j, none⟩ = some v := (blk_cell hb j).trans hv
 have hrun : (loadVar ty ⟨g, j, none⟩).run P W = .ok v W := by simp [loadVar, Sem.run_bind, hagg, hc]
 refine wpList_plain hgd fun K hK => ?_
 unfold Oper.wp execOp
 simp only [ho, hx, Instr.loadAt, Instr.sureAddr, Sem.run_bind, Sem.run_pure, Result.andThen_ok, hrun]
 exact hK _ _ h
theorem ev_storef (hgd : o.guard = none) (ho : o.op = .store ty x y) (hx : a.eval x = .pointer (some ⟨g, j, none⟩)) (hy : a.eval y = v) (hb : W.heap[g]? = some (.cells cs t (0, 0))) (hj : j < cs.size)
 (hi : (P.info? ty).map (·.size) = some 1) (h1 : v.oneCell' = true) (hc' : cs.setIfInBounds j v = cells)
 (h : ∀ w1, w1.heap[g]? = some (.cells cells t (0, 0)) → OnlyG W w1 g → wpList P ops Q rest (a.put o.dst undef) w1) : wpList P ops Q (o :: rest) a W := by
 cases hq : P.info? ty with
 | none => simp [hq] at hi
 | some i =>
  have hs : i.size = 1 := by simpa [hq] using hi
  have hcell : W.cell? ⟨g, j, none⟩ = some cs[j] := by rw [blk_cell hb j]; simp [hj]
  have hfz := blk_frozen hb j
  have hone : v.cells = #[v] := by cases v <;> first | rfl | simp [Value.oneCell'] at h1
  have hadd : (⟨g, j, none⟩ : Addr).add 0 = ⟨g, j, none⟩ := by unfold Addr.add; split <;> simp_all
  have hrun : (storeVar ty ⟨g, j, none⟩ v).run P W = .ok () (W.setCell ⟨g, j, none⟩ v) := by
   simp [storeVar, hone, sizeOf, typeInfo, hq, hs, storeCells, run_store P _ _ v _ h1, hadd, hcell, hfz, Result.andThen]
  refine wpList_plain hgd fun K hK => ?_
  unfold Oper.wp execOp
  simp only [ho, hx, hy, Instr.storeAt, Instr.sureAddr, Sem.run_bind, Sem.run_pure, Result.andThen_ok, hrun]
  exact hK _ _ (h _ (hc' ▸ blk_set hb j v) (only_set W g j v))
variable {Kc : Act → World → Prop}
theorem st_load (hw : Region.wanted o (yielded ops a.tmps) = true) (ho : o.op = .load ty x) (hx : a.eval x = .pointer (some ⟨g, 0, none⟩)) (hb : W.heap[g]? = some (.cells cs t (0, 0)))
 (hu : P.underlying ty = some d) (hd : d.isRow = true) (hi : (P.info? ty).map (·.size) = some cs.size) (h : Kc (a.put o.dst (.agg cs)) W) :
 if Region.wanted o (yielded ops a.tmps) = true then Oper.wp P o a W Kc Q else Kc (a.put o.dst undef) W := by
 rw [if_pos hw]
 exact wp_load_mid ty x ho g 0 hx cs.toList d (range_blk hb) hu hd (by simpa using hi) (by simpa using h)
theorem st_store (hw : Region.wanted o (yielded ops a.tmps) = true) (ho : o.op = .store ty x y) (hx : a.eval x = .pointer (some ⟨g, 0, none⟩)) (hy : a.eval y = .agg cells) (hb : W.heap[g]? = some (.cells cs t (0, 0)))
 (hs : cs.size = cells.size) (hi : (P.info? ty).map (·.size) = some cells.size) (h1 : cells.all (·.oneCell') = true)
 (h : ∀ w1, w1.heap[g]? = some (.cells cells t (0, 0)) → OnlyG W w1 g → Kc (a.put o.dst undef) w1) :
 if Region.wanted o (yielded ops a.tmps) = true then Oper.wp P o a W Kc Q else Kc (a.put o.dst undef) W := by
 rw [if_pos hw]
 exact wp_store_mid ty x y ho g 0 cells hx hy (there_blk hb (by omega)) hi h1 (h _ (by have := blk_sets cells.toList 0 W cs hb; rw [setAll_all (by simpa using hs)] at this; simpa using this) (only_sets g _ 0 W))
end
end Go.Proofs.YteanncchmenlkaaDoor.Hw
namespace Go.Proofs.YteanncchmenlkaaDoor.Hw
open Go.RowKit Go.Proofs.YteanncchmenlkaaDoorW.PrintWords Go.Proofs.YteanncchmenlkaaDoorW.PrintLast Go.Proofs.YteanncchmenlkaaDoorW.PrintMore Go.Proofs.YteanncchmenlkaaDoor.Print
set_option linter.unusedVariables false
abbrev pk (a0 a1 a2 : Int) (v3 : Value) (a4 a5 : Int) (v6 v7 v8 v9 : Value) : Array Value := #[.int .u16 a0, .int .u8 a1, .int .u8 a2, v3, .int .u16 a4, .int .u32 a5, v6, v7, v8, v9]
theorem pk_one {a0 a1 a2 a4 a5 : Int} {v3 v6 v7 v8 v9 : Value} (h3 : v3.oneCell' = true) (h6 : v6.oneCell' = true) (h7 : v7.oneCell' = true) (h8 : v8.oneCell' = true) (h9 : v9.oneCell' = true) : (pk a0 a1 a2 v3 a4 a5 v6 v7 v8 v9).all (·.oneCell') = true := by
 simp [h3, h6, h7, h8, h9, show ∀ k n, (Value.int k n).oneCell' = true from fun _ _ => rfl]
abbrev Rd {α : Type} (d : Kd α) (W : World) (v : Value) (xs : List α) : Prop := Kd.V d 0 W 0 (fun _ => True) v xs
section
variable {α : Type} {d : Kd α} {e base : Nat} {ok : Nat → Prop} {W W1 w : World} {v : Value} {xs : List α}
theorem rd_one (h : Rd d W v xs) : v.oneCell' = true := by
 obtain ⟨A, c, rfl, _⟩ := h
 rfl
theorem rd_of_v (h : Kd.V d e W base ok v xs) : Rd d W v xs := Kd.V_mono (h : Kd.V d 0 W 0 ok v xs) (fun _ _ => trivial)
theorem rd_of_n (h : Kd.N d e W base ok v xs) : Rd d W v xs := by
 obtain ⟨A, c, rfl, hl, hc⟩ := Kd.N_reads h
 exact Kd.V_mk hl (Kd.F_mono (Kd.N_F h) (fun _ _ => trivial))
theorem _root_.Go.Proofs.YteanncchmenlkaaDoorW.PrintWords.Kd.V.below (h : Kd.V d e W base ok v xs) (hb : Below W.heap.size W W1) : Kd.V d e W1 base ok v xs := Kd.V_below h hb
theorem _root_.Go.Proofs.YteanncchmenlkaaDoorW.PrintWords.Kd.V.only {g : Nat} (h : Kd.V d e W base ok v xs) (ho : OnlyG W W1 g) (hk : ∀ k, ok k → k ≠ g) : Kd.V d e W1 base ok v xs := Kd.V_step h (fun k hk' _ => ho.block k (hk k hk'))
end
theorem v_blk_ints {k : IntKind} {W : World} {g n : Nat} {cs : Array Value} {t : TypeId} {xs : List Int} (hb : W.heap[g]? = some (.cells cs t (0, 0))) (hc : cs.toList = xs.map (Value.int k)) (hn : n = xs.length) (hl : xs.length ≤ 9223372036854775807) :
 Kd.V (Kd.int k) 0 W 0 (fun j => j < W.heap.size) (.slice (some ⟨g, 0, none⟩) n n) xs := by
 subst hn
 have hC : Kd.C (Kd.int k) W (some ⟨g, 0, none⟩) xs.length xs := ⟨rfl, hl, fun _ => ⟨_, rfl, fun j p hj => ⟨[.int k p], rfl, rfl, fun i u hu => by
  have h0 : i = 0 ∧ u = .int k p := by
   cases i with
   | zero => exact ⟨rfl, by simpa using hu.symm⟩
   | succ i => simp at hu
  obtain ⟨rfl, rfl⟩ := h0
  rw [add_plain, blk_cell hb]
  show cs[j * 1 + 0]? = _
  rw [Nat.mul_one, Nat.add_zero]
  have e : cs.toList[j]? = some (.int k p) := by rw [hc, List.getElem?_map, hj]; rfl
  simpa using e⟩⟩⟩
 exact Kd.V_mk (Nat.le_refl _) (Kd.C_F (Kd.heap_int k) hC)
def PkR {α : Type} (d : Kd α) (W : World) (ok : Nat → Prop) (v3 v6 v7 v8 v9 : Value) (o : List α) (l6 l7 l8 l9 : List Int) : Prop :=
 Kd.V d 0 W 0 ok v3 o ∧ Kd.V (Kd.int .u8) 0 W 0 ok v6 l6 ∧ Kd.V (Kd.int .u8) 0 W 0 ok v7 l7 ∧ Kd.V (Kd.int .u8) 0 W 0 ok v8 l8 ∧ Kd.V (Kd.int .u32) 0 W 0 ok v9 l9
section
variable {α : Type} {d : Kd α} {W W1 : World} {ok ok' : Nat → Prop} {v3 v6 v7 v8 v9 : Value} {o : List α} {l6 l7 l8 l9 : List Int}
theorem PkR.below (h : PkR d W ok v3 v6 v7 v8 v9 o l6 l7 l8 l9) (hb : Below W.heap.size W W1) : PkR d W1 ok v3 v6 v7 v8 v9 o l6 l7 l8 l9 :=
 ⟨Kd.V_below h.1 hb, Kd.V_below h.2.1 hb, Kd.V_below h.2.2.1 hb, Kd.V_below h.2.2.2.1 hb, Kd.V_below h.2.2.2.2 hb⟩
theorem PkR.mono (h : PkR d W ok v3 v6 v7 v8 v9 o l6 l7 l8 l9) (hk : ∀ k, ok k → ok' k) : PkR d W ok' v3 v6 v7 v8 v9 o l6 l7 l8 l9 :=
 ⟨Kd.V_mono h.1 hk, Kd.V_mono h.2.1 hk, Kd.V_mono h.2.2.1 hk, Kd.V_mono h.2.2.2.1 hk, Kd.V_mono h.2.2.2.2 hk⟩
theorem PkR.old (h : PkR d W ok v3 v6 v7 v8 v9 o l6 l7 l8 l9) (hb : Below W.heap.size W W1) (hk : ∀ k, ok k → k < W.heap.size → ok' k) : PkR d W1 ok' v3 v6 v7 v8 v9 o l6 l7 l8 l9 :=
 have m : ∀ k, ok k ∧ k < W.heap.size → ok' k := fun k hk' => hk k hk'.1 hk'.2
 ⟨Kd.V_mono (Kd.V_old h.1 hb) m, Kd.V_mono (Kd.V_old h.2.1 hb) m, Kd.V_mono (Kd.V_old h.2.2.1 hb) m, Kd.V_mono (Kd.V_old h.2.2.2.1 hb) m, Kd.V_mono (Kd.V_old h.2.2.2.2 hb) m⟩
theorem PkR.only {g : Nat} (h : PkR d W ok v3 v6 v7 v8 v9 o l6 l7 l8 l9) (ho : OnlyG W W1 g) (hk : ∀ k, ok k → k ≠ g) : PkR d W1 ok v3 v6 v7 v8 v9 o l6 l7 l8 l9 :=
 have m : ∀ k, ok k → k < W.heap.size → W1.heap[k]? = W.heap[k]? := fun k hk' _ => ho.block k (hk k hk')
 ⟨Kd.V_step h.1 m, Kd.V_step h.2.1 m, Kd.V_step h.2.2.1 m, Kd.V_step h.2.2.2.1 m, Kd.V_step h.2.2.2.2 m⟩
theorem PkR.keep {B : Nat} (h : PkR d W ok v3 v6 v7 v8 v9 o l6 l7 l8 l9) (hb : Below B W W1) (hk : ∀ k, ok k → k < B) : PkR d W1 ok v3 v6 v7 v8 v9 o l6 l7 l8 l9 :=
 have m : ∀ k, ok k → k < W.heap.size → W1.heap[k]? = W.heap[k]? := fun k hk' _ => hb.block k (hk k hk')
 ⟨Kd.V_step h.1 m, Kd.V_step h.2.1 m, Kd.V_step h.2.2.1 m, Kd.V_step h.2.2.2.1 m, Kd.V_step h.2.2.2.2 m⟩
theorem PkR.one (h : PkR d W ok v3 v6 v7 v8 v9 o l6 l7 l8 l9) (a0 a1 a2 a4 a5 : Int) : (pk a0 a1 a2 v3 a4 a5 v6 v7 v8 v9).all (·.oneCell') = true :=
 pk_one (rd_one (rd_of_v h.1)) (rd_one (rd_of_v h.2.1)) (rd_one (rd_of_v h.2.2.1)) (rd_one (rd_of_v h.2.2.2.1)) (rd_one (rd_of_v h.2.2.2.2))
end
def PkIn {α : Type} (d : Kd α) (W : World) (x : Value) (a0 a1 a2 : Int) (o : List α) (a4 a5 : Int) (l6 l7 l8 l9 : List Int) : Prop :=
 ∃ v3 v6 v7 v8 v9 : Value, x = .agg (pk a0 a1 a2 v3 a4 a5 v6 v7 v8 v9) ∧ Rd d W v3 o ∧ Rd (Kd.int .u8) W v6 l6 ∧ Rd (Kd.int .u8) W v7 l7 ∧ Rd (Kd.int .u8) W v8 l8 ∧ Rd (Kd.int .u32) W v9 l9
def PkF {α : Type} (d : Kd α) (W : World) (ok : Nat → Prop) (x : Value) (a0 a1 a2 : Int) (o : List α) (a4 a5 : Int) (l6 l7 l8 l9 : List Int) : Prop :=
 ∃ v3 v6 v7 v8 v9 : Value, x = .agg (pk a0 a1 a2 v3 a4 a5 v6 v7 v8 v9) ∧ PkR d W ok v3 v6 v7 v8 v9 o l6 l7 l8 l9
section
variable {α : Type} {d : Kd α} {W W1 : World} {ok ok' : Nat → Prop} {x : Value} {a0 a1 a2 a4 a5 : Int} {o : List α} {l6 l7 l8 l9 : List Int}
theorem PkF.below (h : PkF d W ok x a0 a1 a2 o a4 a5 l6 l7 l8 l9) (hb : Below W.heap.size W W1) : PkF d W1 ok x a0 a1 a2 o a4 a5 l6 l7 l8 l9 := by
 obtain ⟨v3, v6, v7, v8, v9, e, r⟩ := h
 exact ⟨v3, v6, v7, v8, v9, e, r.below hb⟩
theorem PkF.mono (h : PkF d W ok x a0 a1 a2 o a4 a5 l6 l7 l8 l9) (hk : ∀ k, ok k → ok' k) : PkF d W ok' x a0 a1 a2 o a4 a5 l6 l7 l8 l9 := by
 obtain ⟨v3, v6, v7, v8, v9, e, r⟩ := h
 exact ⟨v3, v6, v7, v8, v9, e, r.mono hk⟩
theorem PkF.old (h : PkF d W ok x a0 a1 a2 o a4 a5 l6 l7 l8 l9) (hb : Below W.heap.size W W1) (hk : ∀ k, ok k → k < W.heap.size → ok' k) : PkF d W1 ok' x a0 a1 a2 o a4 a5 l6 l7 l8 l9 := by
 obtain ⟨v3, v6, v7, v8, v9, e, r⟩ := h
 exact ⟨v3, v6, v7, v8, v9, e, r.old hb hk⟩
theorem PkF.only {g : Nat} (h : PkF d W ok x a0 a1 a2 o a4 a5 l6 l7 l8 l9) (ho : OnlyG W W1 g) (hk : ∀ k, ok k → k ≠ g) : PkF d W1 ok x a0 a1 a2 o a4 a5 l6 l7 l8 l9 := by
 obtain ⟨v3, v6, v7, v8, v9, e, r⟩ := h
 exact ⟨v3, v6, v7, v8, v9, e, r.only ho hk⟩
end
theorem PkR.in_ {α : Type} {d : Kd α} {W : World} {ok : Nat → Prop} {v3 v6 v7 v8 v9 : Value} {o : List α} {l6 l7 l8 l9 : List Int} (h : PkR d W ok v3 v6 v7 v8 v9 o l6 l7 l8 l9) (a0 a1 a2 a4 a5 : Int) : PkIn d W (.agg (pk a0 a1 a2 v3 a4 a5 v6 v7 v8 v9)) a0 a1 a2 o a4 a5 l6 l7 l8 l9 :=
 ⟨v3, v6, v7, v8, v9, rfl, rd_of_v h.1, rd_of_v h.2.1, rd_of_v h.2.2.1, rd_of_v h.2.2.2.1, rd_of_v h.2.2.2.2⟩
theorem v_of_n {α : Type} {d : Kd α} {e base : Nat} {ok : Nat → Prop} {W : World} {v : Value} {xs : List α} (h : Kd.N d e W base ok v xs) : Kd.V d 0 W 0 ok v xs := by
 obtain ⟨A, c, rfl, hl, hc⟩ := Kd.N_reads h
 exact Kd.V_mk hl (Kd.N_F h)
theorem few_calls {W : World} {x : Value} {a0 a1 a2 a4 a5 : Int} {o : List S105} {l6 l7 l8 l9 : List Int} {k : Nat} {r : Bool} (h : PkIn k105 W x a0 a1 a2 o a4 a5 l6 l7 l8 l9) (hf : marlinelaw15_Few.f k a0 a1 a2 o a4 a5 l6 l7 l8 l9 = some r) :
 Calls Tryd.prog 23 #[x] W fun e w' => e = .returned (.bool r) ∧ Below W.heap.size W w' := by
 obtain ⟨v3, v6, v7, v8, v9, rfl, ⟨A3, c3, rfl, n3, f3⟩, ⟨A6, c6, rfl, n6, f6⟩, ⟨A7, c7, rfl, n7, f7⟩, ⟨A8, c8, rfl, n8, f8⟩, ⟨A9, c9, rfl, n9, f9⟩⟩ := h
 exact marlinelaw15_Few.calls k a0 a1 a2 A3 c3 o a4 a5 A6 c6 l6 A7 c7 l7 A8 c8 l8 A9 c9 l9 r W (Kd.F_now f3) n3 (Kd.F_now f6) n6 (Kd.F_now f7) n7 (Kd.F_now f8) n8 (Kd.F_now f9) n9 hf
theorem of_blocks {w0 W : World} {v3 v6 v7 v8 v9 : Value} {a0 a1 a2 a4 a5 r0 r1 r2 r4 r5 : Int} {o : List S105} {q : List S62} {l6 l7 l8 l9 m6 m7 m8 m9 : List Int} {k : Nat} (h : PkR k105 W (fun k => k < w0.heap.size) v3 v6 v7 v8 v9 o l6 l7 l8 l9)
 (hf : marlinelaw15_Of.f k a0 a1 a2 o a4 a5 l6 l7 l8 l9 = some (r0, r1, r2, q, r4, r5, m6, m7, m8, m9)) :
 Calls Tryd.prog 24 #[.agg (pk a0 a1 a2 v3 a4 a5 v6 v7 v8 v9)] W fun e w' => ∃ y, e = .returned y ∧ PkF k62 w' (fun k => k < w0.heap.size ∨ W.heap.size ≤ k) y r0 r1 r2 q r4 r5 m6 m7 m8 m9 ∧ Below W.heap.size W w' := by
 obtain ⟨⟨A3, c3, rfl, n3, f3⟩, ⟨A6, c6, rfl, n6, f6⟩, ⟨A7, c7, rfl, n7, f7⟩, ⟨A8, c8, rfl, n8, f8⟩, ⟨A9, c9, rfl, n9, f9⟩⟩ := h
 refine (marlinelaw15_Of.calls k a0 a1 a2 (fun k => k < w0.heap.size) A3 c3 o a4 a5 (fun k => k < w0.heap.size) A6 c6 l6 (fun k => k < w0.heap.size) A7 c7 l7 (fun k => k < w0.heap.size) A8 c8 l8 (fun k => k < w0.heap.size) A9 c9 l9 _ _ _ _ _ _ _ _ _ _ W (Kd.V_mk n3 f3) (Kd.V_mk n6 f6) (Kd.V_mk n7 f7) (Kd.V_mk n8 f8) (Kd.V_mk n9 f9) hf).mono ?_
 rintro e w' ⟨u3, u6, u7, u8, u9, rfl, h3, h6, h7, h8, h9, hb⟩
 have m : ∀ k, ((k < w0.heap.size ∨ k < w0.heap.size ∨ k < w0.heap.size ∨ k < w0.heap.size ∨ k < w0.heap.size) ∨ W.heap.size ≤ k) → k < w0.heap.size ∨ W.heap.size ≤ k := fun k hk => by omega
 exact ⟨_, rfl, ⟨u3, u6, u7, u8, u9, rfl, Kd.V_mono (v_of_n h3) m, Kd.V_mono h6 (fun k hk => m k hk.1), Kd.V_mono h7 (fun k hk => m k hk.1), Kd.V_mono h8 (fun k hk => m k hk.1), Kd.V_mono h9 (fun k hk => m k hk.1)⟩, hb⟩
end Go.Proofs.YteanncchmenlkaaDoor.Hw
namespace Go.Proofs.YteanncchmenlkaaDoor.Print
open Go.RowKit Go.Proofs.YteanncchmenlkaaDoorW.PrintWords Go.Proofs.YteanncchmenlkaaDoorW.PrintLast Go.Proofs.YteanncchmenlkaaDoorW.PrintMore
attribute [local go_sem] max2_int min2_int max_two min_two max_three min_three max_four min_four
set_option linter.unusedVariables false
set_option linter.unusedSimpArgs false
def proto_Right.f (a0 : Int) : Option (Bool) := if (Go.bits .and .u16 a0 257) = 1 then (some (a0 != 255)) else (some false)
set_option maxHeartbeats 8000000 in
set_option maxRecDepth 100000 in
theorem proto_Right.calls (a0 : Int) (r : Bool) (w : World) (h : proto_Right.f a0 = some r) :
 Calls Tryd.prog 44 #[.int .u16 a0] w fun e w' => e = .returned (.bool r) ∧ Drawn0 w w' := by
 have H : (if (Go.bits .and .u16 a0 257) = 1 then (some (a0 != 255)) else (some false)) = some r := h
 clear h
 by_cases c2 : (Go.bits .and .u16 a0 257) = 1
 · rw [if_pos c2] at H
   have c2b0 : ((Go.bits .and .u16 a0 257) == 1) = true := beq_iff_eq.mpr c2
   have c2b1 : ((Go.bits .and .u16 a0 257) != 1) = false := bne_eq_false_iff_eq.mpr c2
   clear c2
   obtain rfl := Option.some.inj H
   go_enter Tryd.func44, Tryd.ntmps44
   go_wp2
   go_ret
   exact ⟨by first | rfl | (simp; done) | (simp [*]; done), by repeat (first | exact Drawn0.refl _ | apply Drawn0.step)⟩
 · rw [if_neg c2] at H
   have c2b0 : ((Go.bits .and .u16 a0 257) == 1) = false := beq_eq_false_iff_ne.mpr c2
   have c2b1 : ((Go.bits .and .u16 a0 257) != 1) = true := bne_iff_ne.mpr c2
   obtain rfl := Option.some.inj H
   go_enter Tryd.func44, Tryd.ntmps44
   go_wp2
   go_ret
   exact ⟨by first | rfl | (simp; done) | (simp [*]; done), by repeat (first | exact Drawn0.refl _ | apply Drawn0.step)⟩
end Go.Proofs.YteanncchmenlkaaDoor.Print
namespace Go.Proofs.YteanncchmenlkaaDoor.Print
open Go.RowKit Go.Proofs.YteanncchmenlkaaDoorW.PrintWords Go.Proofs.YteanncchmenlkaaDoorW.PrintLast Go.Proofs.YteanncchmenlkaaDoorW.PrintMore
attribute [local go_sem] max2_int min2_int max_two min_two max_three min_three max_four min_four
set_option linter.unusedVariables false
set_option linter.unusedSimpArgs false
def lcp_has.j0 : Nat → Int → Bool → Option (Int)
 | 0, _, _ => none
 | k + 1, x0, x3 => if x3 = true then (some 1) else (if x0 = 8 then (some 2) else (if x0 ≥ 9 then (if x0 ≤ 11 then (some 3) else (some 0)) else (some 0)))
def lcp_has.f (k : Nat) (a0 : Int) : Option (Int) := if a0 ≥ 1 then (lcp_has.j0 k a0 (decide (a0 ≤ 4))) else (lcp_has.j0 k a0 false)
set_option maxHeartbeats 8000000 in
set_option maxRecDepth 100000 in
theorem lcp_has.calls (k : Nat) (a0 : Int) (r : Int) (w : World) (h : lcp_has.f k a0 = some r) :
 Calls Tryd.prog 63 #[.int .u8 a0] w fun e w' => e = .returned (.int .i64 r) ∧ Drawn0 w w' := by
 have H : (if a0 ≥ 1 then (lcp_has.j0 k a0 (decide (a0 ≤ 4))) else (lcp_has.j0 k a0 false)) = some r := h
 clear h
 have HC2 := Aside0.mk H
 clear H
 go_enter Tryd.func63, Tryd.ntmps63
 go_upto_region 1 with (fail)
 go_cut [3] (fun v3 wc => ∃ (kq : Nat) (x3_1 : Bool), v3 = .bool x3_1 ∧ Aside0 (lcp_has.j0 kq a0 x3_1 = some r) ∧ Aside0 (kq ≤ k) ∧ Drawn0 w wc)
 case first =>
  have H := HC2.out
  clear HC2
  by_cases c3 : a0 ≥ 1
  · rw [if_pos c3] at H
    have c3b0 : decide (1 ≤ a0) = true := decide_eq_true c3
    clear c3
    (first | rw [c3b0] | (simp only [i64_w, i32_w]; rw [c3b0]) | skip)
    have H' := Aside0.mk H
    clear H
    go_wp2
    go_meet
    case rel => exact ⟨_, (decide (a0 ≤ 4)), (by first | rfl | (simp; done) | (simp [*]; done)), H', ⟨by first | omega | exact Nat.le_refl _⟩, by repeat (first | exact Drawn0.refl _ | apply Drawn0.step)⟩
  · rw [if_neg c3] at H
    have c3b0 : decide (1 ≤ a0) = false := decide_eq_false c3
    clear c3
    (first | rw [c3b0] | (simp only [i64_w, i32_w]; rw [c3b0]) | skip)
    have H' := Aside0.mk H
    clear H
    go_wp2
    go_meet
    case rel => exact ⟨_, (false), (by first | rfl | (simp; done) | (simp [*]; done)), H', ⟨by first | omega | exact Nat.le_refl _⟩, by repeat (first | exact Drawn0.refl _ | apply Drawn0.step)⟩
 case rest =>
  clear HC2
  try clear p2
  try clear c3
  try clear c3b0
  obtain ⟨kq, x3_1, rfl, HA, HJ1, ⟨mc1, rfl⟩⟩ := hcut
  cases kq with
  | zero => exact absurd HA.out (by simp [lcp_has.j0])
  | succ kj1 =>
   have H := HA.out
   clear HA
   simp only [lcp_has.j0] at H
   by_cases c4 : x3_1 = true
   · subst c4
     have H1 : (some 1) = some r := by rw [if_pos rfl] at H; exact H
     clear H
     have H := H1
     clear H1
     obtain rfl := Option.some.inj H
     go_wp2
     go_ret
     exact ⟨by first | rfl | (simp; done) | (simp [*]; done), by repeat (first | exact Drawn0.refl _ | apply Drawn0.step)⟩
   · replace c4 := Bool.eq_false_iff.mpr c4
     subst c4
     have H1 : (if a0 = 8 then (some 2) else (if a0 ≥ 9 then (if a0 ≤ 11 then (some 3) else (some 0)) else (some 0))) = some r := by rw [if_neg (show ¬ (false = true) by decide)] at H; exact H
     clear H
     have H := H1
     clear H1
     by_cases c5 : a0 = 8
     · rw [if_pos c5] at H
       have c5b0 : (a0 == 8) = true := beq_iff_eq.mpr c5
       have c5b1 : (a0 != 8) = false := bne_eq_false_iff_eq.mpr c5
       clear c5
       obtain rfl := Option.some.inj H
       go_wp2
       go_ret
       exact ⟨by first | rfl | (simp; done) | (simp [*]; done), by repeat (first | exact Drawn0.refl _ | apply Drawn0.step)⟩
     · rw [if_neg c5] at H
       have c5b0 : (a0 == 8) = false := beq_eq_false_iff_ne.mpr c5
       have c5b1 : (a0 != 8) = true := bne_iff_ne.mpr c5
       by_cases c6 : a0 ≥ 9
       · rw [if_pos c6] at H
         have c6b0 : decide (9 ≤ a0) = true := decide_eq_true c6
         clear c6
         by_cases c7 : a0 ≤ 11
         · rw [if_pos c7] at H
           have c7b0 : decide (a0 ≤ 11) = true := decide_eq_true c7
           clear c7
           obtain rfl := Option.some.inj H
           go_wp2
           go_ret
           exact ⟨by first | rfl | (simp; done) | (simp [*]; done), by repeat (first | exact Drawn0.refl _ | apply Drawn0.step)⟩
         · rw [if_neg c7] at H
           have c7b0 : decide (a0 ≤ 11) = false := decide_eq_false c7
           clear c7
           obtain rfl := Option.some.inj H
           go_wp2
           go_ret
           exact ⟨by first | rfl | (simp; done) | (simp [*]; done), by repeat (first | exact Drawn0.refl _ | apply Drawn0.step)⟩
       · rw [if_neg c6] at H
         have c6b0 : decide (9 ≤ a0) = false := decide_eq_false c6
         clear c6
         obtain rfl := Option.some.inj H
         go_wp2
         go_ret
         exact ⟨by first | rfl | (simp; done) | (simp [*]; done), by repeat (first | exact Drawn0.refl _ | apply Drawn0.step)⟩
end Go.Proofs.YteanncchmenlkaaDoor.Print
namespace Go.Proofs.YteanncchmenlkaaDoor.Print
open Go.RowKit Go.Proofs.YteanncchmenlkaaDoorW.PrintWords Go.Proofs.YteanncchmenlkaaDoorW.PrintLast Go.Proofs.YteanncchmenlkaaDoorW.PrintMore
attribute [local go_sem] max2_int min2_int max_two min_two max_three min_three max_four min_four
set_option linter.unusedVariables false
set_option linter.unusedSimpArgs false
mutual
def lcp_more.j0 : Nat → Int → Bool → Int → Int → Int → List (S62) → Int → Int → List Int → List Int → List Int → List Int → Option (Bool)
 | 0, _, _, _, _, _, _, _, _, _, _, _, _ => none
 | k + 1, x3, x20, x114000, x114001, x114002, x114003, x114004, x114005, x114006, x114007, x114008, x114009 => if x20 = true then (some true) else (if x3 = 1 then (lcp_more.j1 k x3 (decide ((x114008.length : Int) > 0)) x114000 x114001 x114002 x114003 x114004 x114005 x114006 x114007 x114008 x114009) else (lcp_more.j1 k x3 false x114000 x114001 x114002 x114003 x114004 x114005 x114006 x114007 x114008 x114009))
def lcp_more.j1 : Nat → Int → Bool → Int → Int → Int → List (S62) → Int → Int → List Int → List Int → List Int → List Int → Option (Bool)
 | 0, _, _, _, _, _, _, _, _, _, _, _, _ => none
 | k + 1, x3, x29, x114000, x114001, x114002, x114003, x114004, x114005, x114006, x114007, x114008, x114009 => if x29 = true then (some true) else (if x3 = 2 then (lcp_more.j2 k x3 false x114000 x114001 x114002 x114003 x114004 x114005 x114006 x114007 x114008 x114009) else (lcp_more.j2 k x3 (x114004 != 0) x114000 x114001 x114002 x114003 x114004 x114005 x114006 x114007 x114008 x114009))
def lcp_more.j2 : Nat → Int → Bool → Int → Int → Int → List (S62) → Int → Int → List Int → List Int → List Int → List Int → Option (Bool)
 | 0, _, _, _, _, _, _, _, _, _, _, _, _ => none
 | k + 1, x3, x38, x114000, x114001, x114002, x114003, x114004, x114005, x114006, x114007, x114008, x114009 => if x38 = true then (some true) else (if x3 = 3 then (some false) else (if x114005 = 0 then (some false) else (some true)))
end
def lcp_more.f (k : Nat) (a0_0 : Int) (a0_1 : Int) (a0_2 : Int) (l0_3 : List (S62)) (a0_4 : Int) (a0_5 : Int) (l0_6 : List Int) (l0_7 : List Int) (l0_8 : List Int) (l0_9 : List Int) : Option (Bool) := (lcp_has.f k a0_1).bind fun t114 => (if (wrap64 ((wrap64 ((l0_6.length : Int) + (l0_7.length : Int))) + (l0_9.length : Int))) > 0 then (some true) else (if t114 = 1 then (lcp_more.j0 k t114 false a0_0 a0_1 a0_2 l0_3 a0_4 a0_5 l0_6 l0_7 l0_8 l0_9) else (lcp_more.j0 k t114 (decide ((l0_3.length : Int) > 0)) a0_0 a0_1 a0_2 l0_3 a0_4 a0_5 l0_6 l0_7 l0_8 l0_9)))
set_option maxHeartbeats 8000000 in
set_option maxRecDepth 100000 in
theorem lcp_more.calls (k : Nat) (a0_0 : Int) (a0_1 : Int) (a0_2 : Int) (A0_3 : Option Addr) (c0_3 : Nat) (l0_3 : List (S62)) (a0_4 : Int) (a0_5 : Int) (A0_6 : Option Addr) (c0_6 : Nat) (l0_6 : List Int) (A0_7 : Option Addr) (c0_7 : Nat) (l0_7 : List Int) (A0_8 : Option Addr) (c0_8 : Nat) (l0_8 : List Int) (A0_9 : Option Addr) (c0_9 : Nat) (l0_9 : List Int) (r : Bool) (w : World) (hr0_3 : Kd.C k62 w A0_3 l0_3.length l0_3) (hc0_3 : l0_3.length ≤ c0_3) (hr0_6 : Kd.C (Kd.int .u8) w A0_6 l0_6.length l0_6) (hc0_6 : l0_6.length ≤ c0_6) (hr0_7 : Kd.C (Kd.int .u8) w A0_7 l0_7.length l0_7) (hc0_7 : l0_7.length ≤ c0_7) (hr0_8 : Kd.C (Kd.int .u8) w A0_8 l0_8.length l0_8) (hc0_8 : l0_8.length ≤ c0_8) (hr0_9 : Kd.C (Kd.int .u32) w A0_9 l0_9.length l0_9) (hc0_9 : l0_9.length ≤ c0_9) (h : lcp_more.f k a0_0 a0_1 a0_2 l0_3 a0_4 a0_5 l0_6 l0_7 l0_8 l0_9 = some r) :
 Calls Tryd.prog 62 #[.agg #[.int .u16 a0_0, .int .u8 a0_1, .int .u8 a0_2, .slice A0_3 l0_3.length c0_3, .int .u16 a0_4, .int .u32 a0_5, .slice A0_6 l0_6.length c0_6, .slice A0_7 l0_7.length c0_7, .slice A0_8 l0_8.length c0_8, .slice A0_9 l0_9.length c0_9]] w fun e w' => e = .returned (.bool r) ∧ Below w.heap.size w w' := by
 have hu29 := Tryd.underlying29
 have HR0_3 := Aside0.mk hr0_3
 have HC0_3 := Aside0.mk hc0_3
 clear hr0_3 hc0_3
 have HR0_6 := Aside0.mk hr0_6
 have HC0_6 := Aside0.mk hc0_6
 clear hr0_6 hc0_6
 have HR0_7 := Aside0.mk hr0_7
 have HC0_7 := Aside0.mk hc0_7
 clear hr0_7 hc0_7
 have HR0_8 := Aside0.mk hr0_8
 have HC0_8 := Aside0.mk hc0_8
 clear hr0_8 hc0_8
 have HR0_9 := Aside0.mk hr0_9
 have HC0_9 := Aside0.mk hc0_9
 clear hr0_9 hc0_9
 have HB := Aside0.mk (Below.refl w.heap.size w)
 have H : ((lcp_has.f k a0_1).bind fun t114 => (if (wrap64 ((wrap64 ((l0_6.length : Int) + (l0_7.length : Int))) + (l0_9.length : Int))) > 0 then (some true) else (if t114 = 1 then (lcp_more.j0 k t114 false a0_0 a0_1 a0_2 l0_3 a0_4 a0_5 l0_6 l0_7 l0_8 l0_9) else (lcp_more.j0 k t114 (decide ((l0_3.length : Int) > 0)) a0_0 a0_1 a0_2 l0_3 a0_4 a0_5 l0_6 l0_7 l0_8 l0_9)))) = some r := h
 clear h
 replace H := Option.bind_eq_some_iff.mp H
 obtain ⟨t114, A20, H⟩ := H
 replace H : (if (wrap64 ((wrap64 ((l0_6.length : Int) + (l0_7.length : Int))) + (l0_9.length : Int))) > 0 then (some true) else (if t114 = 1 then (lcp_more.j0 k t114 false a0_0 a0_1 a0_2 l0_3 a0_4 a0_5 l0_6 l0_7 l0_8 l0_9) else (lcp_more.j0 k t114 (decide ((l0_3.length : Int) > 0)) a0_0 a0_1 a0_2 l0_3 a0_4 a0_5 l0_6 l0_7 l0_8 l0_9))) = some r := H
 have A2 := Aside0.mk A20
 clear A20
 by_cases c3 : (wrap64 ((wrap64 ((l0_6.length : Int) + (l0_7.length : Int))) + (l0_9.length : Int))) > 0
 · rw [if_pos c3] at H
   have c3b0 : decide (0 < (wrap64 ((wrap64 ((l0_6.length : Int) + (l0_7.length : Int))) + (l0_9.length : Int)))) = true := decide_eq_true c3
   clear c3
   obtain rfl := Option.some.inj H
   go_enter Tryd.func62, Tryd.ntmps62
   go_wp2_with (first | ((with_reducible refine gate_dst (N := 1) rfl ?_); (try (refine gate_guard (by rfl) ?_; dsimp only)); refine box_event ?hg (N := 1) ?hd (cs := #[.int .u16 a0_0, .int .u8 a0_1, .int .u8 a0_2, .slice A0_3 l0_3.length c0_3, .int .u16 a0_4, .int .u32 a0_5, .slice A0_6 l0_6.length c0_6, .slice A0_7 l0_7.length c0_7, .slice A0_8 l0_8.length c0_8, .slice A0_9 l0_9.length c0_9]) (t := 29) ?hr ?_; (case hd => rfl); (case hg => rfl); (case hr => first | (go_simp; done) | (go_simp; simp only [IntKind.wrap_u8, IntKind.wrap_u16, IntKind.wrap_u32, IntKind.wrap_u64]; done) | (go_simp; simp only [IntKind.wrap_u8, IntKind.wrap_u16, IntKind.wrap_u32, IntKind.wrap_u64, Int.tmod_eq_emod_of_nonneg (Int.natCast_nonneg _), Int.emod_emod]; done) | (go_simp; rfl)); intro gb113 hg w4 hbox hb; have n0_ := Aside0.mk (below_step (by repeat (first | (with_reducible first | exact HB.out | apply below_alloc | apply pw_below_drewN | apply below_drew1) | exact HB.out)) hb); have n1_ := Aside0.mk (hbox); have n2_ := Aside0.mk ((by rw [hg]; exact (below_size (by repeat (first | (with_reducible first | exact HB.out | apply below_alloc | apply pw_below_drewN | apply below_drew1) | exact HB.out))) : w.heap.size ≤ gb113)); have n3_ := Aside0.mk ((by rw [hg]; exact (below_size (by repeat (first | (with_reducible first | exact HB.out | apply below_alloc | apply pw_below_drewN | apply below_drew1) | exact HB.out))) : w.heap.size ≤ gb113)); clear HB; have HB := n0_; have BK113 := n1_; have GW113 := n2_; have GE113 := n3_; clear n0_ n1_ n2_ n3_; clear hb hbox hg; obtain ⟨⟨hcz5_0, hcz5_1, hcz5_2, hcz5_3, hcz5_4, hcz5_5, hcz5_6, hcz5_7, hcz5_8, hcz5_9⟩, hfz5_0, hfz5_1, hfz5_2, hfz5_3, hfz5_4, hfz5_5, hfz5_6, hfz5_7, hfz5_8, hfz5_9⟩ := cz10 BK113.out) | ((with_reducible refine gate_callee (f := 63) rfl ?_); refine goesL_ (some 6) rfl rfl Tryd.func63 (by kernel_rfl) rfl #[.int .u8 a0_1] rfl (by (try simp only [List.map_toArray, List.map_cons, List.map_nil]); first | done | rfl | (simp only [List.length_drop, List.length_take]; rfl)) ?_; (with_reducible refine (lcp_has.calls k a0_1 t114 _ A2.out).mono ?_); rintro e w' ⟨rfl, ⟨nd, rfl⟩⟩; refine ⟨_, rfl, ?_⟩))
   go_ret
   exact ⟨by first | rfl | (simp [errW_none, errW_some] <;> rfl) | (simp [*, errW_none, errW_some] <;> rfl), by repeat (first | (with_reducible first | exact HB.out | apply below_alloc | apply pw_below_drewN | apply below_drew1 | refine below_set ?_ GE113.out) | exact HB.out)⟩
 · rw [if_neg c3] at H
   have c3b0 : decide (0 < (wrap64 ((wrap64 ((l0_6.length : Int) + (l0_7.length : Int))) + (l0_9.length : Int)))) = false := decide_eq_false c3
   clear c3
   have HC6 := Aside0.mk H
   clear H
   go_enter Tryd.func62, Tryd.ntmps62
   go_upto_region 4 with (first | ((with_reducible refine gate_dst (N := 1) rfl ?_); (try (refine gate_guard (by rfl) ?_; dsimp only)); refine box_event ?hg (N := 1) ?hd (cs := #[.int .u16 a0_0, .int .u8 a0_1, .int .u8 a0_2, .slice A0_3 l0_3.length c0_3, .int .u16 a0_4, .int .u32 a0_5, .slice A0_6 l0_6.length c0_6, .slice A0_7 l0_7.length c0_7, .slice A0_8 l0_8.length c0_8, .slice A0_9 l0_9.length c0_9]) (t := 29) ?hr ?_; (case hd => rfl); (case hg => rfl); (case hr => first | (go_simp; done) | (go_simp; simp only [IntKind.wrap_u8, IntKind.wrap_u16, IntKind.wrap_u32, IntKind.wrap_u64]; done) | (go_simp; simp only [IntKind.wrap_u8, IntKind.wrap_u16, IntKind.wrap_u32, IntKind.wrap_u64, Int.tmod_eq_emod_of_nonneg (Int.natCast_nonneg _), Int.emod_emod]; done) | (go_simp; rfl)); intro gb113 hg w7 hbox hb; have n0_ := Aside0.mk (below_step (by repeat (first | (with_reducible first | exact HB.out | apply below_alloc | apply pw_below_drewN | apply below_drew1) | exact HB.out)) hb); have n1_ := Aside0.mk (hbox); have n2_ := Aside0.mk ((by rw [hg]; exact (below_size (by repeat (first | (with_reducible first | exact HB.out | apply below_alloc | apply pw_below_drewN | apply below_drew1) | exact HB.out))) : w.heap.size ≤ gb113)); have n3_ := Aside0.mk ((by rw [hg]; exact (below_size (by repeat (first | (with_reducible first | exact HB.out | apply below_alloc | apply pw_below_drewN | apply below_drew1) | exact HB.out))) : w.heap.size ≤ gb113)); clear HB; have HB := n0_; have BK113 := n1_; have GW113 := n2_; have GE113 := n3_; clear n0_ n1_ n2_ n3_; clear hb hbox hg; obtain ⟨⟨hcz8_0, hcz8_1, hcz8_2, hcz8_3, hcz8_4, hcz8_5, hcz8_6, hcz8_7, hcz8_8, hcz8_9⟩, hfz8_0, hfz8_1, hfz8_2, hfz8_3, hfz8_4, hfz8_5, hfz8_6, hfz8_7, hfz8_8, hfz8_9⟩ := cz10 BK113.out) | ((with_reducible refine gate_callee (f := 63) rfl ?_); refine goesL_ (some 6) rfl rfl Tryd.func63 (by kernel_rfl) rfl #[.int .u8 a0_1] rfl (by (try simp only [List.map_toArray, List.map_cons, List.map_nil]); first | done | rfl | (simp only [List.length_drop, List.length_take]; rfl)) ?_; (with_reducible refine (lcp_has.calls k a0_1 t114 _ A2.out).mono ?_); rintro e w' ⟨rfl, ⟨nd, rfl⟩⟩; refine ⟨_, rfl, ?_⟩))
   (try simp only [Act.put, List.setIfInBounds_toArray, List.set_cons_zero, List.set_cons_succ])
   go_cut [20] (fun v20 wc => ∃ (kq : Nat) (x20_5 : Bool), v20 = .bool x20_5 ∧ Aside0 (lcp_more.j0 kq t114 x20_5 a0_0 a0_1 a0_2 l0_3 a0_4 a0_5 l0_6 l0_7 l0_8 l0_9 = some r) ∧ Aside0 (kq ≤ k) ∧ Aside0 (wc.heap[gb113]? = some (.cells #[.int .u16 a0_0, .int .u8 a0_1, .int .u8 a0_2, (.slice A0_3 l0_3.length c0_3), .int .u16 a0_4, .int .u32 a0_5, (.slice A0_6 l0_6.length c0_6), (.slice A0_7 l0_7.length c0_7), (.slice A0_8 l0_8.length c0_8), (.slice A0_9 l0_9.length c0_9)] 29 (0, 0))) ∧ Aside0 (Below w.heap.size w wc))
   case first =>
    have H := HC6.out
    clear HC6
    by_cases c9 : t114 = 1
    · rw [if_pos c9] at H
      have c9b0 : (t114 == 1) = true := beq_iff_eq.mpr c9
      have c9b1 : (t114 != 1) = false := bne_eq_false_iff_eq.mpr c9
      clear c9
      (first | rw [c9b0] | (simp only [i64_w, i32_w]; rw [c9b0]) | skip)
      have H' := Aside0.mk H
      clear H
      go_wp2
      go_meet
      case rel => exact ⟨_, (false), (by first | rfl | (simp; done) | (simp [*]; done)), H', ⟨by first | omega | exact Nat.le_refl _⟩, ⟨by (with_reducible repeat (first | refine blk_drewN ?_ _ | refine blk_drew ?_ | refine blk_alloc ?_ _)); exact BK113.out⟩, ⟨by repeat (first | (with_reducible first | exact HB.out | apply below_alloc | apply pw_below_drewN | apply below_drew1 | refine below_set ?_ GE113.out) | exact HB.out)⟩⟩
    · rw [if_neg c9] at H
      have c9b0 : (t114 == 1) = false := beq_eq_false_iff_ne.mpr c9
      have c9b1 : (t114 != 1) = true := bne_iff_ne.mpr c9
      (first | rw [c9b0] | (simp only [i64_w, i32_w]; rw [c9b0]) | skip)
      have H' := Aside0.mk H
      clear H
      obtain ⟨⟨hcz10_0, hcz10_1, hcz10_2, hcz10_3, hcz10_4, hcz10_5, hcz10_6, hcz10_7, hcz10_8, hcz10_9⟩, hfz10_0, hfz10_1, hfz10_2, hfz10_3, hfz10_4, hfz10_5, hfz10_6, hfz10_7, hfz10_8, hfz10_9⟩ := cz10 BK113.out
      go_wp2
      go_meet
      case rel => exact ⟨_, (decide ((l0_3.length : Int) > 0)), (by first | rfl | (simp; done) | (simp [*]; done)), H', ⟨by first | omega | exact Nat.le_refl _⟩, ⟨by (with_reducible repeat (first | refine blk_drewN ?_ _ | refine blk_drew ?_ | refine blk_alloc ?_ _)); exact BK113.out⟩, ⟨by repeat (first | (with_reducible first | exact HB.out | apply below_alloc | apply pw_below_drewN | apply below_drew1 | refine below_set ?_ GE113.out) | exact HB.out)⟩⟩
   case rest =>
    clear HC6
    try clear p2
    try clear c3
    try clear c3b0
    try clear c6
    try clear p6
    try clear c9
    try clear c9b0
    try clear c9b1
    try clear hcz10_0 hcz10_1 hcz10_2 hcz10_3 hcz10_4 hcz10_5 hcz10_6 hcz10_7 hcz10_8 hcz10_9 hfz10_0 hfz10_1 hfz10_2 hfz10_3 hfz10_4 hfz10_5 hfz10_6 hfz10_7 hfz10_8 hfz10_9
    try clear hcz5_0 hcz5_1 hcz5_2 hcz5_3 hcz5_4 hcz5_5 hcz5_6 hcz5_7 hcz5_8 hcz5_9 hfz5_0 hfz5_1 hfz5_2 hfz5_3 hfz5_4 hfz5_5 hfz5_6 hfz5_7 hfz5_8 hfz5_9
    try clear hcz8_0 hcz8_1 hcz8_2 hcz8_3 hcz8_4 hcz8_5 hcz8_6 hcz8_7 hcz8_8 hcz8_9 hfz8_0 hfz8_1 hfz8_2 hfz8_3 hfz8_4 hfz8_5 hfz8_6 hfz8_7 hfz8_8 hfz8_9
    obtain ⟨kq, x20_5, rfl, HA, HJ5, BK113, HB⟩ := hcut
    cases kq with
    | zero => exact absurd HA.out (by simp [lcp_more.j0])
    | succ kj5 =>
     have H := HA.out
     clear HA
     simp only [lcp_more.j0] at H
     by_cases c11 : x20_5 = true
     · subst c11
       have H1 : (some true) = some r := by rw [if_pos rfl] at H; exact H
       clear H
       have H := H1
       clear H1
       obtain rfl := Option.some.inj H
       go_wp2
       go_ret
       exact ⟨by first | rfl | (simp [errW_none, errW_some] <;> rfl) | (simp [*, errW_none, errW_some] <;> rfl), by repeat (first | (with_reducible first | exact HB.out | apply below_alloc | apply pw_below_drewN | apply below_drew1 | refine below_set ?_ GE113.out) | exact HB.out)⟩
     · replace c11 := Bool.eq_false_iff.mpr c11
       subst c11
       have H1 : (if t114 = 1 then (lcp_more.j1 kj5 t114 (decide ((l0_8.length : Int) > 0)) a0_0 a0_1 a0_2 l0_3 a0_4 a0_5 l0_6 l0_7 l0_8 l0_9) else (lcp_more.j1 kj5 t114 false a0_0 a0_1 a0_2 l0_3 a0_4 a0_5 l0_6 l0_7 l0_8 l0_9)) = some r := by rw [if_neg (show ¬ (false = true) by decide)] at H; exact H
       clear H
       have H := H1
       clear H1
       have HC12 := Aside0.mk H
       clear H
       go_upto_region 5 with (fail)
       go_cut [29] (fun v29 wc => ∃ (kq : Nat) (x29_11 : Bool), v29 = .bool x29_11 ∧ Aside0 (lcp_more.j1 kq t114 x29_11 a0_0 a0_1 a0_2 l0_3 a0_4 a0_5 l0_6 l0_7 l0_8 l0_9 = some r) ∧ Aside0 (kq ≤ kj5) ∧ Aside0 (wc.heap[gb113]? = some (.cells #[.int .u16 a0_0, .int .u8 a0_1, .int .u8 a0_2, (.slice A0_3 l0_3.length c0_3), .int .u16 a0_4, .int .u32 a0_5, (.slice A0_6 l0_6.length c0_6), (.slice A0_7 l0_7.length c0_7), (.slice A0_8 l0_8.length c0_8), (.slice A0_9 l0_9.length c0_9)] 29 (0, 0))) ∧ Aside0 (Below w.heap.size w wc))
       case first =>
        have H := HC12.out
        clear HC12
        by_cases c13 : t114 = 1
        · rw [if_pos c13] at H
          have c13b0 : (t114 == 1) = true := beq_iff_eq.mpr c13
          have c13b1 : (t114 != 1) = false := bne_eq_false_iff_eq.mpr c13
          clear c13
          (first | rw [c13b0] | (simp only [i64_w, i32_w]; rw [c13b0]) | skip)
          have H' := Aside0.mk H
          clear H
          obtain ⟨⟨hcz14_0, hcz14_1, hcz14_2, hcz14_3, hcz14_4, hcz14_5, hcz14_6, hcz14_7, hcz14_8, hcz14_9⟩, hfz14_0, hfz14_1, hfz14_2, hfz14_3, hfz14_4, hfz14_5, hfz14_6, hfz14_7, hfz14_8, hfz14_9⟩ := cz10 BK113.out
          go_wp2
          go_meet
          case rel => exact ⟨_, (decide ((l0_8.length : Int) > 0)), (by first | rfl | (simp; done) | (simp [*]; done)), H', ⟨by have := HJ5.out; first | omega | exact Nat.le_refl _⟩, ⟨by (with_reducible repeat (first | refine blk_drewN ?_ _ | refine blk_drew ?_ | refine blk_alloc ?_ _)); exact BK113.out⟩, ⟨by repeat (first | (with_reducible first | exact HB.out | apply below_alloc | apply pw_below_drewN | apply below_drew1 | refine below_set ?_ GE113.out) | exact HB.out)⟩⟩
        · rw [if_neg c13] at H
          have c13b0 : (t114 == 1) = false := beq_eq_false_iff_ne.mpr c13
          have c13b1 : (t114 != 1) = true := bne_iff_ne.mpr c13
          (first | rw [c13b0] | (simp only [i64_w, i32_w]; rw [c13b0]) | skip)
          have H' := Aside0.mk H
          clear H
          go_wp2
          go_meet
          case rel => exact ⟨_, (false), (by first | rfl | (simp; done) | (simp [*]; done)), H', ⟨by have := HJ5.out; first | omega | exact Nat.le_refl _⟩, ⟨by (with_reducible repeat (first | refine blk_drewN ?_ _ | refine blk_drew ?_ | refine blk_alloc ?_ _)); exact BK113.out⟩, ⟨by repeat (first | (with_reducible first | exact HB.out | apply below_alloc | apply pw_below_drewN | apply below_drew1 | refine below_set ?_ GE113.out) | exact HB.out)⟩⟩
       case rest =>
        clear HC12
        try clear c1
        try clear p2
        try clear c3
        try clear c3b0
        try clear c6
        try clear p6
        try clear c9
        try clear c9b0
        try clear c9b1
        try clear c11
        try clear c13
        try clear c13b0
        try clear c13b1
        try clear hcz10_0 hcz10_1 hcz10_2 hcz10_3 hcz10_4 hcz10_5 hcz10_6 hcz10_7 hcz10_8 hcz10_9 hfz10_0 hfz10_1 hfz10_2 hfz10_3 hfz10_4 hfz10_5 hfz10_6 hfz10_7 hfz10_8 hfz10_9
        try clear hcz14_0 hcz14_1 hcz14_2 hcz14_3 hcz14_4 hcz14_5 hcz14_6 hcz14_7 hcz14_8 hcz14_9 hfz14_0 hfz14_1 hfz14_2 hfz14_3 hfz14_4 hfz14_5 hfz14_6 hfz14_7 hfz14_8 hfz14_9
        try clear hcz5_0 hcz5_1 hcz5_2 hcz5_3 hcz5_4 hcz5_5 hcz5_6 hcz5_7 hcz5_8 hcz5_9 hfz5_0 hfz5_1 hfz5_2 hfz5_3 hfz5_4 hfz5_5 hfz5_6 hfz5_7 hfz5_8 hfz5_9
        try clear hcz8_0 hcz8_1 hcz8_2 hcz8_3 hcz8_4 hcz8_5 hcz8_6 hcz8_7 hcz8_8 hcz8_9 hfz8_0 hfz8_1 hfz8_2 hfz8_3 hfz8_4 hfz8_5 hfz8_6 hfz8_7 hfz8_8 hfz8_9
        try clear p2
        try clear p6
        obtain ⟨kq, x29_11, rfl, HA, HJ11, BK113, HB⟩ := hcut
        cases kq with
        | zero => exact absurd HA.out (by simp [lcp_more.j1])
        | succ kj11 =>
         have H := HA.out
         clear HA
         simp only [lcp_more.j1] at H
         by_cases c15 : x29_11 = true
         · subst c15
           have H1 : (some true) = some r := by rw [if_pos rfl] at H; exact H
           clear H
           have H := H1
           clear H1
           obtain rfl := Option.some.inj H
           go_wp2
           go_ret
           exact ⟨by first | rfl | (simp [errW_none, errW_some] <;> rfl) | (simp [*, errW_none, errW_some] <;> rfl), by repeat (first | (with_reducible first | exact HB.out | apply below_alloc | apply pw_below_drewN | apply below_drew1 | refine below_set ?_ GE113.out) | exact HB.out)⟩
         · replace c15 := Bool.eq_false_iff.mpr c15
           subst c15
           have H1 : (if t114 = 2 then (lcp_more.j2 kj11 t114 false a0_0 a0_1 a0_2 l0_3 a0_4 a0_5 l0_6 l0_7 l0_8 l0_9) else (lcp_more.j2 kj11 t114 (a0_4 != 0) a0_0 a0_1 a0_2 l0_3 a0_4 a0_5 l0_6 l0_7 l0_8 l0_9)) = some r := by rw [if_neg (show ¬ (false = true) by decide)] at H; exact H
           clear H
           have H := H1
           clear H1
           have HC16 := Aside0.mk H
           clear H
           go_upto_region 6 with (fail)
           go_cut [38] (fun v38 wc => ∃ (kq : Nat) (x38_15 : Bool), v38 = .bool x38_15 ∧ Aside0 (lcp_more.j2 kq t114 x38_15 a0_0 a0_1 a0_2 l0_3 a0_4 a0_5 l0_6 l0_7 l0_8 l0_9 = some r) ∧ Aside0 (kq ≤ kj11) ∧ Aside0 (wc.heap[gb113]? = some (.cells #[.int .u16 a0_0, .int .u8 a0_1, .int .u8 a0_2, (.slice A0_3 l0_3.length c0_3), .int .u16 a0_4, .int .u32 a0_5, (.slice A0_6 l0_6.length c0_6), (.slice A0_7 l0_7.length c0_7), (.slice A0_8 l0_8.length c0_8), (.slice A0_9 l0_9.length c0_9)] 29 (0, 0))) ∧ Aside0 (Below w.heap.size w wc))
           case first =>
            have H := HC16.out
            clear HC16
            by_cases c17 : t114 = 2
            · rw [if_pos c17] at H
              have c17b0 : (t114 == 2) = true := beq_iff_eq.mpr c17
              have c17b1 : (t114 != 2) = false := bne_eq_false_iff_eq.mpr c17
              clear c17
              (first | rw [c17b0] | (simp only [i64_w, i32_w]; rw [c17b0]) | skip)
              have H' := Aside0.mk H
              clear H
              go_wp2
              go_meet
              case rel => exact ⟨_, (false), (by first | rfl | (simp; done) | (simp [*]; done)), H', ⟨by have := HJ5.out; have := HJ11.out; first | omega | exact Nat.le_refl _⟩, ⟨by (with_reducible repeat (first | refine blk_drewN ?_ _ | refine blk_drew ?_ | refine blk_alloc ?_ _)); exact BK113.out⟩, ⟨by repeat (first | (with_reducible first | exact HB.out | apply below_alloc | apply pw_below_drewN | apply below_drew1 | refine below_set ?_ GE113.out) | exact HB.out)⟩⟩
            · rw [if_neg c17] at H
              have c17b0 : (t114 == 2) = false := beq_eq_false_iff_ne.mpr c17
              have c17b1 : (t114 != 2) = true := bne_iff_ne.mpr c17
              (first | rw [c17b0] | (simp only [i64_w, i32_w]; rw [c17b0]) | skip)
              have H' := Aside0.mk H
              clear H
              obtain ⟨⟨hcz18_0, hcz18_1, hcz18_2, hcz18_3, hcz18_4, hcz18_5, hcz18_6, hcz18_7, hcz18_8, hcz18_9⟩, hfz18_0, hfz18_1, hfz18_2, hfz18_3, hfz18_4, hfz18_5, hfz18_6, hfz18_7, hfz18_8, hfz18_9⟩ := cz10 BK113.out
              go_wp2
              go_meet
              case rel => exact ⟨_, ((a0_4 != 0)), (by first | rfl | (simp; done) | (simp [*]; done)), H', ⟨by have := HJ5.out; have := HJ11.out; first | omega | exact Nat.le_refl _⟩, ⟨by (with_reducible repeat (first | refine blk_drewN ?_ _ | refine blk_drew ?_ | refine blk_alloc ?_ _)); exact BK113.out⟩, ⟨by repeat (first | (with_reducible first | exact HB.out | apply below_alloc | apply pw_below_drewN | apply below_drew1 | refine below_set ?_ GE113.out) | exact HB.out)⟩⟩
           case rest =>
            clear HC16
            try clear c1
            try clear p2
            try clear c3
            try clear c3b0
            try clear c6
            try clear p6
            try clear c9
            try clear c9b0
            try clear c9b1
            try clear c11
            try clear c13
            try clear c13b0
            try clear c13b1
            try clear c15
            try clear c17
            try clear c17b0
            try clear c17b1
            try clear hcz10_0 hcz10_1 hcz10_2 hcz10_3 hcz10_4 hcz10_5 hcz10_6 hcz10_7 hcz10_8 hcz10_9 hfz10_0 hfz10_1 hfz10_2 hfz10_3 hfz10_4 hfz10_5 hfz10_6 hfz10_7 hfz10_8 hfz10_9
            try clear hcz14_0 hcz14_1 hcz14_2 hcz14_3 hcz14_4 hcz14_5 hcz14_6 hcz14_7 hcz14_8 hcz14_9 hfz14_0 hfz14_1 hfz14_2 hfz14_3 hfz14_4 hfz14_5 hfz14_6 hfz14_7 hfz14_8 hfz14_9
            try clear hcz18_0 hcz18_1 hcz18_2 hcz18_3 hcz18_4 hcz18_5 hcz18_6 hcz18_7 hcz18_8 hcz18_9 hfz18_0 hfz18_1 hfz18_2 hfz18_3 hfz18_4 hfz18_5 hfz18_6 hfz18_7 hfz18_8 hfz18_9
            try clear hcz5_0 hcz5_1 hcz5_2 hcz5_3 hcz5_4 hcz5_5 hcz5_6 hcz5_7 hcz5_8 hcz5_9 hfz5_0 hfz5_1 hfz5_2 hfz5_3 hfz5_4 hfz5_5 hfz5_6 hfz5_7 hfz5_8 hfz5_9
            try clear hcz8_0 hcz8_1 hcz8_2 hcz8_3 hcz8_4 hcz8_5 hcz8_6 hcz8_7 hcz8_8 hcz8_9 hfz8_0 hfz8_1 hfz8_2 hfz8_3 hfz8_4 hfz8_5 hfz8_6 hfz8_7 hfz8_8 hfz8_9
            try clear p2
            try clear p6
            obtain ⟨kq, x38_15, rfl, HA, HJ15, BK113, HB⟩ := hcut
            cases kq with
            | zero => exact absurd HA.out (by simp [lcp_more.j2])
            | succ kj15 =>
             have H := HA.out
             clear HA
             simp only [lcp_more.j2] at H
             by_cases c19 : x38_15 = true
             · subst c19
               have H1 : (some true) = some r := by rw [if_pos rfl] at H; exact H
               clear H
               have H := H1
               clear H1
               obtain rfl := Option.some.inj H
               go_wp2
               go_ret
               exact ⟨by first | rfl | (simp [errW_none, errW_some] <;> rfl) | (simp [*, errW_none, errW_some] <;> rfl), by repeat (first | (with_reducible first | exact HB.out | apply below_alloc | apply pw_below_drewN | apply below_drew1 | refine below_set ?_ GE113.out) | exact HB.out)⟩
             · replace c19 := Bool.eq_false_iff.mpr c19
               subst c19
               have H1 : (if t114 = 3 then (some false) else (if a0_5 = 0 then (some false) else (some true))) = some r := by rw [if_neg (show ¬ (false = true) by decide)] at H; exact H
               clear H
               have H := H1
               clear H1
               by_cases c20 : t114 = 3
               · rw [if_pos c20] at H
                 have c20b0 : (t114 == 3) = true := beq_iff_eq.mpr c20
                 have c20b1 : (t114 != 3) = false := bne_eq_false_iff_eq.mpr c20
                 clear c20
                 obtain rfl := Option.some.inj H
                 go_wp2
                 go_ret
                 exact ⟨by first | rfl | (simp [errW_none, errW_some] <;> rfl) | (simp [*, errW_none, errW_some] <;> rfl), by repeat (first | (with_reducible first | exact HB.out | apply below_alloc | apply pw_below_drewN | apply below_drew1 | refine below_set ?_ GE113.out) | exact HB.out)⟩
               · rw [if_neg c20] at H
                 have c20b0 : (t114 == 3) = false := beq_eq_false_iff_ne.mpr c20
                 have c20b1 : (t114 != 3) = true := bne_iff_ne.mpr c20
                 by_cases c21 : a0_5 = 0
                 · rw [if_pos c21] at H
                   have c21b0 : (a0_5 == 0) = true := beq_iff_eq.mpr c21
                   have c21b1 : (a0_5 != 0) = false := bne_eq_false_iff_eq.mpr c21
                   clear c21
                   obtain rfl := Option.some.inj H
                   obtain ⟨⟨hcz22_0, hcz22_1, hcz22_2, hcz22_3, hcz22_4, hcz22_5, hcz22_6, hcz22_7, hcz22_8, hcz22_9⟩, hfz22_0, hfz22_1, hfz22_2, hfz22_3, hfz22_4, hfz22_5, hfz22_6, hfz22_7, hfz22_8, hfz22_9⟩ := cz10 BK113.out
                   go_wp2
                   go_ret
                   exact ⟨by first | rfl | (simp [errW_none, errW_some] <;> rfl) | (simp [*, errW_none, errW_some] <;> rfl), by repeat (first | (with_reducible first | exact HB.out | apply below_alloc | apply pw_below_drewN | apply below_drew1 | refine below_set ?_ GE113.out) | exact HB.out)⟩
                 · rw [if_neg c21] at H
                   have c21b0 : (a0_5 == 0) = false := beq_eq_false_iff_ne.mpr c21
                   have c21b1 : (a0_5 != 0) = true := bne_iff_ne.mpr c21
                   obtain rfl := Option.some.inj H
                   obtain ⟨⟨hcz23_0, hcz23_1, hcz23_2, hcz23_3, hcz23_4, hcz23_5, hcz23_6, hcz23_7, hcz23_8, hcz23_9⟩, hfz23_0, hfz23_1, hfz23_2, hfz23_3, hfz23_4, hfz23_5, hfz23_6, hfz23_7, hfz23_8, hfz23_9⟩ := cz10 BK113.out
                   go_wp2
                   go_ret
                   exact ⟨by first | rfl | (simp [errW_none, errW_some] <;> rfl) | (simp [*, errW_none, errW_some] <;> rfl), by repeat (first | (with_reducible first | exact HB.out | apply below_alloc | apply pw_below_drewN | apply below_drew1 | refine below_set ?_ GE113.out) | exact HB.out)⟩
end Go.Proofs.YteanncchmenlkaaDoor.Print
namespace Go.Proofs.YteanncchmenlkaaDoor.Print
open Go.RowKit Go.Proofs.YteanncchmenlkaaDoorW.PrintWords Go.Proofs.YteanncchmenlkaaDoorW.PrintLast Go.Proofs.YteanncchmenlkaaDoorW.PrintMore
attribute [local go_sem] max2_int min2_int max_two min_two max_three min_three max_four min_four
set_option linter.unusedVariables false
set_option linter.unusedSimpArgs false
def opts_Put.f (a0 : Int) (l1 : List S62) : Option (List Int × Int) := none
theorem opts_Put.calls (a0 : Int) (A1 : Option Addr) (c1 : Nat) (l1 : List S62) (r1 : List Int) (r2 : Int) (w : World) (hr1 : Kd.C k62 w A1 l1.length l1) (hc1 : l1.length ≤ c1) (h : opts_Put.f a0 l1 = some (r1, r2)) :
 Calls Tryd.prog 64 #[.int .u16 a0, .slice A1 l1.length c1] w fun e w' => ∃ v1_ : Value, e = .returned (.tuple #[v1_, .int .i64 r2]) ∧ Kd.R (Kd.int .u8) 5 w' w.heap.size (fun _ => True) v1_ r1 ∧ Below w.heap.size w w' := by
 unfold opts_Put.f at h
 exact absurd h (by simp)
end Go.Proofs.YteanncchmenlkaaDoor.Print
