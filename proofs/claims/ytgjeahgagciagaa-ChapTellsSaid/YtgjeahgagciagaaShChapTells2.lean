/- Texts of this claim, several in one, told shortly by a program of this claim (wip/x/shrink.py): what Go functions come to, and plain words on it. -/
import Derived.Test.YtgjeahgagciagaaProg
import Derived.WalkSpells
import Derived.Lib.SlBytesConst
import Derived.Below
import Derived.Deep.Draws
import Derived.Deep.AppendLies
import Derived.Maps.AppendAt
import Derived.OwnWalk
import Derived.Laws.BytesArg
import Derived.Laws.MakeOwn
import Derived.Laws.OwnMore
import Derived.Deep.OwnRows
import Derived.Tactics
import Derived.Lib.ConvBytes
import Derived.Laws.Slices
import Derived.WalkKit
import Derived.KernelRfl
import Derived.RowKit3
import Derived.Deep.LoopGhost
import Derived.Deep.QuietTactic
import Derived.BigQuiet
import Derived.WideLaws
import Derived.Deep.DeepCutAuto
import Derived.Deep.CutBlock
import Derived.Deep.RegionHeld3
import Derived.Laws.Rows
import Derived.Lib.AppendStr
import Derived.ArgAppend
import Derived.Laws.IdiomCopy
import Derived.OrdersHeld
import Derived.Laws.BitsLemmas
import Derived.RowKit
import Derived.Test.YtgjeahgagciagaaShChapTells1
namespace Go.Proofs.Ytgjeahgagciagaa.Print
open Go.RowKit Go.Proofs.YtgjeahgagciagaaW.PrintWords Go.Proofs.YtgjeahgagciagaaW.PrintLast Go.Proofs.YtgjeahgagciagaaW.PrintMore
attribute [local go_sem] max2_int min2_int max_two min_two max_three min_three max_four min_four
set_option linter.unusedVariables false
set_option linter.unusedSimpArgs false
def errW : Option Int → Value
 | none => .nilIface
 | some c => .iface 0 (.int .i64 c)
theorem errW_none : errW none = .nilIface := rfl
theorem errW_some (c : Int) : errW (some c) = .iface 0 (.int .i64 c) := rfl
namespace XRow
variable {H : Type} {enc : TypeId × Value → H} {P : Program} {w : World} {α : Type}
def Opens (enc : TypeId × Value → H) (P : Program) (w : World) (t : TypeId) (d : Kd α) (wf : α → Prop) : Prop :=
 ∀ fuel cs x, DataW.trod enc P w 0 (fun _ => true) true fuel t cs = some x → (∀ n ∈ x.1.weights P t, n ≤ reachBytes) → ∃ a, d.K w a cs ∧ wf a
theorem opens_int {t : TypeId} {k : IntKind} (ht : P.underlying t = some (.int k)) : Opens enc P w t (Kd.int k) (fun n => (Lit.int k n).wf = true) := by
 intro fuel cs x hx _
 obtain ⟨n, rfl, _, hw⟩ := DataW.trod_int ht hx
 exact ⟨n, rfl, hw⟩
theorem cells_at {a : Addr} {n : Nat} {cs : List Value} (h : w.cells? 0 a n = some cs) : cs.length = n ∧ ∀ i u, cs[i]? = some u → w.cell? (a.add i) = some u := by
 obtain ⟨_, hlen, hc⟩ := World.cells?_some h
 refine ⟨hlen, fun i u hu => ?_⟩
 have hi : i < n := by rw [← hlen]; exact (List.getElem?_eq_some_iff.1 hu).1
 rw [← hu]
 exact hc i hi
theorem weights_all {e : TypeId} : ∀ {ds : List (DataW H)} {d : DataW H}, d ∈ ds → ∀ n ∈ d.weights P e, n ∈ DataW.weightsAll P e ds
 | [], _, h, _, _ => by simp at h
 | _ :: ds, d, h, n, hn => by
  simp only [DataW.weightsAll, List.mem_append]
  rcases List.mem_cons.1 h with rfl | h
  · exact Or.inl hn
  · exact Or.inr (weights_all h n hn)
theorem opens_slice {t e : TypeId} {d : Kd α} {wf : α → Prop} (ht : P.underlying t = some (.slice e)) (hC : P.cellsOf e = d.sz) {B : Nat} (hB : P.bytesOf e = B) (hE : Opens enc P w e d wf) :
 Opens enc P w t (Kd.slice e d) (fun l => (l.length ≤ 9223372036854775807 ∧ l.length * B ≤ 140737488351232) ∧ ∀ y ∈ l, wf y) := by
 intro fuel cs x hx hz
 rcases DataW.trod_slice ht hx with ⟨rfl, _⟩ | ⟨a, len, cap, elems, rest, n, _, rfl, he, _, hl, hm, hlen, hel, _, _⟩
 · exact ⟨[], ⟨none, 0, rfl, Nat.le_refl _, Kd.C_nil d w⟩, by simp, by simp⟩
 have hm' : cap ≤ 9223372036854775807 := by simpa [maxLen] using hm
 subst he
 simp only [DataW.weights, ht, List.mem_cons, List.mem_append] at hz
 have hB' : len * B ≤ 140737488351232 := by
  have h1 := hz _ (Or.inl rfl)
  rw [hB, List.length_map, hlen] at h1
  exact Nat.le_trans (Nat.mul_le_mul_right _ (Nat.le_add_right _ _)) h1
 have key : ∀ i, i < len → ∃ y, ∃ c, w.cells? 0 (a.add (i * d.sz)) d.sz = some c ∧ d.K w y c ∧ wf y := by
  intro i hi
  have h := hel i hi
  rw [hC, List.getElem?_eq_getElem (by omega)] at h
  obtain ⟨c, hc, ht⟩ := Option.bind_eq_some_iff.1 h
  obtain ⟨y, hk, hw⟩ := hE n c _ ht (fun m hm => hz m (Or.inr (Or.inl (weights_all (List.mem_map.2 ⟨_, List.getElem_mem _, rfl⟩) m hm))))
  exact ⟨y, c, hc, hk, hw⟩
 have hf : ∃ f : (i : Nat) → i < len → α, ∀ i (hi : i < len), ∃ c, w.cells? 0 (a.add (i * d.sz)) d.sz = some c ∧ d.K w (f i hi) c ∧ wf (f i hi) :=
  ⟨fun i hi => Classical.choose (key i hi), fun i hi => Classical.choose_spec (key i hi)⟩
 obtain ⟨f, hf⟩ := hf
 have hll : (List.ofFn (fun i : Fin len => f i.1 i.2)).length = len := by simp
 refine ⟨List.ofFn (fun i : Fin len => f i.1 i.2), ⟨some a, cap, by rw [hll], by rw [hll]; exact hl, rfl, by rw [hll]; omega, fun _ => ⟨a, rfl, fun j p hj => ?_⟩⟩, ⟨by rw [hll]; omega, by rw [hll]; exact hB'⟩, fun y hy => ?_⟩
 · obtain ⟨hj1, hj2⟩ := List.getElem?_eq_some_iff.1 hj
   rw [hll] at hj1
   have e : f j hj1 = p := by rw [← hj2]; simp
   obtain ⟨c, hc, hk, _⟩ := hf j hj1
   obtain ⟨hcl, hcc⟩ := cells_at hc
   refine ⟨c, hcl, e ▸ hk, fun i u hu => ?_⟩
   have h := hcc i u hu
   rwa [add_add] at h
 · obtain ⟨⟨i, hi⟩, rfl⟩ := List.mem_ofFn.1 hy
   obtain ⟨_, _, _, hw⟩ := hf i hi
   exact hw
theorem field_weights {t : TypeId} {fs : Array Field} {xs : List (DataW H × List MemPlace)} (ht : P.underlying t = some (.struct fs)) (hz : ∀ n ∈ (DataW.agg (xs.map (·.1))).weights P t, n ≤ reachBytes) {j : Nat} {f : Field} {x : DataW H × List MemPlace} (hf : fs[j]? = some f) (hx : xs[j]? = some x) : ∀ n ∈ x.1.weights P f.type, n ≤ reachBytes := by
 intro n hn
 refine hz n ?_
 simp only [DataW.weights, ht]
 exact DataW.weights_mem_each (j := j) (by simp [hf]) (by simp [hx]) n hn
theorem arg_weights {ts : List TypeId} {ds : List (DataW H)} (hsz : (DataW.weightsEach P ts ds).all (· ≤ reachBytes) = true) {j : Nat} {t : TypeId} {d : DataW H} (ht : ts[j]? = some t) (hd : ds[j]? = some d) : ∀ n ∈ d.weights P t, n ≤ reachBytes :=
 fun n hn => by simpa using List.all_eq_true.1 hsz n (DataW.weights_mem_each ht hd n hn)
theorem seg (cs : List Value) (o s : Nat) : cs.drop o = (cs.drop o).take s ++ cs.drop (o + s) := by rw [← List.drop_drop, List.take_append_drop]
theorem seg_last {cs : List Value} {o s : Nat} (h : cs.length = o + s) : cs.drop o = (cs.drop o).take s := by rw [List.take_of_length_le]; rw [List.length_drop]; omega
end XRow
theorem info5 : (Try.prog.info? 5).map (fun i => (i.zero, i.size, i.bytes)) = some (some (.int .u8 0), 1, 1) := by kernel_rfl
theorem info56 : (Try.prog.info? 56).map (fun i => (i.zero, i.size, i.bytes)) = some (some (.agg #[(.int .u8 0), (.slice none 0 0)]), 2, 32) := by kernel_rfl
theorem info57 : (Try.prog.info? 57).map (fun i => (i.zero, i.size, i.bytes)) = some (some (.agg #[(.int .u8 0), (.slice none 0 0)]), 2, 32) := by kernel_rfl
def rd_L1 (xs : List (List Int)) (i : Int) : (List Int) := xs.getD i.toNat ([] : List Int)
theorem at_L1 {w : World} {A : Option Addr} {n : Nat} {xs : List (List Int)} (h : Kd.C (Kd.slice 5 (Kd.int .u8)) w A n xs) (i : Int) (h0 : 0 ≤ i) (h1 : i < n) : ∃ ad A0 c0, A = some ad ∧ w.cell? (ad.add i.toNat) = some (.slice A0 (rd_L1 xs i).length c0) ∧ (rd_L1 xs i).length ≤ c0 ∧ (Kd.int .u8).C w A0 (rd_L1 xs i).length (rd_L1 xs i) := by
 obtain ⟨ad, c, e, _, hK, hc0⟩ := Kd.C_get h ([] : List Int) i h0 h1
 have hc : ∀ j u, c[j]? = some u → w.cell? (ad.add (i.toNat * 1 + j)) = some u := hc0
 obtain ⟨A0, c0, rfl, l0, g0⟩ := hK
 exact ⟨ad, A0, c0, e, by have hq := hc 0 _ rfl; rwa [Nat.mul_one, Nat.add_zero] at hq, l0, g0⟩
structure S57 where
 f0 : Int
 f1 : (List Int)
def z57 : S57 := ⟨(0 : Int), ([] : List Int)⟩
def k57 : Kd S57 := Kd.iso (Kd.pair (Kd.int .u8) (Kd.slice 5 (Kd.int .u8))) (fun x : S57 => (x.f0, x.f1))
theorem k57_open {w : World} {x : S57} {cs : List Value} (h : k57.K w x cs) : ∃ A1 c1, cs = [.int .u8 x.f0, .slice A1 x.f1.length c1] ∧ x.f1.length ≤ c1 ∧ (Kd.int .u8).C w A1 x.f1.length x.f1 := by
 obtain ⟨_, _, rfl, rfl, ⟨A1, c1, rfl, l1, g1⟩⟩ := h
 exact ⟨A1, c1, rfl, l1, g1⟩
theorem k57_mk (w : World) (x : S57) {A1 : Option Addr} {c1 : Nat} (l1 : x.f1.length ≤ c1) (g1 : (Kd.int .u8).C w A1 x.f1.length x.f1) : k57.K w x [.int .u8 x.f0, .slice A1 x.f1.length c1] := ⟨[.int .u8 x.f0], [.slice A1 x.f1.length c1], rfl, rfl, ⟨A1, c1, rfl, l1, g1⟩⟩
theorem k57_openF {W : World} {ok : Nat → Prop} {x : S57} {cs : List Value} (h : Kd.FK k57 W ok x cs) : ∃ A1 c1, cs = [.int .u8 x.f0, .slice A1 x.f1.length c1] ∧ x.f1.length ≤ c1 ∧ Kd.F (Kd.int .u8) W ok A1 x.f1.length x.f1 := by
 obtain ⟨A1, c1, rfl, l1, _⟩ := k57_open (Kd.FK_now h)
 exact ⟨A1, c1, rfl, l1, (fun W' hW => by obtain ⟨A1_, c1_, he, l1_, g1_⟩ := k57_open (h W' hW); injection (Option.some.inj (show some (Value.slice A1 x.f1.length c1) = some (Value.slice A1_ x.f1.length c1_) from congrArg (fun l => l[1]?) he)) with ha_ _ _; rw [ha_]; exact g1_)⟩
theorem k57_mkF (W : World) (ok : Nat → Prop) (x : S57) {A1 : Option Addr} {c1 : Nat} (l1 : x.f1.length ≤ c1) (g1 : Kd.F (Kd.int .u8) W ok A1 x.f1.length x.f1) : Kd.FK k57 W ok x [.int .u8 x.f0, .slice A1 x.f1.length c1] := fun W2 hW => k57_mk W2 x l1 (g1 W2 hW)
def rd_T57 (xs : List S57) (i : Int) : S57 := xs.getD i.toNat z57
theorem at_T57 {w : World} {A : Option Addr} {n : Nat} {xs : List S57} (h : Kd.C k57 w A n xs) (i : Int) (h0 : 0 ≤ i) (h1 : i < n) : ∃ ad A1 c1, A = some ad ∧ w.cell? (ad.add (i.toNat * 2)) = some (.int .u8 (rd_T57 xs i).f0) ∧ w.cell? ⟨(ad.add (i.toNat * 2)).block, (ad.add (i.toNat * 2)).off + 1, none⟩ = some (.slice A1 (rd_T57 xs i).f1.length c1) ∧ (rd_T57 xs i).f1.length ≤ c1 ∧ (Kd.int .u8).C w A1 (rd_T57 xs i).f1.length (rd_T57 xs i).f1 := by
 obtain ⟨ad, c, e, _, hK, hc0⟩ := Kd.C_get h z57 i h0 h1
 have hc : ∀ j u, c[j]? = some u → w.cell? (ad.add (i.toNat * 2 + j)) = some u := hc0
 obtain ⟨A1, c1, rfl, l1, g1⟩ := k57_open hK
 exact ⟨ad, A1, c1, e, hc 0 _ rfl, by rw [← add_field _ _ 1 (by omega)]; exact hc 1 _ rfl, l1, g1⟩
structure S56 where
 f0 : Int
 f1 : (List Int)
def z56 : S56 := ⟨(0 : Int), ([] : List Int)⟩
def k56 : Kd S56 := Kd.iso (Kd.pair (Kd.int .u8) (Kd.slice 5 (Kd.int .u8))) (fun x : S56 => (x.f0, x.f1))
theorem k56_heap : Kd.Heap k56 := Kd.heap_iso _ (Kd.heap_pair (Kd.heap_int .u8) (Kd.heap_slice 5 (Kd.heap_int .u8)))
theorem k56_open {w : World} {x : S56} {cs : List Value} (h : k56.K w x cs) : ∃ A1 c1, cs = [.int .u8 x.f0, .slice A1 x.f1.length c1] ∧ x.f1.length ≤ c1 ∧ (Kd.int .u8).C w A1 x.f1.length x.f1 := by
 obtain ⟨_, _, rfl, rfl, ⟨A1, c1, rfl, l1, g1⟩⟩ := h
 exact ⟨A1, c1, rfl, l1, g1⟩
theorem k56_mk (w : World) (x : S56) {A1 : Option Addr} {c1 : Nat} (l1 : x.f1.length ≤ c1) (g1 : (Kd.int .u8).C w A1 x.f1.length x.f1) : k56.K w x [.int .u8 x.f0, .slice A1 x.f1.length c1] := ⟨[.int .u8 x.f0], [.slice A1 x.f1.length c1], rfl, rfl, ⟨A1, c1, rfl, l1, g1⟩⟩
theorem k56_openF {W : World} {ok : Nat → Prop} {x : S56} {cs : List Value} (h : Kd.FK k56 W ok x cs) : ∃ A1 c1, cs = [.int .u8 x.f0, .slice A1 x.f1.length c1] ∧ x.f1.length ≤ c1 ∧ Kd.F (Kd.int .u8) W ok A1 x.f1.length x.f1 := by
 obtain ⟨A1, c1, rfl, l1, _⟩ := k56_open (Kd.FK_now h)
 exact ⟨A1, c1, rfl, l1, (fun W' hW => by obtain ⟨A1_, c1_, he, l1_, g1_⟩ := k56_open (h W' hW); injection (Option.some.inj (show some (Value.slice A1 x.f1.length c1) = some (Value.slice A1_ x.f1.length c1_) from congrArg (fun l => l[1]?) he)) with ha_ _ _; rw [ha_]; exact g1_)⟩
theorem k56_mkF (W : World) (ok : Nat → Prop) (x : S56) {A1 : Option Addr} {c1 : Nat} (l1 : x.f1.length ≤ c1) (g1 : Kd.F (Kd.int .u8) W ok A1 x.f1.length x.f1) : Kd.FK k56 W ok x [.int .u8 x.f0, .slice A1 x.f1.length c1] := fun W2 hW => k56_mk W2 x l1 (g1 W2 hW)
def rd_T56 (xs : List S56) (i : Int) : S56 := xs.getD i.toNat z56
theorem at_T56 {w : World} {A : Option Addr} {n : Nat} {xs : List S56} (h : Kd.C k56 w A n xs) (i : Int) (h0 : 0 ≤ i) (h1 : i < n) : ∃ ad A1 c1, A = some ad ∧ w.cell? (ad.add (i.toNat * 2)) = some (.int .u8 (rd_T56 xs i).f0) ∧ w.cell? ⟨(ad.add (i.toNat * 2)).block, (ad.add (i.toNat * 2)).off + 1, none⟩ = some (.slice A1 (rd_T56 xs i).f1.length c1) ∧ (rd_T56 xs i).f1.length ≤ c1 ∧ (Kd.int .u8).C w A1 (rd_T56 xs i).f1.length (rd_T56 xs i).f1 := by
 obtain ⟨ad, c, e, _, hK, hc0⟩ := Kd.C_get h z56 i h0 h1
 have hc : ∀ j u, c[j]? = some u → w.cell? (ad.add (i.toNat * 2 + j)) = some u := hc0
 obtain ⟨A1, c1, rfl, l1, g1⟩ := k56_open hK
 exact ⟨ad, A1, c1, e, hc 0 _ rfl, by rw [← add_field _ _ 1 (by omega)]; exact hc 1 _ rfl, l1, g1⟩
structure S44 where
 f0 : Int
 f1 : Int
 f2 : Int
 f3 : (List S56)
 f4 : Int
 f5 : Int
 f6 : (List Int)
 f7 : (List Int)
 f8 : (List Int)
 f9 : (List Int)
def k44 : Kd S44 := Kd.iso (Kd.pair (Kd.int .u16) (Kd.pair (Kd.int .u8) (Kd.pair (Kd.int .u8) (Kd.pair (Kd.slice 56 k56) (Kd.pair (Kd.int .u16) (Kd.pair (Kd.int .u32) (Kd.pair (Kd.slice 5 (Kd.int .u8)) (Kd.pair (Kd.slice 5 (Kd.int .u8)) (Kd.pair (Kd.slice 5 (Kd.int .u8)) (Kd.slice 41 (Kd.int .u32))))))))))) (fun x : S44 => (x.f0, x.f1, x.f2, x.f3, x.f4, x.f5, x.f6, x.f7, x.f8, x.f9))
theorem k44_open {w : World} {x : S44} {cs : List Value} (h : k44.K w x cs) : ∃ A3 c3 A6 c6 A7 c7 A8 c8 A9 c9, cs = [.int .u16 x.f0, .int .u8 x.f1, .int .u8 x.f2, .slice A3 x.f3.length c3, .int .u16 x.f4, .int .u32 x.f5, .slice A6 x.f6.length c6, .slice A7 x.f7.length c7, .slice A8 x.f8.length c8, .slice A9 x.f9.length c9] ∧ x.f3.length ≤ c3 ∧ k56.C w A3 x.f3.length x.f3 ∧ x.f6.length ≤ c6 ∧ (Kd.int .u8).C w A6 x.f6.length x.f6 ∧ x.f7.length ≤ c7 ∧ (Kd.int .u8).C w A7 x.f7.length x.f7 ∧ x.f8.length ≤ c8 ∧ (Kd.int .u8).C w A8 x.f8.length x.f8 ∧ x.f9.length ≤ c9 ∧ (Kd.int .u32).C w A9 x.f9.length x.f9 := by
 obtain ⟨_, _, rfl, rfl, ⟨_, _, rfl, rfl, ⟨_, _, rfl, rfl, ⟨_, _, rfl, ⟨A3, c3, rfl, l3, g3⟩, ⟨_, _, rfl, rfl, ⟨_, _, rfl, rfl, ⟨_, _, rfl, ⟨A6, c6, rfl, l6, g6⟩, ⟨_, _, rfl, ⟨A7, c7, rfl, l7, g7⟩, ⟨_, _, rfl, ⟨A8, c8, rfl, l8, g8⟩, ⟨A9, c9, rfl, l9, g9⟩⟩⟩⟩⟩⟩⟩⟩⟩⟩ := h
 exact ⟨A3, c3, A6, c6, A7, c7, A8, c8, A9, c9, rfl, l3, g3, l6, g6, l7, g7, l8, g8, l9, g9⟩
theorem cz2 {w : World} {g t : Nat} {v0 v1 : Value} (h : w.heap[g]? = some (.cells #[v0, v1] t (0, 0))) : (w.cell? ⟨g, 0, none⟩ = some v0 ∧ w.cell? ⟨g, 1, none⟩ = some v1) ∧ w.frozen? ⟨g, 0, none⟩ = false ∧ w.frozen? ⟨g, 1, none⟩ = false :=
 ⟨⟨(blk_cell h 0).trans rfl, (blk_cell h 1).trans rfl⟩, blk_frozen h 0, blk_frozen h 1⟩
theorem cz10 {w : World} {g t : Nat} {v0 v1 v2 v3 v4 v5 v6 v7 v8 v9 : Value} (h : w.heap[g]? = some (.cells #[v0, v1, v2, v3, v4, v5, v6, v7, v8, v9] t (0, 0))) : (w.cell? ⟨g, 0, none⟩ = some v0 ∧ w.cell? ⟨g, 1, none⟩ = some v1 ∧ w.cell? ⟨g, 2, none⟩ = some v2 ∧ w.cell? ⟨g, 3, none⟩ = some v3 ∧ w.cell? ⟨g, 4, none⟩ = some v4 ∧ w.cell? ⟨g, 5, none⟩ = some v5 ∧ w.cell? ⟨g, 6, none⟩ = some v6 ∧ w.cell? ⟨g, 7, none⟩ = some v7 ∧ w.cell? ⟨g, 8, none⟩ = some v8 ∧ w.cell? ⟨g, 9, none⟩ = some v9) ∧ w.frozen? ⟨g, 0, none⟩ = false ∧ w.frozen? ⟨g, 1, none⟩ = false ∧ w.frozen? ⟨g, 2, none⟩ = false ∧ w.frozen? ⟨g, 3, none⟩ = false ∧ w.frozen? ⟨g, 4, none⟩ = false ∧ w.frozen? ⟨g, 5, none⟩ = false ∧ w.frozen? ⟨g, 6, none⟩ = false ∧ w.frozen? ⟨g, 7, none⟩ = false ∧ w.frozen? ⟨g, 8, none⟩ = false ∧ w.frozen? ⟨g, 9, none⟩ = false :=
 ⟨⟨(blk_cell h 0).trans rfl, (blk_cell h 1).trans rfl, (blk_cell h 2).trans rfl, (blk_cell h 3).trans rfl, (blk_cell h 4).trans rfl, (blk_cell h 5).trans rfl, (blk_cell h 6).trans rfl, (blk_cell h 7).trans rfl, (blk_cell h 8).trans rfl, (blk_cell h 9).trans rfl⟩, blk_frozen h 0, blk_frozen h 1, blk_frozen h 2, blk_frozen h 3, blk_frozen h 4, blk_frozen h 5, blk_frozen h 6, blk_frozen h 7, blk_frozen h 8, blk_frozen h 9⟩
end Go.Proofs.Ytgjeahgagciagaa.Print
namespace Go.Proofs.Ytgjeahgagciagaa.Print
open Go.RowKit Go.Proofs.YtgjeahgagciagaaW.PrintWords Go.Proofs.YtgjeahgagciagaaW.PrintLast Go.Proofs.YtgjeahgagciagaaW.PrintMore
attribute [local go_sem] max2_int min2_int max_two min_two max_three min_three max_four min_four
set_option linter.unusedVariables false
set_option linter.unusedSimpArgs false
mutual
def chap_Answers.j0 : Nat → Bool → Int → Int → Int → List (S57) → Int → Int → List Int → List Int → List Int → List Int → Int → Int → Int → List (S57) → Int → Int → List Int → List Int → List Int → List Int → Option (Bool)
 | 0, _, _, _, _, _, _, _, _, _, _, _, _, _, _, _, _, _, _, _, _, _ => none
 | k + 1, x19, x322000, x322001, x322002, x322003, x322004, x322005, x322006, x322007, x322008, x322009, x323000, x323001, x323002, x323003, x323004, x323005, x323006, x323007, x323008, x323009 => if x19 = true then (some false) else (if x322001 = 2 then (some (x323001 == 1)) else (if x322001 = 3 then (chap_Answers.j1 k (x322001 == 3) x323000 x323001 x323002 x323003 x323004 x323005 x323006 x323007 x323008 x323009) else (chap_Answers.j1 k (x322001 == 4) x323000 x323001 x323002 x323003 x323004 x323005 x323006 x323007 x323008 x323009)))
def chap_Answers.j1 : Nat → Bool → Int → Int → Int → List (S57) → Int → Int → List Int → List Int → List Int → List Int → Option (Bool)
 | 0, _, _, _, _, _, _, _, _, _, _, _ => none
 | k + 1, x27, x323000, x323001, x323002, x323003, x323004, x323005, x323006, x323007, x323008, x323009 => if x27 = true then (some (x323001 == 2)) else (some false)
end
def chap_Answers.f (k : Nat) (a0_0 : Int) (a0_1 : Int) (a0_2 : Int) (l0_3 : List (S57)) (a0_4 : Int) (a0_5 : Int) (l0_6 : List Int) (l0_7 : List Int) (l0_8 : List Int) (l0_9 : List Int) (a1_0 : Int) (a1_1 : Int) (a1_2 : Int) (l1_3 : List (S57)) (a1_4 : Int) (a1_5 : Int) (l1_6 : List Int) (l1_7 : List Int) (l1_8 : List Int) (l1_9 : List Int) : Option (Bool) := if a0_0 = 49699 then (if a1_0 = 49699 then (chap_Answers.j0 k (a0_2 != a1_2) a0_0 a0_1 a0_2 l0_3 a0_4 a0_5 l0_6 l0_7 l0_8 l0_9 a1_0 a1_1 a1_2 l1_3 a1_4 a1_5 l1_6 l1_7 l1_8 l1_9) else (chap_Answers.j0 k true a0_0 a0_1 a0_2 l0_3 a0_4 a0_5 l0_6 l0_7 l0_8 l0_9 a1_0 a1_1 a1_2 l1_3 a1_4 a1_5 l1_6 l1_7 l1_8 l1_9)) else (chap_Answers.j0 k true a0_0 a0_1 a0_2 l0_3 a0_4 a0_5 l0_6 l0_7 l0_8 l0_9 a1_0 a1_1 a1_2 l1_3 a1_4 a1_5 l1_6 l1_7 l1_8 l1_9)
set_option maxHeartbeats 8000000 in
set_option maxRecDepth 100000 in
theorem chap_Answers.calls (k : Nat) (a0_0 : Int) (a0_1 : Int) (a0_2 : Int) (A0_3 : Option Addr) (c0_3 : Nat) (l0_3 : List (S57)) (a0_4 : Int) (a0_5 : Int) (A0_6 : Option Addr) (c0_6 : Nat) (l0_6 : List Int) (A0_7 : Option Addr) (c0_7 : Nat) (l0_7 : List Int) (A0_8 : Option Addr) (c0_8 : Nat) (l0_8 : List Int) (A0_9 : Option Addr) (c0_9 : Nat) (l0_9 : List Int) (a1_0 : Int) (a1_1 : Int) (a1_2 : Int) (A1_3 : Option Addr) (c1_3 : Nat) (l1_3 : List (S57)) (a1_4 : Int) (a1_5 : Int) (A1_6 : Option Addr) (c1_6 : Nat) (l1_6 : List Int) (A1_7 : Option Addr) (c1_7 : Nat) (l1_7 : List Int) (A1_8 : Option Addr) (c1_8 : Nat) (l1_8 : List Int) (A1_9 : Option Addr) (c1_9 : Nat) (l1_9 : List Int) (r : Bool) (w : World) (hr0_3 : Kd.C k57 w A0_3 l0_3.length l0_3) (hc0_3 : l0_3.length ≤ c0_3) (hr0_6 : Kd.C (Kd.int .u8) w A0_6 l0_6.length l0_6) (hc0_6 : l0_6.length ≤ c0_6) (hr0_7 : Kd.C (Kd.int .u8) w A0_7 l0_7.length l0_7) (hc0_7 : l0_7.length ≤ c0_7) (hr0_8 : Kd.C (Kd.int .u8) w A0_8 l0_8.length l0_8) (hc0_8 : l0_8.length ≤ c0_8) (hr0_9 : Kd.C (Kd.int .u32) w A0_9 l0_9.length l0_9) (hc0_9 : l0_9.length ≤ c0_9) (hr1_3 : Kd.C k57 w A1_3 l1_3.length l1_3) (hc1_3 : l1_3.length ≤ c1_3) (hr1_6 : Kd.C (Kd.int .u8) w A1_6 l1_6.length l1_6) (hc1_6 : l1_6.length ≤ c1_6) (hr1_7 : Kd.C (Kd.int .u8) w A1_7 l1_7.length l1_7) (hc1_7 : l1_7.length ≤ c1_7) (hr1_8 : Kd.C (Kd.int .u8) w A1_8 l1_8.length l1_8) (hc1_8 : l1_8.length ≤ c1_8) (hr1_9 : Kd.C (Kd.int .u32) w A1_9 l1_9.length l1_9) (hc1_9 : l1_9.length ≤ c1_9) (h : chap_Answers.f k a0_0 a0_1 a0_2 l0_3 a0_4 a0_5 l0_6 l0_7 l0_8 l0_9 a1_0 a1_1 a1_2 l1_3 a1_4 a1_5 l1_6 l1_7 l1_8 l1_9 = some r) :
 Calls Try.prog 26 #[.agg #[.int .u16 a0_0, .int .u8 a0_1, .int .u8 a0_2, .slice A0_3 l0_3.length c0_3, .int .u16 a0_4, .int .u32 a0_5, .slice A0_6 l0_6.length c0_6, .slice A0_7 l0_7.length c0_7, .slice A0_8 l0_8.length c0_8, .slice A0_9 l0_9.length c0_9], .agg #[.int .u16 a1_0, .int .u8 a1_1, .int .u8 a1_2, .slice A1_3 l1_3.length c1_3, .int .u16 a1_4, .int .u32 a1_5, .slice A1_6 l1_6.length c1_6, .slice A1_7 l1_7.length c1_7, .slice A1_8 l1_8.length c1_8, .slice A1_9 l1_9.length c1_9]] w fun e w' => e = .returned (.bool r) ∧ Below w.heap.size w w' := by
 have hu47 := Try.underlying47
 have HR0_3 := Aside0.mk hr0_3
 have HC0_3 := Aside0.mk hc0_3
 clear hr0_3 hc0_3
 have HR0_6 := Aside0.mk hr0_6
 have HC0_6 := Aside0.mk hc0_6
 clear hr0_6 hc0_6
 have HR0_7 := Aside0.mk hr0_7
 have HC0_7 := Aside0.mk hc0_7
 clear hr0_7 hc0_7
 have HR0_8 := Aside0.mk hr0_8
 have HC0_8 := Aside0.mk hc0_8
 clear hr0_8 hc0_8
 have HR0_9 := Aside0.mk hr0_9
 have HC0_9 := Aside0.mk hc0_9
 clear hr0_9 hc0_9
 have HR1_3 := Aside0.mk hr1_3
 have HC1_3 := Aside0.mk hc1_3
 clear hr1_3 hc1_3
 have HR1_6 := Aside0.mk hr1_6
 have HC1_6 := Aside0.mk hc1_6
 clear hr1_6 hc1_6
 have HR1_7 := Aside0.mk hr1_7
 have HC1_7 := Aside0.mk hc1_7
 clear hr1_7 hc1_7
 have HR1_8 := Aside0.mk hr1_8
 have HC1_8 := Aside0.mk hc1_8
 clear hr1_8 hc1_8
 have HR1_9 := Aside0.mk hr1_9
 have HC1_9 := Aside0.mk hc1_9
 clear hr1_9 hc1_9
 have HB := Aside0.mk (Below.refl w.heap.size w)
 have H : (if a0_0 = 49699 then (if a1_0 = 49699 then (chap_Answers.j0 k (a0_2 != a1_2) a0_0 a0_1 a0_2 l0_3 a0_4 a0_5 l0_6 l0_7 l0_8 l0_9 a1_0 a1_1 a1_2 l1_3 a1_4 a1_5 l1_6 l1_7 l1_8 l1_9) else (chap_Answers.j0 k true a0_0 a0_1 a0_2 l0_3 a0_4 a0_5 l0_6 l0_7 l0_8 l0_9 a1_0 a1_1 a1_2 l1_3 a1_4 a1_5 l1_6 l1_7 l1_8 l1_9)) else (chap_Answers.j0 k true a0_0 a0_1 a0_2 l0_3 a0_4 a0_5 l0_6 l0_7 l0_8 l0_9 a1_0 a1_1 a1_2 l1_3 a1_4 a1_5 l1_6 l1_7 l1_8 l1_9)) = some r := h
 clear h
 have HC3 := Aside0.mk H
 clear H
 go_enter Try.func26, Try.ntmps26
 go_upto_region 1 with (first | ((with_reducible refine gate_dst (N := 2) rfl ?_); refine box_event ?hg (N := 2) ?hd (cs := #[.int .u16 a0_0, .int .u8 a0_1, .int .u8 a0_2, .slice A0_3 l0_3.length c0_3, .int .u16 a0_4, .int .u32 a0_5, .slice A0_6 l0_6.length c0_6, .slice A0_7 l0_7.length c0_7, .slice A0_8 l0_8.length c0_8, .slice A0_9 l0_9.length c0_9]) (t := 47) ?hr ?_; (case hd => rfl); (case hg => rfl); (case hr => first | (go_simp; done) | (go_simp; simp only [IntKind.wrap_u8, IntKind.wrap_u16, IntKind.wrap_u32, IntKind.wrap_u64]; done) | (go_simp; rfl)); intro gb321 hg w4 hbox hb; have n0_ := Aside0.mk (below_step (by repeat (first | (with_reducible first | exact HB.out | apply below_alloc | apply pw_below_drewN | apply below_drew1) | exact HB.out)) hb); have n1_ := Aside0.mk (hbox); have n2_ := Aside0.mk ((by rw [hg]; exact (below_size (by repeat (first | (with_reducible first | exact HB.out | apply below_alloc | apply pw_below_drewN | apply below_drew1) | exact HB.out))) : w.heap.size ≤ gb321)); have n3_ := Aside0.mk ((by rw [hg]; exact (below_size (by repeat (first | (with_reducible first | exact HB.out | apply below_alloc | apply pw_below_drewN | apply below_drew1) | exact HB.out))) : w.heap.size ≤ gb321)); clear HB; have HB := n0_; have BK321 := n1_; have GW321 := n2_; have GE321 := n3_; clear n0_ n1_ n2_ n3_; clear hb hbox hg) | ((with_reducible refine gate_dst (N := 3) rfl ?_); refine box_event ?hg (N := 3) ?hd (cs := #[.int .u16 a1_0, .int .u8 a1_1, .int .u8 a1_2, .slice A1_3 l1_3.length c1_3, .int .u16 a1_4, .int .u32 a1_5, .slice A1_6 l1_6.length c1_6, .slice A1_7 l1_7.length c1_7, .slice A1_8 l1_8.length c1_8, .slice A1_9 l1_9.length c1_9]) (t := 47) ?hr ?_; (case hd => rfl); (case hg => rfl); (case hr => first | (go_simp; done) | (go_simp; simp only [IntKind.wrap_u8, IntKind.wrap_u16, IntKind.wrap_u32, IntKind.wrap_u64]; done) | (go_simp; rfl)); intro gb322 hg w5 hbox hb; have n0_ := Aside0.mk (blk_below (g := gb321) (o := .cells #[.int .u16 a0_0, .int .u8 a0_1, .int .u8 a0_2, .slice A0_3 l0_3.length c0_3, .int .u16 a0_4, .int .u32 a0_5, .slice A0_6 l0_6.length c0_6, .slice A0_7 l0_7.length c0_7, .slice A0_8 l0_8.length c0_8, .slice A0_9 l0_9.length c0_9] 47 (0, 0)) (by (with_reducible repeat (first | refine blk_drewN ?_ _ | refine blk_drew ?_ | refine blk_alloc ?_ _)); exact BK321.out) hb); have n1_ := Aside0.mk (below_step (by repeat (first | (with_reducible first | exact HB.out | apply below_alloc | apply pw_below_drewN | apply below_drew1 | refine below_set ?_ GE321.out) | exact HB.out)) hb); have n2_ := Aside0.mk (hbox); have n3_ := Aside0.mk ((by rw [hg]; exact (below_size (by repeat (first | (with_reducible first | exact HB.out | apply below_alloc | apply pw_below_drewN | apply below_drew1 | refine below_set ?_ GE321.out) | exact HB.out))) : w.heap.size ≤ gb322)); have n4_ := Aside0.mk ((by rw [hg]; exact (below_size (by repeat (first | (with_reducible first | exact HB.out | apply below_alloc | apply pw_below_drewN | apply below_drew1 | refine below_set ?_ GE321.out) | exact HB.out))) : w.heap.size ≤ gb322)); have n5_ := Aside0.mk ((by rw [hg]; exact Nat.ne_of_lt (blk_lt (g := gb321) (o := .cells #[.int .u16 a0_0, .int .u8 a0_1, .int .u8 a0_2, .slice A0_3 l0_3.length c0_3, .int .u16 a0_4, .int .u32 a0_5, .slice A0_6 l0_6.length c0_6, .slice A0_7 l0_7.length c0_7, .slice A0_8 l0_8.length c0_8, .slice A0_9 l0_9.length c0_9] 47 (0, 0)) (by (with_reducible repeat (first | refine blk_drewN ?_ _ | refine blk_drew ?_ | refine blk_alloc ?_ _)); exact BK321.out)) : gb321 ≠ gb322)); have n6_ := Aside0.mk ((by rw [hg]; exact Nat.ne_of_gt (blk_lt (g := gb321) (o := .cells #[.int .u16 a0_0, .int .u8 a0_1, .int .u8 a0_2, .slice A0_3 l0_3.length c0_3, .int .u16 a0_4, .int .u32 a0_5, .slice A0_6 l0_6.length c0_6, .slice A0_7 l0_7.length c0_7, .slice A0_8 l0_8.length c0_8, .slice A0_9 l0_9.length c0_9] 47 (0, 0)) (by (with_reducible repeat (first | refine blk_drewN ?_ _ | refine blk_drew ?_ | refine blk_alloc ?_ _)); exact BK321.out)) : gb322 ≠ gb321)); clear BK321; clear HB; have BK321 := n0_; have HB := n1_; have BK322 := n2_; have GW322 := n3_; have GE322 := n4_; have NB321_322 := n5_; have NB322_321 := n6_; clear n0_ n1_ n2_ n3_ n4_ n5_ n6_; clear hb hbox hg))
 (try simp only [Act.put, List.setIfInBounds_toArray, List.set_cons_zero, List.set_cons_succ])
 go_cut [19] (fun v19 wc => ∃ (kq : Nat) (x19_2 : Bool), v19 = .bool x19_2 ∧ Aside0 (chap_Answers.j0 kq x19_2 a0_0 a0_1 a0_2 l0_3 a0_4 a0_5 l0_6 l0_7 l0_8 l0_9 a1_0 a1_1 a1_2 l1_3 a1_4 a1_5 l1_6 l1_7 l1_8 l1_9 = some r) ∧ Aside0 (kq ≤ k) ∧ Aside0 (wc.heap[gb321]? = some (.cells #[.int .u16 a0_0, .int .u8 a0_1, .int .u8 a0_2, (.slice A0_3 l0_3.length c0_3), .int .u16 a0_4, .int .u32 a0_5, (.slice A0_6 l0_6.length c0_6), (.slice A0_7 l0_7.length c0_7), (.slice A0_8 l0_8.length c0_8), (.slice A0_9 l0_9.length c0_9)] 47 (0, 0))) ∧ Aside0 (wc.heap[gb322]? = some (.cells #[.int .u16 a1_0, .int .u8 a1_1, .int .u8 a1_2, (.slice A1_3 l1_3.length c1_3), .int .u16 a1_4, .int .u32 a1_5, (.slice A1_6 l1_6.length c1_6), (.slice A1_7 l1_7.length c1_7), (.slice A1_8 l1_8.length c1_8), (.slice A1_9 l1_9.length c1_9)] 47 (0, 0))) ∧ Aside0 (Below w.heap.size w wc))
 case first =>
  have H := HC3.out
  clear HC3
  by_cases c6 : a0_0 = 49699
  · rw [if_pos c6] at H
    have c6b0 : (a0_0 == 49699) = true := beq_iff_eq.mpr c6
    have c6b1 : (a0_0 != 49699) = false := bne_eq_false_iff_eq.mpr c6
    clear c6
    (first | rw [c6b0] | (simp only [i64_w, i32_w]; rw [c6b0]) | skip)
    by_cases c7 : a1_0 = 49699
    · rw [if_pos c7] at H
      have c7b0 : (a1_0 == 49699) = true := beq_iff_eq.mpr c7
      have c7b1 : (a1_0 != 49699) = false := bne_eq_false_iff_eq.mpr c7
      clear c7
      have H' := Aside0.mk H
      clear H
      have hnb8 := NB321_322.out
      have hnc8 := NB322_321.out
      obtain ⟨⟨hcz9_0, hcz9_1, hcz9_2, hcz9_3, hcz9_4, hcz9_5, hcz9_6, hcz9_7, hcz9_8, hcz9_9⟩, hfz9_0, hfz9_1, hfz9_2, hfz9_3, hfz9_4, hfz9_5, hfz9_6, hfz9_7, hfz9_8, hfz9_9⟩ := cz10 BK321.out
      obtain ⟨⟨hcz10_0, hcz10_1, hcz10_2, hcz10_3, hcz10_4, hcz10_5, hcz10_6, hcz10_7, hcz10_8, hcz10_9⟩, hfz10_0, hfz10_1, hfz10_2, hfz10_3, hfz10_4, hfz10_5, hfz10_6, hfz10_7, hfz10_8, hfz10_9⟩ := cz10 BK322.out
      go_wp2
      go_meet
      case rel => exact ⟨_, ((a0_2 != a1_2)), (by first | rfl | (simp; done) | (simp [*]; done)), H', ⟨by first | omega | exact Nat.le_refl _⟩, ⟨by (with_reducible repeat (first | refine blk_drewN ?_ _ | refine blk_drew ?_ | refine blk_alloc ?_ _)); exact BK321.out⟩, ⟨by (with_reducible repeat (first | refine blk_drewN ?_ _ | refine blk_drew ?_ | refine blk_alloc ?_ _)); exact BK322.out⟩, ⟨by repeat (first | (with_reducible first | exact HB.out | apply below_alloc | apply pw_below_drewN | apply below_drew1 | refine below_set ?_ GE321.out | refine below_set ?_ GE322.out) | exact HB.out)⟩⟩
    · rw [if_neg c7] at H
      have c7b0 : (a1_0 == 49699) = false := beq_eq_false_iff_ne.mpr c7
      have c7b1 : (a1_0 != 49699) = true := bne_iff_ne.mpr c7
      have H' := Aside0.mk H
      clear H
      have hnb11 := NB321_322.out
      have hnc11 := NB322_321.out
      obtain ⟨⟨hcz12_0, hcz12_1, hcz12_2, hcz12_3, hcz12_4, hcz12_5, hcz12_6, hcz12_7, hcz12_8, hcz12_9⟩, hfz12_0, hfz12_1, hfz12_2, hfz12_3, hfz12_4, hfz12_5, hfz12_6, hfz12_7, hfz12_8, hfz12_9⟩ := cz10 BK321.out
      obtain ⟨⟨hcz13_0, hcz13_1, hcz13_2, hcz13_3, hcz13_4, hcz13_5, hcz13_6, hcz13_7, hcz13_8, hcz13_9⟩, hfz13_0, hfz13_1, hfz13_2, hfz13_3, hfz13_4, hfz13_5, hfz13_6, hfz13_7, hfz13_8, hfz13_9⟩ := cz10 BK322.out
      go_wp2
      go_meet
      case rel => exact ⟨_, (true), (by first | rfl | (simp; done) | (simp [*]; done)), H', ⟨by first | omega | exact Nat.le_refl _⟩, ⟨by (with_reducible repeat (first | refine blk_drewN ?_ _ | refine blk_drew ?_ | refine blk_alloc ?_ _)); exact BK321.out⟩, ⟨by (with_reducible repeat (first | refine blk_drewN ?_ _ | refine blk_drew ?_ | refine blk_alloc ?_ _)); exact BK322.out⟩, ⟨by repeat (first | (with_reducible first | exact HB.out | apply below_alloc | apply pw_below_drewN | apply below_drew1 | refine below_set ?_ GE321.out | refine below_set ?_ GE322.out) | exact HB.out)⟩⟩
  · rw [if_neg c6] at H
    have c6b0 : (a0_0 == 49699) = false := beq_eq_false_iff_ne.mpr c6
    have c6b1 : (a0_0 != 49699) = true := bne_iff_ne.mpr c6
    (first | rw [c6b0] | (simp only [i64_w, i32_w]; rw [c6b0]) | skip)
    have H' := Aside0.mk H
    clear H
    have hnb14 := NB321_322.out
    have hnc14 := NB322_321.out
    obtain ⟨⟨hcz15_0, hcz15_1, hcz15_2, hcz15_3, hcz15_4, hcz15_5, hcz15_6, hcz15_7, hcz15_8, hcz15_9⟩, hfz15_0, hfz15_1, hfz15_2, hfz15_3, hfz15_4, hfz15_5, hfz15_6, hfz15_7, hfz15_8, hfz15_9⟩ := cz10 BK321.out
    go_wp2
    go_meet
    case rel => exact ⟨_, (true), (by first | rfl | (simp; done) | (simp [*]; done)), H', ⟨by first | omega | exact Nat.le_refl _⟩, ⟨by (with_reducible repeat (first | refine blk_drewN ?_ _ | refine blk_drew ?_ | refine blk_alloc ?_ _)); exact BK321.out⟩, ⟨by (with_reducible repeat (first | refine blk_drewN ?_ _ | refine blk_drew ?_ | refine blk_alloc ?_ _)); exact BK322.out⟩, ⟨by repeat (first | (with_reducible first | exact HB.out | apply below_alloc | apply pw_below_drewN | apply below_drew1 | refine below_set ?_ GE321.out | refine below_set ?_ GE322.out) | exact HB.out)⟩⟩
 case rest =>
  clear HC3
  try clear c1
  try clear c2
  try clear p2
  try clear c6
  try clear c6b0
  try clear c6b1
  try clear c7
  try clear c7b0
  try clear c7b1
  try clear c8
  try clear c11
  try clear c14
  try clear hcz10_0 hcz10_1 hcz10_2 hcz10_3 hcz10_4 hcz10_5 hcz10_6 hcz10_7 hcz10_8 hcz10_9 hfz10_0 hfz10_1 hfz10_2 hfz10_3 hfz10_4 hfz10_5 hfz10_6 hfz10_7 hfz10_8 hfz10_9
  try clear hcz12_0 hcz12_1 hcz12_2 hcz12_3 hcz12_4 hcz12_5 hcz12_6 hcz12_7 hcz12_8 hcz12_9 hfz12_0 hfz12_1 hfz12_2 hfz12_3 hfz12_4 hfz12_5 hfz12_6 hfz12_7 hfz12_8 hfz12_9
  try clear hcz13_0 hcz13_1 hcz13_2 hcz13_3 hcz13_4 hcz13_5 hcz13_6 hcz13_7 hcz13_8 hcz13_9 hfz13_0 hfz13_1 hfz13_2 hfz13_3 hfz13_4 hfz13_5 hfz13_6 hfz13_7 hfz13_8 hfz13_9
  try clear hcz15_0 hcz15_1 hcz15_2 hcz15_3 hcz15_4 hcz15_5 hcz15_6 hcz15_7 hcz15_8 hcz15_9 hfz15_0 hfz15_1 hfz15_2 hfz15_3 hfz15_4 hfz15_5 hfz15_6 hfz15_7 hfz15_8 hfz15_9
  try clear hcz9_0 hcz9_1 hcz9_2 hcz9_3 hcz9_4 hcz9_5 hcz9_6 hcz9_7 hcz9_8 hcz9_9 hfz9_0 hfz9_1 hfz9_2 hfz9_3 hfz9_4 hfz9_5 hfz9_6 hfz9_7 hfz9_8 hfz9_9
  obtain ⟨kq, x19_2, rfl, HA, HJ2, BK321, BK322, HB⟩ := hcut
  cases kq with
  | zero => exact absurd HA.out (by simp [chap_Answers.j0])
  | succ kj2 =>
   have H := HA.out
   clear HA
   simp only [chap_Answers.j0] at H
   by_cases c16 : x19_2 = true
   · subst c16
     have H1 : (some false) = some r := by rw [if_pos rfl] at H; exact H
     clear H
     have H := H1
     clear H1
     obtain rfl := Option.some.inj H
     go_wp2
     go_ret
     exact ⟨by first | rfl | (simp [errW_none, errW_some] <;> rfl) | (simp [*, errW_none, errW_some] <;> rfl), by repeat (first | (with_reducible first | exact HB.out | apply below_alloc | apply pw_below_drewN | apply below_drew1 | refine below_set ?_ GE321.out | refine below_set ?_ GE322.out) | exact HB.out)⟩
   · replace c16 := Bool.eq_false_iff.mpr c16
     subst c16
     have H1 : (if a0_1 = 2 then (some (a1_1 == 1)) else (if a0_1 = 3 then (chap_Answers.j1 kj2 (a0_1 == 3) a1_0 a1_1 a1_2 l1_3 a1_4 a1_5 l1_6 l1_7 l1_8 l1_9) else (chap_Answers.j1 kj2 (a0_1 == 4) a1_0 a1_1 a1_2 l1_3 a1_4 a1_5 l1_6 l1_7 l1_8 l1_9))) = some r := by rw [if_neg (show ¬ (false = true) by decide)] at H; exact H
     clear H
     have H := H1
     clear H1
     by_cases c17 : a0_1 = 2
     · rw [if_pos c17] at H
       have c17b0 : (a0_1 == 2) = true := beq_iff_eq.mpr c17
       have c17b1 : (a0_1 != 2) = false := bne_eq_false_iff_eq.mpr c17
       clear c17
       obtain rfl := Option.some.inj H
       have hnb18 := NB321_322.out
       have hnc18 := NB322_321.out
       obtain ⟨⟨hcz19_0, hcz19_1, hcz19_2, hcz19_3, hcz19_4, hcz19_5, hcz19_6, hcz19_7, hcz19_8, hcz19_9⟩, hfz19_0, hfz19_1, hfz19_2, hfz19_3, hfz19_4, hfz19_5, hfz19_6, hfz19_7, hfz19_8, hfz19_9⟩ := cz10 BK321.out
       obtain ⟨⟨hcz20_0, hcz20_1, hcz20_2, hcz20_3, hcz20_4, hcz20_5, hcz20_6, hcz20_7, hcz20_8, hcz20_9⟩, hfz20_0, hfz20_1, hfz20_2, hfz20_3, hfz20_4, hfz20_5, hfz20_6, hfz20_7, hfz20_8, hfz20_9⟩ := cz10 BK322.out
       go_wp2
       go_ret
       exact ⟨by first | rfl | (simp [errW_none, errW_some] <;> rfl) | (simp [*, errW_none, errW_some] <;> rfl), by repeat (first | (with_reducible first | exact HB.out | apply below_alloc | apply pw_below_drewN | apply below_drew1 | refine below_set ?_ GE321.out | refine below_set ?_ GE322.out) | exact HB.out)⟩
     · rw [if_neg c17] at H
       have c17b0 : (a0_1 == 2) = false := beq_eq_false_iff_ne.mpr c17
       have c17b1 : (a0_1 != 2) = true := bne_iff_ne.mpr c17
       have HC21 := Aside0.mk H
       clear H
       have hnb22 := NB321_322.out
       have hnc22 := NB322_321.out
       obtain ⟨⟨hcz23_0, hcz23_1, hcz23_2, hcz23_3, hcz23_4, hcz23_5, hcz23_6, hcz23_7, hcz23_8, hcz23_9⟩, hfz23_0, hfz23_1, hfz23_2, hfz23_3, hfz23_4, hfz23_5, hfz23_6, hfz23_7, hfz23_8, hfz23_9⟩ := cz10 BK321.out
       go_upto_if 27 with (fail)
       go_cut [27] (fun v27 wc => ∃ (kq : Nat) (x27_20 : Bool), v27 = .bool x27_20 ∧ Aside0 (chap_Answers.j1 kq x27_20 a1_0 a1_1 a1_2 l1_3 a1_4 a1_5 l1_6 l1_7 l1_8 l1_9 = some r) ∧ Aside0 (kq ≤ kj2) ∧ Aside0 (wc.heap[gb321]? = some (.cells #[.int .u16 a0_0, .int .u8 a0_1, .int .u8 a0_2, (.slice A0_3 l0_3.length c0_3), .int .u16 a0_4, .int .u32 a0_5, (.slice A0_6 l0_6.length c0_6), (.slice A0_7 l0_7.length c0_7), (.slice A0_8 l0_8.length c0_8), (.slice A0_9 l0_9.length c0_9)] 47 (0, 0))) ∧ Aside0 (wc.heap[gb322]? = some (.cells #[.int .u16 a1_0, .int .u8 a1_1, .int .u8 a1_2, (.slice A1_3 l1_3.length c1_3), .int .u16 a1_4, .int .u32 a1_5, (.slice A1_6 l1_6.length c1_6), (.slice A1_7 l1_7.length c1_7), (.slice A1_8 l1_8.length c1_8), (.slice A1_9 l1_9.length c1_9)] 47 (0, 0))) ∧ Aside0 (Below w.heap.size w wc))
       case first =>
        have H := HC21.out
        clear HC21
        by_cases c24 : a0_1 = 3
        · rw [if_pos c24] at H
          have c24b0 : (a0_1 == 3) = true := beq_iff_eq.mpr c24
          have c24b1 : (a0_1 != 3) = false := bne_eq_false_iff_eq.mpr c24
          clear c24
          (first | rw [c24b0] | (simp only [i64_w, i32_w]; rw [c24b0]) | skip)
          have H' := Aside0.mk H
          clear H
          go_wp2
          go_meet
          case rel => exact ⟨_, ((a0_1 == 3)), (by first | rfl | (simp; done) | (simp [*]; done)), H', ⟨by have := HJ2.out; first | omega | exact Nat.le_refl _⟩, ⟨by (with_reducible repeat (first | refine blk_drewN ?_ _ | refine blk_drew ?_ | refine blk_alloc ?_ _)); exact BK321.out⟩, ⟨by (with_reducible repeat (first | refine blk_drewN ?_ _ | refine blk_drew ?_ | refine blk_alloc ?_ _)); exact BK322.out⟩, ⟨by repeat (first | (with_reducible first | exact HB.out | apply below_alloc | apply pw_below_drewN | apply below_drew1 | refine below_set ?_ GE321.out | refine below_set ?_ GE322.out) | exact HB.out)⟩⟩
        · rw [if_neg c24] at H
          have c24b0 : (a0_1 == 3) = false := beq_eq_false_iff_ne.mpr c24
          have c24b1 : (a0_1 != 3) = true := bne_iff_ne.mpr c24
          (first | rw [c24b0] | (simp only [i64_w, i32_w]; rw [c24b0]) | skip)
          have H' := Aside0.mk H
          clear H
          go_wp2
          go_meet
          case rel => exact ⟨_, ((a0_1 == 4)), (by first | rfl | (simp; done) | (simp [*]; done)), H', ⟨by have := HJ2.out; first | omega | exact Nat.le_refl _⟩, ⟨by (with_reducible repeat (first | refine blk_drewN ?_ _ | refine blk_drew ?_ | refine blk_alloc ?_ _)); exact BK321.out⟩, ⟨by (with_reducible repeat (first | refine blk_drewN ?_ _ | refine blk_drew ?_ | refine blk_alloc ?_ _)); exact BK322.out⟩, ⟨by repeat (first | (with_reducible first | exact HB.out | apply below_alloc | apply pw_below_drewN | apply below_drew1 | refine below_set ?_ GE321.out | refine below_set ?_ GE322.out) | exact HB.out)⟩⟩
       case rest =>
        clear HC21
        try clear c1
        try clear c2
        try clear p2
        try clear c6
        try clear c6b0
        try clear c6b1
        try clear c7
        try clear c7b0
        try clear c7b1
        try clear c8
        try clear c11
        try clear c14
        try clear c16
        try clear c17
        try clear c17b0
        try clear c17b1
        try clear c18
        try clear c22
        try clear c24
        try clear c24b0
        try clear c24b1
        try clear hcz10_0 hcz10_1 hcz10_2 hcz10_3 hcz10_4 hcz10_5 hcz10_6 hcz10_7 hcz10_8 hcz10_9 hfz10_0 hfz10_1 hfz10_2 hfz10_3 hfz10_4 hfz10_5 hfz10_6 hfz10_7 hfz10_8 hfz10_9
        try clear hcz12_0 hcz12_1 hcz12_2 hcz12_3 hcz12_4 hcz12_5 hcz12_6 hcz12_7 hcz12_8 hcz12_9 hfz12_0 hfz12_1 hfz12_2 hfz12_3 hfz12_4 hfz12_5 hfz12_6 hfz12_7 hfz12_8 hfz12_9
        try clear hcz13_0 hcz13_1 hcz13_2 hcz13_3 hcz13_4 hcz13_5 hcz13_6 hcz13_7 hcz13_8 hcz13_9 hfz13_0 hfz13_1 hfz13_2 hfz13_3 hfz13_4 hfz13_5 hfz13_6 hfz13_7 hfz13_8 hfz13_9
        try clear hcz15_0 hcz15_1 hcz15_2 hcz15_3 hcz15_4 hcz15_5 hcz15_6 hcz15_7 hcz15_8 hcz15_9 hfz15_0 hfz15_1 hfz15_2 hfz15_3 hfz15_4 hfz15_5 hfz15_6 hfz15_7 hfz15_8 hfz15_9
        try clear hcz19_0 hcz19_1 hcz19_2 hcz19_3 hcz19_4 hcz19_5 hcz19_6 hcz19_7 hcz19_8 hcz19_9 hfz19_0 hfz19_1 hfz19_2 hfz19_3 hfz19_4 hfz19_5 hfz19_6 hfz19_7 hfz19_8 hfz19_9
        try clear hcz20_0 hcz20_1 hcz20_2 hcz20_3 hcz20_4 hcz20_5 hcz20_6 hcz20_7 hcz20_8 hcz20_9 hfz20_0 hfz20_1 hfz20_2 hfz20_3 hfz20_4 hfz20_5 hfz20_6 hfz20_7 hfz20_8 hfz20_9
        try clear hcz23_0 hcz23_1 hcz23_2 hcz23_3 hcz23_4 hcz23_5 hcz23_6 hcz23_7 hcz23_8 hcz23_9 hfz23_0 hfz23_1 hfz23_2 hfz23_3 hfz23_4 hfz23_5 hfz23_6 hfz23_7 hfz23_8 hfz23_9
        try clear hcz9_0 hcz9_1 hcz9_2 hcz9_3 hcz9_4 hcz9_5 hcz9_6 hcz9_7 hcz9_8 hcz9_9 hfz9_0 hfz9_1 hfz9_2 hfz9_3 hfz9_4 hfz9_5 hfz9_6 hfz9_7 hfz9_8 hfz9_9
        try clear p2
        obtain ⟨kq, x27_20, rfl, HA, HJ20, BK321, BK322, HB⟩ := hcut
        cases kq with
        | zero => exact absurd HA.out (by simp [chap_Answers.j1])
        | succ kj20 =>
         have H := HA.out
         clear HA
         simp only [chap_Answers.j1] at H
         by_cases c25 : x27_20 = true
         · subst c25
           have H1 : (some (a1_1 == 2)) = some r := by rw [if_pos rfl] at H; exact H
           clear H
           have H := H1
           clear H1
           obtain rfl := Option.some.inj H
           have hnb26 := NB322_321.out
           have hnc26 := NB321_322.out
           obtain ⟨⟨hcz27_0, hcz27_1, hcz27_2, hcz27_3, hcz27_4, hcz27_5, hcz27_6, hcz27_7, hcz27_8, hcz27_9⟩, hfz27_0, hfz27_1, hfz27_2, hfz27_3, hfz27_4, hfz27_5, hfz27_6, hfz27_7, hfz27_8, hfz27_9⟩ := cz10 BK322.out
           go_wp2
           go_ret
           exact ⟨by first | rfl | (simp [errW_none, errW_some] <;> rfl) | (simp [*, errW_none, errW_some] <;> rfl), by repeat (first | (with_reducible first | exact HB.out | apply below_alloc | apply pw_below_drewN | apply below_drew1 | refine below_set ?_ GE321.out | refine below_set ?_ GE322.out) | exact HB.out)⟩
         · replace c25 := Bool.eq_false_iff.mpr c25
           subst c25
           have H1 : (some false) = some r := by rw [if_neg (show ¬ (false = true) by decide)] at H; exact H
           clear H
           have H := H1
           clear H1
           obtain rfl := Option.some.inj H
           go_wp2
           go_ret
           exact ⟨by first | rfl | (simp [errW_none, errW_some] <;> rfl) | (simp [*, errW_none, errW_some] <;> rfl), by repeat (first | (with_reducible first | exact HB.out | apply below_alloc | apply pw_below_drewN | apply below_drew1 | refine below_set ?_ GE321.out | refine below_set ?_ GE322.out) | exact HB.out)⟩
end Go.Proofs.Ytgjeahgagciagaa.Print
namespace Go.Proofs.Ytgjeahgagciagaa.Print
open Go.RowKit Go.Proofs.YtgjeahgagciagaaW.PrintWords Go.Proofs.YtgjeahgagciagaaW.PrintLast Go.Proofs.YtgjeahgagciagaaW.PrintMore
attribute [local go_sem] max2_int min2_int max_two min_two max_three min_three max_four min_four
set_option linter.unusedVariables false
set_option linter.unusedSimpArgs false
def chap_valued.f (a0 : Int) : Option (Bool) := if a0 = 1 then (some true) else (some (a0 == 2))
set_option maxHeartbeats 8000000 in
set_option maxRecDepth 100000 in
theorem chap_valued.calls (a0 : Int) (r : Bool) (w : World) (h : chap_valued.f a0 = some r) :
 Calls Try.prog 57 #[.int .u8 a0] w fun e w' => e = .returned (.bool r) ∧ Drawn0 w w' := by
 have H : (if a0 = 1 then (some true) else (some (a0 == 2))) = some r := h
 clear h
 by_cases c2 : a0 = 1
 · rw [if_pos c2] at H
   have c2b0 : (a0 == 1) = true := beq_iff_eq.mpr c2
   have c2b1 : (a0 != 1) = false := bne_eq_false_iff_eq.mpr c2
   clear c2
   obtain rfl := Option.some.inj H
   go_enter Try.func57, Try.ntmps57
   go_wp2
   go_ret
   exact ⟨by first | rfl | (simp; done) | (simp [*]; done), by repeat (first | exact Drawn0.refl _ | apply Drawn0.step)⟩
 · rw [if_neg c2] at H
   have c2b0 : (a0 == 1) = false := beq_eq_false_iff_ne.mpr c2
   have c2b1 : (a0 != 1) = true := bne_iff_ne.mpr c2
   obtain rfl := Option.some.inj H
   go_enter Try.func57, Try.ntmps57
   go_wp2
   go_ret
   exact ⟨by first | rfl | (simp; done) | (simp [*]; done), by repeat (first | exact Drawn0.refl _ | apply Drawn0.step)⟩
end Go.Proofs.Ytgjeahgagciagaa.Print
namespace Go.Proofs.Ytgjeahgagciagaa.Print
open Go.RowKit Go.Proofs.YtgjeahgagciagaaW.PrintWords Go.Proofs.YtgjeahgagciagaaW.PrintLast Go.Proofs.YtgjeahgagciagaaW.PrintMore
attribute [local go_sem] max2_int min2_int max_two min_two max_three min_three max_four min_four
set_option linter.unusedVariables false
set_option linter.unusedSimpArgs false
def wire_Get.l0 : Nat → Int → List Int → Int → Int → Option (Int)
 | 0, _, _, _, _ => none
 | k + 1, x5, x10, x11, x12 => if x12 < x11 then (if 0 ≤ x12 then (if x12 < (x10.length : Int) then (wire_Get.l0 k (Go.bits .or .u64 (IntKind.u64.wrap (x5 * 256)) (IntKind.u64.wrap (rd x10 x12))) x10 x11 (wrap64 (x12 + 1))) else (none)) else (none)) else (some x5)
def wire_Get.f (k : Nat) (l0 : List Int) (a1 : Int) : Option (Int) := if 0 ≤ a1 then (if a1 ≤ (l0.length : Int) then ((some (l0.take (a1 : Int).toNat : List Int)).bind fun y521 => (wire_Get.l0 k 0 y521 (y521.length : Int) 0)) else (none)) else (none)
set_option maxHeartbeats 8000000 in
set_option maxRecDepth 100000 in
theorem wire_Get.calls (k : Nat) (A0 : Option Addr) (c0 : Nat) (l0 : List Int) (a1 : Int) (r : Int) (w : World) (hr0 : Kd.C (Kd.int .u8) w A0 l0.length l0) (hc0 : l0.length ≤ c0) (h : wire_Get.f k l0 a1 = some r) :
 Calls Try.prog 62 #[.slice A0 l0.length c0, .int .i64 a1] w fun e w' => e = .returned (.int .u64 r) ∧ Drawn0 w w' := by
 have HR0 := Aside0.mk hr0
 have HC0 := Aside0.mk hc0
 clear hr0 hc0
 have H : (if 0 ≤ a1 then (if a1 ≤ (l0.length : Int) then ((some (l0.take (a1 : Int).toNat : List Int)).bind fun y521 => (wire_Get.l0 k 0 y521 (y521.length : Int) 0)) else (none)) else (none)) = some r := h
 clear h
 by_cases c3 : 0 ≤ a1
 · rw [if_pos c3] at H
   have c3b0 := eq_true c3
   have c3b1 : decide (0 ≤ a1) = true := decide_eq_true c3
   clear c3
   by_cases c4 : a1 ≤ (l0.length : Int)
   · rw [if_pos c4] at H
     have c4b0 := eq_true c4
     have c4b1 : decide (a1 ≤ (l0.length : Int)) = true := decide_eq_true c4
     clear c4
     obtain ⟨y521, hy521⟩ : ∃ y_ : List Int, y_ = (l0.take (a1 : Int).toNat) := ⟨_, rfl⟩
     replace H : (wire_Get.l0 k 0 y521 (y521.length : Int) 0) = some r := by first | (rw [hy521]; with_reducible exact H) | (have H2_ := (Option.bind_some _ _).symm.trans H; rw [hy521]; with_reducible exact H2_) | (have H2_ := (Option.bind_some _ _).symm.trans H; with_reducible exact H2_) | with_reducible exact H | (rw [hy521]; exact H) | exact H
     have Ny521 := Aside0.mk hy521
     clear hy521
     have H' := Aside0.mk H
     clear H
     have q5 : (a1 : Int) ≤ ((l0.length : Int) : Int) := of_decide_eq_true (by first | (with_reducible assumption) | assumption)
     obtain ⟨i05, hi05, _, hsz5, _⟩ := info_parts info5
     have hroom5 : l0.length ≤ c0 := HC0.out
     have hC5 : Kd.C (Kd.int .u8) _ A0 l0.length l0 := HR0.out
     have hcut5 := cut_to (P := Try.prog) 23 5 .i64 Try.underlying23 hi05 A0 l0.length c0 a1 (of_decide_eq_true (by first | (with_reducible assumption) | assumption)) q5 hroom5
     have hr5 := Kd.C_take (m := (a1 : Int).toNat) hC5 (by omega)
     have hy5 : y521.length = (a1 : Int).toNat := (by rw [Ny521.out, List.length_take]; omega)
     rw [← Ny521.out] at hr5
     rw [← hy5] at hcut5
     have HR524 := Aside0.mk hr5
     have HC524 := Aside0.mk (show y521.length ≤ c0 from by omega)
     clear hr5 hC5 hroom5 hi05 hsz5
     have KY5 := Aside0.mk hy5
     clear hy5
     replace q5 := eq_true q5
     go_enter Try.func62, Try.ntmps62
     go_wp2
     go_loopg [5, 12] k (fun kq v5 v12 w' => ∃ (x5_1 : Int) (x12_1 : Int), v5 = .int .u64 x5_1 ∧ v12 = .int .i64 x12_1 ∧ Aside0 (wire_Get.l0 kq x5_1 y521 (y521.length : Int) x12_1 = some r) ∧ Aside0 (kq ≤ k) ∧ Drawn0 w w')
     case atStart => exact ⟨(0), (0), (by first | rfl | (simp; done) | (simp [*]; done)), (by first | rfl | (simp; done) | (simp [*]; done)), H', ⟨Nat.le_refl _⟩, by repeat (first | exact Drawn0.refl _ | apply Drawn0.step)⟩
     case round =>
      clear H'
      try clear p2
      try clear c3
      try clear c3b0
      try clear c3b1
      try clear c4
      try clear c4b0
      try clear c4b1
      try clear q5
      try clear q5
      obtain ⟨x5_1, x12_1, rfl, rfl, HA, HK1, ⟨m1, rfl⟩⟩ := hrel
      cases gk with
      | zero => exact absurd HA.out (by simp [wire_Get.l0])
      | succ k1 =>
       have H := HA.out
       clear HA
       simp only [wire_Get.l0] at H
       by_cases c6 : x12_1 < (y521.length : Int)
       · rw [if_pos c6] at H
         have c6b0 : decide (x12_1 < (y521.length : Int)) = true := decide_eq_true c6
         clear c6
         by_cases c7 : 0 ≤ x12_1
         · rw [if_pos c7] at H
           have c7b0 : decide (0 ≤ x12_1) = true := decide_eq_true c7
           clear c7
           by_cases c8 : x12_1 < (y521.length : Int)
           · rw [if_pos c8] at H
             have c8b0 : decide (x12_1 < (y521.length : Int)) = true := decide_eq_true c8
             clear c8
             have H' := Aside0.mk H
             clear H
             have p525 : 0 ≤ (x12_1 : Int) := of_decide_eq_true (by first | (with_reducible assumption) | assumption)
             have q525 : x12_1 < (y521.length : Int) := of_decide_eq_true (by first | (with_reducible assumption) | assumption)
             obtain ⟨ad525, e525, hx525_0⟩ := Kd.at_int HR524.out x12_1 p525 q525
             cases e525
             replace p525 := eq_true p525
             replace q525 := eq_true q525
             go_wp2
             go_roundg k1
             case measure => have := HK1.out; omega
             case rel => exact ⟨(Go.bits .or .u64 (IntKind.u64.wrap (x5_1 * 256)) (IntKind.u64.wrap (rd y521 x12_1))), (wrap64 (x12_1 + 1)), (by first | rfl | (simp; done) | (simp [*]; done)), (by first | rfl | (simp; done) | (simp [*]; done)), H', ⟨by have := HK1.out; omega⟩, by repeat (first | exact Drawn0.refl _ | apply Drawn0.step)⟩
           · rw [if_neg c8] at H
             exact absurd H (by simp)
         · rw [if_neg c7] at H
           exact absurd H (by simp)
       · rw [if_neg c6] at H
         have c6b0 : decide (x12_1 < (y521.length : Int)) = false := decide_eq_false c6
         clear c6
         obtain rfl := Option.some.inj H
         go_wp2
         go_ret
         exact ⟨by first | rfl | (simp; done) | (simp [*]; done), by repeat (first | exact Drawn0.refl _ | apply Drawn0.step)⟩
   · rw [if_neg c4] at H
     exact absurd H (by simp)
 · rw [if_neg c3] at H
   exact absurd H (by simp)
end Go.Proofs.Ytgjeahgagciagaa.Print
namespace Go.Proofs.Ytgjeahgagciagaa.Print
open Go.RowKit Go.Proofs.YtgjeahgagciagaaW.PrintWords Go.Proofs.YtgjeahgagciagaaW.PrintLast Go.Proofs.YtgjeahgagciagaaW.PrintMore
attribute [local go_sem] max2_int min2_int max_two min_two max_three min_three max_four min_four
set_option linter.unusedVariables false
set_option linter.unusedSimpArgs false
def ctl_size.f (k : Nat) (l0 : List Int) : Option (Int × Int) := if (l0.length : Int) < 4 then (some (0, 2)) else (if 2 ≤ (l0.length : Int) then ((wire_Get.f k (l0.drop 2) 2).bind fun t530 => (if (wrap64 (t530)) < 4 then (some (0, 4)) else (if (wrap64 (t530)) > (l0.length : Int) then (some (0, 2)) else (some (wrap64 (t530), 0))))) else (none))
set_option maxHeartbeats 8000000 in
set_option maxRecDepth 100000 in
theorem ctl_size.calls (k : Nat) (A0 : Option Addr) (c0 : Nat) (l0 : List Int) (r1 : Int) (r2 : Int) (w : World) (hr0 : Kd.C (Kd.int .u8) w A0 l0.length l0) (hc0 : l0.length ≤ c0) (h : ctl_size.f k l0 = some (r1, r2)) :
 Calls Try.prog 60 #[.slice A0 l0.length c0] w fun e w' => e = .returned (.tuple #[.int .i64 r1, .int .i64 r2]) ∧ Drawn0 w w' := by
 have HR0 := Aside0.mk hr0
 have HC0 := Aside0.mk hc0
 clear hr0 hc0
 have H : (if (l0.length : Int) < 4 then (some (0, 2)) else (if 2 ≤ (l0.length : Int) then ((wire_Get.f k (l0.drop 2) 2).bind fun t530 => (if (wrap64 (t530)) < 4 then (some (0, 4)) else (if (wrap64 (t530)) > (l0.length : Int) then (some (0, 2)) else (some (wrap64 (t530), 0))))) else (none))) = some (r1, r2) := h
 clear h
 by_cases c2 : (l0.length : Int) < 4
 · rw [if_pos c2] at H
   have c2b0 : decide ((l0.length : Int) < 4) = true := decide_eq_true c2
   have c2b1 : decide (l0.length < 4) = true := decide_eq_true (by omega)
   clear c2
   simp only [Option.some.injEq, Prod.mk.injEq] at H
   obtain ⟨rfl, rfl⟩ := H
   go_enter Try.func60, Try.ntmps60
   go_wp2
   go_ret2
   exact ⟨by first | rfl | (simp; done) | (simp [*]; done), by repeat (first | exact Drawn0.refl _ | apply Drawn0.step)⟩
 · rw [if_neg c2] at H
   have c2b0 : decide ((l0.length : Int) < 4) = false := decide_eq_false c2
   have c2b1 : decide (l0.length < 4) = false := decide_eq_false (by omega)
   clear c2
   by_cases c3 : 2 ≤ (l0.length : Int)
   · rw [if_pos c3] at H
     have c3b0 := eq_true c3
     have c3b1 : decide (2 ≤ (l0.length : Int)) = true := decide_eq_true c3
     clear c3
     obtain ⟨y526, hy526⟩ : ∃ y_ : List Int, y_ = (l0.drop 2) := ⟨_, rfl⟩
     replace H : ((wire_Get.f k y526 2).bind fun t530 => (if (wrap64 (t530)) < 4 then (some (0, 4)) else (if (wrap64 (t530)) > (l0.length : Int) then (some (0, 2)) else (some (wrap64 (t530), 0))))) = some (r1, r2) := by first | (rw [hy526]; with_reducible exact H) | (have H2_ := (Option.bind_some _ _).symm.trans H; rw [hy526]; with_reducible exact H2_) | (have H2_ := (Option.bind_some _ _).symm.trans H; with_reducible exact H2_) | with_reducible exact H | (rw [hy526]; exact H) | exact H
     have Ny526 := Aside0.mk hy526
     clear hy526
     replace H := Option.bind_eq_some_iff.mp H
     obtain ⟨t530, A40, H⟩ := H
     replace H : (if (wrap64 (t530)) < 4 then (some (0, 4)) else (if (wrap64 (t530)) > (l0.length : Int) then (some (0, 2)) else (some (wrap64 (t530), 0)))) = some (r1, r2) := H
     have A4 := Aside0.mk A40
     clear A40
     by_cases c5 : (wrap64 (t530)) < 4
     · rw [if_pos c5] at H
       have c5b0 : decide ((wrap64 (t530)) < 4) = true := decide_eq_true c5
       clear c5
       simp only [Option.some.injEq, Prod.mk.injEq] at H
       obtain ⟨rfl, rfl⟩ := H
       have q6 : (2 : Int) ≤ ((l0.length : Int) : Int) := of_decide_eq_true (by first | (with_reducible assumption) | assumption)
       obtain ⟨i06, hi06, _, hsz6, _⟩ := info_parts info5
       have hroom6 : l0.length ≤ c0 := HC0.out
       have hC6 : Kd.C (Kd.int .u8) _ A0 l0.length l0 := HR0.out
       have hcut6 := cut_from (P := Try.prog) 23 5 .i64 Try.underlying23 hi06 1 hsz6 A0 l0.length c0 2 (by omega) q6
       have hr6 := Kd.C_drop (m := (2 : Int).toNat) (c := c0) hC6 (by omega) hroom6
       obtain ⟨A6, hA6⟩ : ∃ A1, A1 = (if c0 = (2 : Int).toNat then A0 else (A0 : Option Addr).map (·.add ((2 : Int).toNat * 1))) := ⟨_, rfl⟩
       obtain ⟨c6, hc6⟩ : ∃ c1, c1 = c0 - (2 : Int).toNat := ⟨_, rfl⟩
       have hy6 : y526.length = l0.length - (2 : Int).toNat := (by rw [Ny526.out, List.length_drop] <;> omega)
       rw [show (l0).drop (2 : Int).toNat = y526 from Ny526.out.symm] at hr6
       replace hr6 : Kd.C (Kd.int .u8) _ A6 y526.length y526 := (by rw [hA6]; exact hr6)
       rw [← hy6, ← hA6, ← hc6] at hcut6
       have HR529 := Aside0.mk hr6
       have HC529 := Aside0.mk (show y526.length ≤ c6 from by rw [hy6, hc6]; exact Nat.sub_le_sub_right hroom6 _)
       clear hr6 hC6 hroom6 hi06 hsz6 hc6
       have KY6 := Aside0.mk hy6
       have KA6 := Aside0.mk hA6
       clear hy6 hA6
       replace q6 := eq_true q6
       go_enter Try.func60, Try.ntmps60
       go_wp2_with (first | ((with_reducible refine gate_callee (f := 62) rfl ?_); refine goesL_ (some 10) rfl rfl Try.func62 (by kernel_rfl) rfl #[.slice A6 y526.length c6, .int .i64 2] rfl (by (try simp only [List.map_toArray, List.map_cons, List.map_nil]); first | done | rfl | (simp only [List.length_drop, List.length_take]; rfl)) ?_; (with_reducible refine (wire_Get.calls k _ _ y526 2 t530 _ ?side1 ?side2 A4.out).mono ?_); (case side1 => repeat (first | exact HR529.out | (with_reducible refine Kd.C_alloc ?_ _) | (with_reducible refine Kd.C_drewN ?_ _) | (with_reducible refine Kd.C_drew ?_))); (case side2 => exact HC529.out); rintro e w' ⟨rfl, ⟨nd, rfl⟩⟩; refine ⟨_, rfl, ?_⟩))
       go_ret2
       exact ⟨by first | rfl | (simp; done) | (simp [*]; done), by repeat (first | exact Drawn0.refl _ | apply Drawn0.step)⟩
     · rw [if_neg c5] at H
       have c5b0 : decide ((wrap64 (t530)) < 4) = false := decide_eq_false c5
       clear c5
       by_cases c7 : (wrap64 (t530)) > (l0.length : Int)
       · rw [if_pos c7] at H
         have c7b0 : decide ((l0.length : Int) < (wrap64 (t530))) = true := decide_eq_true c7
         clear c7
         simp only [Option.some.injEq, Prod.mk.injEq] at H
         obtain ⟨rfl, rfl⟩ := H
         have q8 : (2 : Int) ≤ ((l0.length : Int) : Int) := of_decide_eq_true (by first | (with_reducible assumption) | assumption)
         obtain ⟨i08, hi08, _, hsz8, _⟩ := info_parts info5
         have hroom8 : l0.length ≤ c0 := HC0.out
         have hC8 : Kd.C (Kd.int .u8) _ A0 l0.length l0 := HR0.out
         have hcut8 := cut_from (P := Try.prog) 23 5 .i64 Try.underlying23 hi08 1 hsz8 A0 l0.length c0 2 (by omega) q8
         have hr8 := Kd.C_drop (m := (2 : Int).toNat) (c := c0) hC8 (by omega) hroom8
         obtain ⟨A8, hA8⟩ : ∃ A1, A1 = (if c0 = (2 : Int).toNat then A0 else (A0 : Option Addr).map (·.add ((2 : Int).toNat * 1))) := ⟨_, rfl⟩
         obtain ⟨c8, hc8⟩ : ∃ c1, c1 = c0 - (2 : Int).toNat := ⟨_, rfl⟩
         have hy8 : y526.length = l0.length - (2 : Int).toNat := (by rw [Ny526.out, List.length_drop] <;> omega)
         rw [show (l0).drop (2 : Int).toNat = y526 from Ny526.out.symm] at hr8
         replace hr8 : Kd.C (Kd.int .u8) _ A8 y526.length y526 := (by rw [hA8]; exact hr8)
         rw [← hy8, ← hA8, ← hc8] at hcut8
         have HR529 := Aside0.mk hr8
         have HC529 := Aside0.mk (show y526.length ≤ c8 from by rw [hy8, hc8]; exact Nat.sub_le_sub_right hroom8 _)
         clear hr8 hC8 hroom8 hi08 hsz8 hc8
         have KY8 := Aside0.mk hy8
         have KA8 := Aside0.mk hA8
         clear hy8 hA8
         replace q8 := eq_true q8
         go_enter Try.func60, Try.ntmps60
         go_wp2_with (first | ((with_reducible refine gate_callee (f := 62) rfl ?_); refine goesL_ (some 10) rfl rfl Try.func62 (by kernel_rfl) rfl #[.slice A8 y526.length c8, .int .i64 2] rfl (by (try simp only [List.map_toArray, List.map_cons, List.map_nil]); first | done | rfl | (simp only [List.length_drop, List.length_take]; rfl)) ?_; (with_reducible refine (wire_Get.calls k _ _ y526 2 t530 _ ?side1 ?side2 A4.out).mono ?_); (case side1 => repeat (first | exact HR529.out | (with_reducible refine Kd.C_alloc ?_ _) | (with_reducible refine Kd.C_drewN ?_ _) | (with_reducible refine Kd.C_drew ?_))); (case side2 => exact HC529.out); rintro e w' ⟨rfl, ⟨nd, rfl⟩⟩; refine ⟨_, rfl, ?_⟩))
         go_ret2
         exact ⟨by first | rfl | (simp; done) | (simp [*]; done), by repeat (first | exact Drawn0.refl _ | apply Drawn0.step)⟩
       · rw [if_neg c7] at H
         have c7b0 : decide ((l0.length : Int) < (wrap64 (t530))) = false := decide_eq_false c7
         clear c7
         simp only [Option.some.injEq, Prod.mk.injEq] at H
         obtain ⟨rfl, rfl⟩ := H
         have q9 : (2 : Int) ≤ ((l0.length : Int) : Int) := of_decide_eq_true (by first | (with_reducible assumption) | assumption)
         obtain ⟨i09, hi09, _, hsz9, _⟩ := info_parts info5
         have hroom9 : l0.length ≤ c0 := HC0.out
         have hC9 : Kd.C (Kd.int .u8) _ A0 l0.length l0 := HR0.out
         have hcut9 := cut_from (P := Try.prog) 23 5 .i64 Try.underlying23 hi09 1 hsz9 A0 l0.length c0 2 (by omega) q9
         have hr9 := Kd.C_drop (m := (2 : Int).toNat) (c := c0) hC9 (by omega) hroom9
         obtain ⟨A9, hA9⟩ : ∃ A1, A1 = (if c0 = (2 : Int).toNat then A0 else (A0 : Option Addr).map (·.add ((2 : Int).toNat * 1))) := ⟨_, rfl⟩
         obtain ⟨c9, hc9⟩ : ∃ c1, c1 = c0 - (2 : Int).toNat := ⟨_, rfl⟩
         have hy9 : y526.length = l0.length - (2 : Int).toNat := (by rw [Ny526.out, List.length_drop] <;> omega)
         rw [show (l0).drop (2 : Int).toNat = y526 from Ny526.out.symm] at hr9
         replace hr9 : Kd.C (Kd.int .u8) _ A9 y526.length y526 := (by rw [hA9]; exact hr9)
         rw [← hy9, ← hA9, ← hc9] at hcut9
         have HR529 := Aside0.mk hr9
         have HC529 := Aside0.mk (show y526.length ≤ c9 from by rw [hy9, hc9]; exact Nat.sub_le_sub_right hroom9 _)
         clear hr9 hC9 hroom9 hi09 hsz9 hc9
         have KY9 := Aside0.mk hy9
         have KA9 := Aside0.mk hA9
         clear hy9 hA9
         replace q9 := eq_true q9
         go_enter Try.func60, Try.ntmps60
         go_wp2_with (first | ((with_reducible refine gate_callee (f := 62) rfl ?_); refine goesL_ (some 10) rfl rfl Try.func62 (by kernel_rfl) rfl #[.slice A9 y526.length c9, .int .i64 2] rfl (by (try simp only [List.map_toArray, List.map_cons, List.map_nil]); first | done | rfl | (simp only [List.length_drop, List.length_take]; rfl)) ?_; (with_reducible refine (wire_Get.calls k _ _ y526 2 t530 _ ?side1 ?side2 A4.out).mono ?_); (case side1 => repeat (first | exact HR529.out | (with_reducible refine Kd.C_alloc ?_ _) | (with_reducible refine Kd.C_drewN ?_ _) | (with_reducible refine Kd.C_drew ?_))); (case side2 => exact HC529.out); rintro e w' ⟨rfl, ⟨nd, rfl⟩⟩; refine ⟨_, rfl, ?_⟩))
         go_ret2
         exact ⟨by first | rfl | (simp; done) | (simp [*]; done), by repeat (first | exact Drawn0.refl _ | apply Drawn0.step)⟩
   · rw [if_neg c3] at H
     exact absurd H (by simp)
end Go.Proofs.Ytgjeahgagciagaa.Print
namespace Go.Proofs.Ytgjeahgagciagaa.Print
open Go.RowKit Go.Proofs.YtgjeahgagciagaaW.PrintWords Go.Proofs.YtgjeahgagciagaaW.PrintLast Go.Proofs.YtgjeahgagciagaaW.PrintMore
attribute [local go_sem] max2_int min2_int max_two min_two max_three min_three max_four min_four
set_option linter.unusedVariables false
set_option linter.unusedSimpArgs false
def slices_Clone_byte_byte.f (l0 : List Int) : Option (List Int) := if l0.length < 140737488355328 then some l0 else none
set_option maxHeartbeats 8000000 in
set_option maxRecDepth 100000 in
theorem slices_Clone_byte_byte.calls (A0 : Option Addr) (c0 : Nat) (l0 : List Int) (r : List Int) (w : World) (hr0 : Kd.C (Kd.int .u8) w A0 l0.length l0) (hc0 : l0.length ≤ c0) (h : slices_Clone_byte_byte.f l0 = some r) :
 Calls Try.prog 48 #[.slice A0 l0.length c0] w fun e w' => ∃ v0_ : Value, e = .returned (v0_) ∧ Kd.R (Kd.int .u8) 5 w' w.heap.size (fun _ => True) v0_ r ∧ Below w.heap.size w w' := by
 unfold slices_Clone_byte_byte.f at h
 by_cases hlim : l0.length < 140737488355328
 · rw [if_pos hlim] at h
   obtain rfl := Option.some.inj h
   have LM := Aside0.mk hlim
   clear h hlim
   have HR0 := Aside0.mk hr0
   have HC0 := Aside0.mk hc0
   have HB := Aside0.mk (Below.refl w.heap.size w)
   rcases A0 with _ | ad
   · have hz : l0.length = 0 := by
      rcases Nat.eq_zero_or_pos l0.length with h0 | h0
      · exact h0
      · obtain ⟨ad, h, _⟩ := hr0.2.2 h0
        cases h
     obtain rfl : l0 = [] := List.eq_nil_of_length_eq_zero hz
     clear hr0 hc0
     have hq : ∀ (w : World) (n c : Nat), (Go.binOp .eql 23 (.slice none n c) (.slice none 0 0)).run Try.prog w = .ok (.bool true) w := fun w n c => Lib.run_eql_slice_nil (P := Try.prog) w 23 5 none n c 0 0 Try.underlying23
     go_enter Try.func48, Try.ntmps48
     go_wp2
     go_ret
     exact ⟨_, rfl, Kd.R_nil _ _ _ _ _, HB.out⟩
   · clear hr0 hc0
     have hq : ∀ (w : World) (n c : Nat), (Go.binOp .eql 23 (.slice (some ad) n c) (.slice none 0 0)).run Try.prog w = .ok (.bool false) w := fun w n c => Lib.run_eql_slice_nil (P := Try.prog) w 23 5 (some ad) n c 0 0 Try.underlying23
     obtain ⟨y1, hy1⟩ : ∃ y_ : List Int, y_ = ([] : List Int) := ⟨_, rfl⟩
     have Ny1 := Aside0.mk hy1
     clear hy1
     go_enter Try.func48, Try.ntmps48
     go_wp2_with (first | ((with_reducible refine gate_dst (N := 5) rfl ?_); refine Kd.R_lit (Kd.int .u8) _ 5 ?hg (N := 5) ?hd (xs := ([] : List Int)) (inner := []) (ok := fun _ => True) (okp := fun _ => True) ?hr ?hp (fun _ hk => hk) trivial (Below.refl _ _) (Nat.le_refl _) (by simp) ?_; (case hd => rfl); (case hg => rfl); (case hr => first | (go_simp; done) | (go_simp; rfl)); (case hp => exact (Reps.none _ _)); intro v1 w1 ho7 hb hg_ hnew_; clear hg_ hnew_; rw [← Ny1.out] at ho7; have n0_ := Aside0.mk (Kd.R_lower ho7 (below_size (by repeat (first | (with_reducible first | exact HB.out | apply below_alloc | apply pw_below_drewN | apply below_drew1) | exact HB.out)))); have n1_ := Aside0.mk (below_step (by repeat (first | (with_reducible first | exact HB.out | apply below_alloc | apply pw_below_drewN | apply below_drew1) | exact HB.out)) hb); clear HB; have HO1 := n0_; have HB := n1_; clear n0_ n1_; clear hb ho7) | ((with_reducible refine gate_builtin (b := .append) (xs := #[.tmp 5, .tmp 6]) rfl ?_); at_builtin; refine Kd.R_append_rows (Kd.int .u8) (w0 := w) w.heap.size rfl (.tmp 5) (.tmp 6) 23 5 (.int .u8 0) 1 rfl Try.underlying23 info5 rfl (by decide) (by omega) v1 y1 l0 _ _ _ (fun _ => True) (fun _ => False) rfl rfl ?aO ?aR (fun _ _ h => h) (fun _ h => h.elim) ?aF ?aB ?aS ?aL ?_; (case aR => repeat (first | exact (Kd.C_below HR0.out HB.out) | (with_reducible refine Kd.C_alloc ?_ _) | (with_reducible refine Kd.C_drewN ?_ _) | (with_reducible refine Kd.C_drew ?_))); (case aB => exact (by repeat (first | (with_reducible first | exact HB.out | apply below_alloc | apply pw_below_drewN | apply below_drew1) | exact HB.out))); (case aF => exact (fun _ _ => trivial)); (case aO => exact (by (with_reducible repeat (first | apply Kd.R_alloc | apply Kd.R_drewN | apply Kd.R_drew)); exact HO1.out)); (case aS => exact (below_size (by repeat (first | (with_reducible first | exact HB.out | apply below_alloc | apply pw_below_drewN | apply below_drew1) | exact HB.out)))); (case aL => have h1_ := LM.out; rw [Ny1.out, List.length_nil]; omega); intro v2 w2 ho hb hg hat; have n0_ := Aside0.mk (hb); have n1_ := Aside0.mk (ho); clear HB HO1 hg hat ho hb; have HB := n0_; have HO2 := n1_; clear n0_ n1_))
     go_ret
     have e1 : y1 ++ l0 = l0 := by rw [Ny1.out]; rfl
     exact ⟨_, by first | rfl | (simp; done) | (simp [*]; done), by rw [e1] at HO2; exact HO2.out, HB.out⟩
 · rw [if_neg hlim] at h
   exact absurd h (by simp)
end Go.Proofs.Ytgjeahgagciagaa.Print
namespace Go.Proofs.Ytgjeahgagciagaa.Print
open Go.RowKit Go.Proofs.YtgjeahgagciagaaW.PrintWords Go.Proofs.YtgjeahgagciagaaW.PrintLast Go.Proofs.YtgjeahgagciagaaW.PrintMore
attribute [local go_sem] max2_int min2_int max_two min_two max_three min_three max_four min_four
set_option linter.unusedVariables false
set_option linter.unusedSimpArgs false
def ctl_Get.f (k : Nat) (l0 : List Int) : Option (Int × Int × List Int × Int) := (ctl_size.f k l0).bind fun bt531 => (if bt531.2 = 0 then (if 0 < (l0.length : Int) then (if 1 < (l0.length : Int) then (if 4 ≤ bt531.1 then (if bt531.1 ≤ (l0.length : Int) then ((slices_Clone_byte_byte.f ((l0.take (bt531.1 : Int).toNat).drop 4)).bind fun t539 => (some (rd l0 0, rd l0 1, t539, 0))) else (none)) else (none)) else (none)) else (none)) else (some (0, 0, ([] : List Int), bt531.2)))
def ctl_Get.T4 : Bool × List (List Nat × List Nat) := (true, [([], []), ([0], [0]), ([1], [1]), ([], []), ([3], [3]), ([4], [4]), ([], []), ([], []), ([6, 7], [6, 7]), ([8], [8]), ([2, 9, 0, 1, 2], [2]), ([5, 10, 0, 1, 2, 3, 4, 5, 10], [5]), ([9, 11, 0, 1, 2, 3, 4, 5, 6, 7, 8, 9, 10, 11], [9]), ([12, 0, 1, 2, 3, 4, 5, 6, 7, 8, 9, 10, 11, 12], [])])
def ctl_Get.B4 : List Nat := [0, 1, 3, 0, 8, 24, 0, 0, 192, 448, 967, 2047, 4095, 8191]
theorem ctl_Get.tab4 : rtab .any (opsOf Try.f53 4) = ctl_Get.T4 := by kernel_rfl
theorem ctl_Get.bits4 : waitsOk ctl_Get.T4.2 ctl_Get.B4 = true := by kernel_rfl
set_option maxHeartbeats 8000000 in
set_option maxRecDepth 100000 in
theorem ctl_Get.calls (k : Nat) (A0 : Option Addr) (c0 : Nat) (l0 : List Int) (r1 : Int) (r2 : Int) (r3 : List Int) (r4 : Int) (w : World) (hr0 : Kd.C (Kd.int .u8) w A0 l0.length l0) (hc0 : l0.length ≤ c0) (h : ctl_Get.f k l0 = some (r1, r2, r3, r4)) :
 Calls Try.prog 53 #[.slice A0 l0.length c0] w fun e w' => ∃ v2_ : Value, e = .returned (.tuple #[.int .u8 r1, .int .u8 r2, v2_, .int .i64 r4]) ∧ Kd.R (Kd.int .u8) 5 w' w.heap.size (fun _ => True) v2_ r3 ∧ Below w.heap.size w w' := by
 have HR0 := Aside0.mk hr0
 have HC0 := Aside0.mk hc0
 clear hr0 hc0
 have HB := Aside0.mk (Below.refl w.heap.size w)
 have H : ((ctl_size.f k l0).bind fun bt531 => (if bt531.2 = 0 then (if 0 < (l0.length : Int) then (if 1 < (l0.length : Int) then (if 4 ≤ bt531.1 then (if bt531.1 ≤ (l0.length : Int) then ((slices_Clone_byte_byte.f ((l0.take (bt531.1 : Int).toNat).drop 4)).bind fun t539 => (some (rd l0 0, rd l0 1, t539, 0))) else (none)) else (none)) else (none)) else (none)) else (some (0, 0, ([] : List Int), bt531.2)))) = some (r1, r2, r3, r4) := h
 clear h
 replace H := Option.bind_eq_some_iff.mp H
 obtain ⟨⟨t531, t532⟩, A20, H⟩ := H
 replace H : (if t532 = 0 then (if 0 < (l0.length : Int) then (if 1 < (l0.length : Int) then (if 4 ≤ t531 then (if t531 ≤ (l0.length : Int) then ((slices_Clone_byte_byte.f ((l0.take (t531 : Int).toNat).drop 4)).bind fun t539 => (some (rd l0 0, rd l0 1, t539, 0))) else (none)) else (none)) else (none)) else (none)) else (some (0, 0, ([] : List Int), t532))) = some (r1, r2, r3, r4) := H
 have A2 := Aside0.mk A20
 clear A20
 by_cases c3 : t532 = 0
 · rw [if_pos c3] at H
   have c3b0 : (t532 == 0) = true := beq_iff_eq.mpr c3
   have c3b1 : (t532 != 0) = false := bne_eq_false_iff_eq.mpr c3
   clear c3
   by_cases c4 : 0 < (l0.length : Int)
   · rw [if_pos c4] at H
     have c4b0 : decide (0 < (l0.length : Int)) = true := decide_eq_true c4
     have c4b1 : decide (0 < l0.length) = true := decide_eq_true (by omega)
     clear c4
     by_cases c5 : 1 < (l0.length : Int)
     · rw [if_pos c5] at H
       have c5b0 : decide (1 < (l0.length : Int)) = true := decide_eq_true c5
       have c5b1 : decide (1 < l0.length) = true := decide_eq_true (by omega)
       clear c5
       by_cases c6 : 4 ≤ t531
       · rw [if_pos c6] at H
         have c6b0 := eq_true c6
         have c6b1 : decide (4 ≤ t531) = true := decide_eq_true c6
         clear c6
         by_cases c7 : t531 ≤ (l0.length : Int)
         · rw [if_pos c7] at H
           have c7b0 := eq_true c7
           have c7b1 : decide (t531 ≤ (l0.length : Int)) = true := decide_eq_true c7
           clear c7
           obtain ⟨y535, hy535⟩ : ∃ y_ : List Int, y_ = ((l0.take (t531 : Int).toNat).drop 4) := ⟨_, rfl⟩
           replace H : ((slices_Clone_byte_byte.f y535).bind fun t539 => (some (rd l0 0, rd l0 1, t539, 0))) = some (r1, r2, r3, r4) := by first | (rw [hy535]; with_reducible exact H) | (have H2_ := (Option.bind_some _ _).symm.trans H; rw [hy535]; with_reducible exact H2_) | (have H2_ := (Option.bind_some _ _).symm.trans H; with_reducible exact H2_) | with_reducible exact H | (rw [hy535]; exact H) | exact H
           have Ny535 := Aside0.mk hy535
           clear hy535
           replace H := Option.bind_eq_some_iff.mp H
           obtain ⟨t539, A80, H⟩ := H
           replace H : (some (rd l0 0, rd l0 1, t539, 0)) = some (r1, r2, r3, r4) := H
           have A8 := Aside0.mk A80
           clear A80
           simp only [Option.some.injEq, Prod.mk.injEq] at H
           obtain ⟨rfl, rfl, rfl, rfl⟩ := H
           go_enter Try.func53, Try.ntmps53
           try go_wp2_with (first | ((with_reducible refine gate_callee (f := 60) rfl ?_); refine goesL_ (some 9) rfl rfl Try.func60 (by kernel_rfl) rfl #[.slice A0 l0.length c0] rfl (by (try simp only [List.map_toArray, List.map_cons, List.map_nil]); first | done | rfl | (simp only [List.length_drop, List.length_take]; rfl)) ?_; (with_reducible refine (ctl_size.calls k _ _ l0 t531 t532 _ ?side1 ?side2 A2.out).mono ?_); (case side1 => repeat (first | exact HR0.out | (with_reducible refine Kd.C_alloc ?_ _) | (with_reducible refine Kd.C_drewN ?_ _) | (with_reducible refine Kd.C_drew ?_))); (case side2 => exact HC0.out); rintro e w' ⟨rfl, ⟨nd, rfl⟩⟩; refine ⟨_, rfl, ?_⟩))
           rw [drewN_self w]
           generalize hq_ : World.drewN w _ = w9
           have n0_ := Aside0.mk (show Below w.heap.size w w9 from by rw [← hq_]; exact pw_below_drewN HB.out _)
           clear HB hq_
           have HB := n0_
           clear n0_
           have n0_ := Aside0.mk (below_drew1 HB.out)
           clear HB
           have HB := n0_
           clear n0_
           have p533 : 0 ≤ (0 : Int) := (by omega)
           have q533 : 0 < (l0.length : Int) := of_decide_eq_true (by first | (with_reducible assumption) | assumption)
           obtain ⟨ad533, e533, hx533_0⟩ := Kd.at_int HR0.out 0 p533 q533
           have hw533_0 := hx533_0
           (try rw [show ((0 : Int)).toNat = 0 from rfl] at hw533_0)
           (try rw [show 0 * 1 = 0 from rfl] at hw533_0)
           (try rw [Addr.add_zero'] at hw533_0)
           cases e533
           have qi533 : (0 < l0.length) = True := eq_true (by omega)
           (try rw [show ((0 : Int)).toNat = 0 from rfl] at hx533_0)
           (try rw [Addr.add_zero'] at hx533_0)
           replace hx533_0 := (HB.out.cell (World.block_lt_of_cell? w _ hx533_0)).trans hx533_0
           replace p533 := eq_true p533
           replace q533 := eq_true q533
           have p534 : 0 ≤ (1 : Int) := (by omega)
           have q534 : 1 < (l0.length : Int) := of_decide_eq_true (by first | (with_reducible assumption) | assumption)
           obtain ⟨ad534, e534, hx534_0⟩ := Kd.at_int HR0.out 1 p534 q534
           have hw534_0 := hx534_0
           (try rw [show ((1 : Int)).toNat = 1 from rfl] at hw534_0)
           (try rw [show 1 * 1 = 1 from rfl] at hw534_0)
           (try simp only [Nat.reduceMul, Nat.reduceEqDiff, Go.Addr.add, ↓reduceIte] at hw534_0)
           obtain rfl : ad533 = ad534 := (by injection e534)
           (try simp only [show (1 : Int).toNat = 1 from rfl, Nat.reduceMul, Nat.reduceEqDiff, Go.Addr.add, ↓reduceIte] at hx534_0)
           have qi534 : (1 < l0.length) = True := eq_true (by omega)
           (try rw [show ((1 : Int)).toNat = 1 from rfl] at hx534_0)
           replace hx534_0 := (HB.out.cell (World.block_lt_of_cell? w _ hx534_0)).trans hx534_0
           replace p534 := eq_true p534
           replace q534 := eq_true q534
           have q11 : (t531 : Int) ≤ ((l0.length : Int) : Int) := of_decide_eq_true (by first | (with_reducible assumption) | assumption)
           obtain ⟨i011, hi011, _, hsz11, _⟩ := info_parts info5
           have hroom11 : l0.length ≤ c0 := HC0.out
           have hC11 : Kd.C (Kd.int .u8) _ (some ad533) l0.length l0 := HR0.out
           have ql11 : (4 : Int) ≤ (t531 : Int) := of_decide_eq_true (by first | (with_reducible assumption) | assumption)
           have hcut11 := cut_mid (P := Try.prog) 23 5 .i64 .i64 Try.underlying23 hi011 1 hsz11 (some ad533) l0.length c0 4 t531 (by omega) ql11 q11 hroom11
           have hr11 := Kd.C_mid (lo := (4 : Int).toNat) (hi := (t531 : Int).toNat) (c := c0) hC11 (by omega) (by omega) hroom11
           obtain ⟨A11, hA11⟩ : ∃ A1, A1 = (if c0 = (4 : Int).toNat then (some ad533) else ((some ad533) : Option Addr).map (·.add ((4 : Int).toNat * 1))) := ⟨_, rfl⟩
           obtain ⟨c11, hc11⟩ : ∃ c1, c1 = c0 - (4 : Int).toNat := ⟨_, rfl⟩
           have hy11 : y535.length = (t531 : Int).toNat - (4 : Int).toNat := (by rw [Ny535.out, List.length_drop, List.length_take] <;> omega)
           rw [show ((l0).take (t531 : Int).toNat).drop (4 : Int).toNat = y535 from Ny535.out.symm] at hr11
           replace hr11 : Kd.C (Kd.int .u8) _ A11 y535.length y535 := (by rw [hA11]; exact hr11)
           rw [← hy11, ← hA11, ← hc11] at hcut11
           have HR538 := Aside0.mk hr11
           have HC538 := Aside0.mk (show y535.length ≤ c11 from by rw [hy11, hc11]; exact Nat.sub_le_sub_right (Nat.le_trans (by omega) hroom11) _)
           clear hr11 hC11 hroom11 hi011 hsz11 hc11
           have KY11 := Aside0.mk hy11
           have KA11 := Aside0.mk hA11
           clear hy11 hA11
           replace q11 := eq_true q11
           refine start_ (n := 14) (S := fun w' => w'.cell? ad533 = some (.int .u8 (rd l0 0)) ∧ w'.cell? ⟨ad533.block, ad533.off + 1, none⟩ = some (.int .u8 (rd l0 1))) (ds := []) #[false, false, false, false, false, false, false, false, false, false, false, false, false, false] (by kernel_rfl) rfl rfl ⟨((HB.out.cell (World.block_lt_of_cell? w _ hw533_0)).trans hw533_0), ((HB.out.cell (World.block_lt_of_cell? w _ hw534_0)).trans hw534_0)⟩ (fun hHeld => ?_); refine with_tabW ctl_Get.tab4 ctl_Get.bits4 (fun HT_ HW_ => ?_)
           generalize w9.drew = w10 at HB HR538 hx533_0 hx534_0 hHeld ⊢
           refine pure_ (i := 0) (N := some 15) (v := ?_) (a' := ?_) #[true, false, false, false, false, false, false, false, false, false, false, false, false, false] rfl rfl (any_of HT_.out (by kernel_rfl)) (fun _ _ _ h => h) (Or.inl ⟨by rfl, ?_⟩) ?_ ?_
           rotate_left
           · intro w'
             go_simp
             with_reducible rfl
           rotate_left
           · simp only [Act.put, List.setIfInBounds_toArray, List.set_cons_zero, List.set_cons_succ, i64_w, i32_w]
             rfl
           refine pure_ (i := 1) (N := some 16) (v := ?_) (a' := ?_) #[true, true, false, false, false, false, false, false, false, false, false, false, false, false] rfl rfl (any_of HT_.out (by kernel_rfl)) (fun _ _ _ h => h) (Or.inl ⟨by rfl, ?_⟩) ?_ ?_
           rotate_left
           · intro w'
             go_simp
             with_reducible rfl
           rotate_left
           · simp only [Act.put, List.setIfInBounds_toArray, List.set_cons_zero, List.set_cons_succ, i64_w, i32_w]
             rfl
           refine pure_ (i := 3) (N := some 18) (v := ?_) (a' := ?_) #[true, true, false, true, false, false, false, false, false, false, false, false, false, false] rfl rfl (any_of HT_.out (by kernel_rfl)) (fun _ _ _ h => h) (Or.inl ⟨by rfl, ?_⟩) ?_ ?_
           rotate_left
           · intro w'
             go_simp
             with_reducible rfl
           rotate_left
           · simp only [Act.put, List.setIfInBounds_toArray, List.set_cons_zero, List.set_cons_succ, i64_w, i32_w]
             rfl
           refine pure_ (i := 4) (N := some 19) (v := ?_) (a' := ?_) #[true, true, false, true, true, false, false, false, false, false, false, false, false, false] rfl rfl (any_of HT_.out (by kernel_rfl)) (fun _ _ _ h => h) (Or.inl ⟨by rfl, ?_⟩) ?_ ?_
           rotate_left
           · intro w'
             go_simp
             with_reducible rfl
           rotate_left
           · simp only [Act.put, List.setIfInBounds_toArray, List.set_cons_zero, List.set_cons_succ, i64_w, i32_w]
             rfl
           refine pure_ (i := 6) (N := some 21) (v := ?_) (a' := ?_) #[true, true, false, true, true, false, true, false, false, false, false, false, false, false] rfl rfl (any_of HT_.out (by kernel_rfl)) (fun _ _ _ h => h) (Or.inl ⟨by rfl, ?_⟩) ?_ ?_
           rotate_left
           · intro w'
             go_simp
             with_reducible rfl
           rotate_left
           · simp only [Act.put, List.setIfInBounds_toArray, List.set_cons_zero, List.set_cons_succ, i64_w, i32_w]
             rfl
           refine pure_ (i := 7) (N := some 22) (v := ?_) (a' := ?_) #[true, true, false, true, true, false, true, true, false, false, false, false, false, false] rfl rfl (any_of HT_.out (by kernel_rfl)) (fun _ _ _ h => h) (Or.inl ⟨by rfl, ?_⟩) ?_ ?_
           rotate_left
           · intro w'
             go_simp
             with_reducible rfl
           rotate_left
           · simp only [Act.put, List.setIfInBounds_toArray, List.set_cons_zero, List.set_cons_succ, i64_w, i32_w]
             rfl
           refine pure_ (i := 8) (N := some 23) (v := ?_) (a' := ?_) #[true, true, false, true, true, false, true, true, true, false, false, false, false, false] rfl rfl (any_of HT_.out (by kernel_rfl)) (fun _ _ _ h => h) (Or.inl ⟨by rfl, ?_⟩) ?_ ?_
           rotate_left
           · intro w'
             go_simp
             with_reducible rfl
           rotate_left
           · simp only [Act.put, List.setIfInBounds_toArray, List.set_cons_zero, List.set_cons_succ, i64_w, i32_w]
             rfl
           refine take_ (i := 2) (N := some 17) (v := ?_) (a' := ?_) #[true, true, true, true, true, false, true, true, true, false, false, false, false, false] rfl rfl (take_ofW HT_.out HW_.out (by kernel_rfl)) (fun _ _ _ h => h) (Or.inl ⟨by rfl, ?_⟩) hHeld ?_ ?_
           rotate_left
           · rintro w' ⟨s0, s1⟩
             go_simp
             with_reducible rfl
           rotate_left
           · simp only [Act.put, List.setIfInBounds_toArray, List.set_cons_zero, List.set_cons_succ, i64_w, i32_w]
             rfl
           refine take_ (i := 5) (N := some 20) (v := ?_) (a' := ?_) #[true, true, true, true, true, true, true, true, true, false, false, false, false, false] rfl rfl (take_ofW HT_.out HW_.out (by kernel_rfl)) (fun _ _ _ h => h) (Or.inl ⟨by rfl, ?_⟩) hHeld ?_ ?_
           rotate_left
           · rintro w' ⟨s0, s1⟩
             go_simp
             with_reducible rfl
           rotate_left
           · simp only [Act.put, List.setIfInBounds_toArray, List.set_cons_zero, List.set_cons_succ, i64_w, i32_w]
             rfl
           refine one_ (i := 9) (N := some 24) #[true, true, true, true, true, true, true, true, true, true, false, false, false, false] rfl rfl (one_of HT_.out (by kernel_rfl)) (by decide) (fun K hK => ?_)
           refine goes_ Try.func48 (by kernel_rfl) rfl #[.slice A11 y535.length c11] (by rfl) rfl rfl (by (try simp only [List.map_toArray, List.map_cons, List.map_nil]); first | done | rfl | (simp only [List.length_drop, List.length_take]; rfl)) ?_
           with_reducible refine (slices_Clone_byte_byte.calls _ _ y535 t539 _ ?side1 ?side2 A8.out).mono ?_
           (case side1 => repeat (first | exact (Kd.C_below HR538.out HB.out) | (with_reducible refine Kd.C_alloc ?_ _) | (with_reducible refine Kd.C_drewN ?_ _) | (with_reducible refine Kd.C_drew ?_)))
           (case side2 => exact HC538.out)
           rintro e w12 ⟨v540, rfl, ho0, hb⟩
           refine ⟨_, rfl, ?_⟩
           have n0_ := Aside0.mk (Kd.R_lower ho0 (below_size (by repeat (first | (with_reducible first | exact HB.out | apply below_alloc | apply pw_below_drewN | apply below_drew1) | exact HB.out))))
           have n1_ := Aside0.mk (below_step (by repeat (first | (with_reducible first | exact HB.out | apply below_alloc | apply pw_below_drewN | apply below_drew1) | exact HB.out)) hb)
           clear HB
           have HO541 := n0_
           have HB := n1_
           clear n0_ n1_
           (try clear hb)
           (try clear hb2)
           (try clear hk)
           (try clear hi)
           (try clear ho0)
           refine hK.out _ _ ⟨((HB.out.cell (World.block_lt_of_cell? w _ hw533_0)).trans hw533_0), ((HB.out.cell (World.block_lt_of_cell? w _ hw534_0)).trans hw534_0)⟩ (fun hHeld => ?_)
           clear hK K
           refine norm_ (a' := ?_) ?_ ?_
           rotate_left
           · show Act.put _ (some 24) _ = _
             simp only [Act.put, List.setIfInBounds_toArray, List.set_cons_zero, List.set_cons_succ, i64_w, i32_w]
             rfl
           refine pure_ (i := 10) (N := some 2) (v := ?_) (a' := ?_) #[true, true, true, true, true, true, true, true, true, true, true, false, false, false] rfl rfl (any_of HT_.out (by kernel_rfl)) (fun _ _ _ h => h) (Or.inl ⟨by rfl, ?_⟩) ?_ ?_
           rotate_left
           · intro w'
             go_simp
             with_reducible rfl
           rotate_left
           · simp only [Act.put, List.setIfInBounds_toArray, List.set_cons_zero, List.set_cons_succ, i64_w, i32_w]
             rfl
           refine pure_ (i := 11) (N := some 3) (v := ?_) (a' := ?_) #[true, true, true, true, true, true, true, true, true, true, true, true, false, false] rfl rfl (any_of HT_.out (by kernel_rfl)) (fun _ _ _ h => h) (Or.inl ⟨by rfl, ?_⟩) ?_ ?_
           rotate_left
           · intro w'
             go_simp
             with_reducible rfl
           rotate_left
           · simp only [Act.put, List.setIfInBounds_toArray, List.set_cons_zero, List.set_cons_succ, i64_w, i32_w]
             rfl
           refine pure_ (i := 12) (N := some 4) (v := ?_) (a' := ?_) #[true, true, true, true, true, true, true, true, true, true, true, true, true, false] rfl rfl (any_of HT_.out (by kernel_rfl)) (fun _ _ _ h => h) (Or.inl ⟨by rfl, ?_⟩) ?_ ?_
           rotate_left
           · intro w'
             go_simp
             with_reducible rfl
           rotate_left
           · simp only [Act.put, List.setIfInBounds_toArray, List.set_cons_zero, List.set_cons_succ, i64_w, i32_w]
             rfl
           refine pure_ (i := 13) (N := some 5) (v := ?_) (a' := ?_) #[true, true, true, true, true, true, true, true, true, true, true, true, true, true] rfl rfl (any_of HT_.out (by kernel_rfl)) (fun _ _ _ h => h) (Or.inl ⟨by rfl, ?_⟩) ?_ ?_
           rotate_left
           · intro w'
             go_simp
             with_reducible rfl
           rotate_left
           · simp only [Act.put, List.setIfInBounds_toArray, List.set_cons_zero, List.set_cons_succ, i64_w, i32_w]
             rfl
           refine done_ (done_of HT_.out (by kernel_rfl)) ?_
           try go_wp2
           refine bodyPost_ret (results_list (rs := [.tmp 2, .tmp 3, .tmp 4, .tmp 5]) rfl (by simp) (.tmp (.tmp (.tmp (.tmp .nil))))) rfl ?_
           exact ⟨_, by first | rfl | (simp [errW_none, errW_some] <;> rfl) | (simp [*, errW_none, errW_some] <;> rfl), by (with_reducible repeat (first | apply Kd.R_alloc | apply Kd.R_drewN | apply Kd.R_drew)); exact HO541.out, by repeat (first | (with_reducible first | exact HB.out | apply below_alloc | apply pw_below_drewN | apply below_drew1) | exact HB.out)⟩
         · rw [if_neg c7] at H
           exact absurd H (by simp)
       · rw [if_neg c6] at H
         exact absurd H (by simp)
     · rw [if_neg c5] at H
       exact absurd H (by simp)
   · rw [if_neg c4] at H
     exact absurd H (by simp)
 · rw [if_neg c3] at H
   have c3b0 : (t532 == 0) = false := beq_eq_false_iff_ne.mpr c3
   have c3b1 : (t532 != 0) = true := bne_iff_ne.mpr c3
   simp only [Option.some.injEq, Prod.mk.injEq] at H
   obtain ⟨rfl, rfl, rfl, rfl⟩ := H
   go_enter Try.func53, Try.ntmps53
   go_wp2_with (first | ((with_reducible refine gate_callee (f := 60) rfl ?_); refine goesL_ (some 9) rfl rfl Try.func60 (by kernel_rfl) rfl #[.slice A0 l0.length c0] rfl (by (try simp only [List.map_toArray, List.map_cons, List.map_nil]); first | done | rfl | (simp only [List.length_drop, List.length_take]; rfl)) ?_; (with_reducible refine (ctl_size.calls k _ _ l0 t531 t532 _ ?side1 ?side2 A2.out).mono ?_); (case side1 => repeat (first | exact HR0.out | (with_reducible refine Kd.C_alloc ?_ _) | (with_reducible refine Kd.C_drewN ?_ _) | (with_reducible refine Kd.C_drew ?_))); (case side2 => exact HC0.out); rintro e w' ⟨rfl, ⟨nd, rfl⟩⟩; refine ⟨_, rfl, ?_⟩))
   refine bodyPost_ret (results_list (rs := [.tmp 2, .tmp 3, .tmp 4, .tmp 5]) rfl (by simp) (.tmp (.tmp (.tmp (.tmp .nil))))) rfl ?_
   exact ⟨_, by first | rfl | (simp [errW_none, errW_some] <;> rfl) | (simp [*, errW_none, errW_some] <;> rfl), by first | exact Kd.R_nil _ _ _ _ _ | exact Kd.N_nil _ _ _ _ _ | exact Kd.V_nil _ _ _ _ _ | exact Kd.Q_nil _ _ _ _ _ | exact Kd.S_nil _ _ _ _ _, by repeat (first | (with_reducible first | exact HB.out | apply below_alloc | apply pw_below_drewN | apply below_drew1) | exact HB.out)⟩
end Go.Proofs.Ytgjeahgagciagaa.Print
namespace Go.Proofs.Ytgjeahgagciagaa.Print
open Go.RowKit Go.Proofs.YtgjeahgagciagaaW.PrintWords Go.Proofs.YtgjeahgagciagaaW.PrintLast Go.Proofs.YtgjeahgagciagaaW.PrintMore
attribute [local go_sem] max2_int min2_int max_two min_two max_three min_three max_four min_four
set_option linter.unusedVariables false
set_option linter.unusedSimpArgs false
def chap_Get.f (k : Nat) (l0 : List Int) : Option (Int × Int × Int × (List (S57)) × Int × Int × List Int × List Int × List Int × List Int × Int) := (ctl_Get.f k l0).bind fun bt615 => (if bt615.2.2.2 = 0 then ((chap_valued.f bt615.1).bind fun t622 => (if t622 = true then (if (bt615.2.2.1.length : Int) = 0 then (some (0, 0, 0, ([] : List (S57)), 0, 0, ([] : List Int), ([] : List Int), ([] : List Int), ([] : List Int), 2)) else (if 0 < (bt615.2.2.1.length : Int) then (if (rd bt615.2.2.1 0) = 0 then (some (0, 0, 0, ([] : List (S57)), 0, 0, ([] : List Int), ([] : List Int), ([] : List Int), ([] : List Int), 4)) else (if (wrap64 (1 + (wrap64 (rd bt615.2.2.1 0)))) > (bt615.2.2.1.length : Int) then (some (0, 0, 0, ([] : List (S57)), 0, 0, ([] : List Int), ([] : List Int), ([] : List Int), ([] : List Int), 2)) else (if 1 ≤ (wrap64 (1 + (wrap64 (rd bt615.2.2.1 0)))) then (if (wrap64 (1 + (wrap64 (rd bt615.2.2.1 0)))) ≤ (bt615.2.2.1.length : Int) then ((slices_Clone_byte_byte.f ((bt615.2.2.1.take ((wrap64 (1 + (wrap64 (rd bt615.2.2.1 0)))) : Int).toNat).drop 1)).bind fun t629 => (if 0 ≤ (wrap64 (1 + (wrap64 (rd bt615.2.2.1 0)))) then ((slices_Clone_byte_byte.f (bt615.2.2.1.drop ((wrap64 (1 + (wrap64 (rd bt615.2.2.1 0)))) : Int).toNat)).bind fun t636 => (some (49699, bt615.1, bt615.2.1, ([] : List (S57)), 0, 0, t629, t636, ([] : List Int), ([] : List Int), 0))) else (none))) else (none)) else (none)))) else (none))) else (some (49699, bt615.1, bt615.2.1, ([] : List (S57)), 0, 0, ([] : List Int), ([] : List Int), bt615.2.2.1, ([] : List Int), 0)))) else (some (0, 0, 0, ([] : List (S57)), 0, 0, ([] : List Int), ([] : List Int), ([] : List Int), ([] : List Int), bt615.2.2.2)))
def chap_Get.T15 : Bool × List (List Nat × List Nat) := (true, [([], []), ([], []), ([0, 1], [0, 1]), ([2], [2]), ([], []), ([], []), ([4, 5], [4, 5]), ([6, 3], [6]), ([0, 1, 2, 3], []), ([8, 3, 7, 0, 1, 2, 3], [3, 8]), ([0, 1, 2, 3, 4, 5, 6, 7, 8, 9], []), ([10, 7, 9, 0, 1, 2, 3, 4, 5, 6, 7, 8, 9], [7, 10])])
def chap_Get.B15 : List Nat := [0, 0, 3, 7, 0, 0, 48, 127, 15, 511, 1023, 2047]
theorem chap_Get.tab15 : rtab .any (opsOf Try.f38 15) = chap_Get.T15 := by kernel_rfl
theorem chap_Get.bits15 : waitsOk chap_Get.T15.2 chap_Get.B15 = true := by kernel_rfl
set_option maxHeartbeats 8000000 in
set_option maxRecDepth 100000 in
theorem chap_Get.calls (k : Nat) (A0 : Option Addr) (c0 : Nat) (l0 : List Int) (r1 : Int) (r2 : Int) (r3 : Int) (r4 : List (S57)) (r5 : Int) (r6 : Int) (r7 : List Int) (r8 : List Int) (r9 : List Int) (r10 : List Int) (r11 : Int) (w : World) (hr0 : Kd.C (Kd.int .u8) w A0 l0.length l0) (hc0 : l0.length ≤ c0) (h : chap_Get.f k l0 = some (r1, r2, r3, r4, r5, r6, r7, r8, r9, r10, r11)) :
 Calls Try.prog 38 #[.slice A0 l0.length c0] w fun e w' => ∃ v3_ v6_ v7_ v8_ v9_ : Value, e = .returned (.tuple #[.agg #[.int .u16 r1, .int .u8 r2, .int .u8 r3, v3_, .int .u16 r5, .int .u32 r6, v6_, v7_, v8_, v9_], .int .i64 r11]) ∧ Kd.S k57 57 w' w.heap.size (fun k_ => some k_ ≠ (v6_ : Value).ownBlock ∧ some k_ ≠ (v7_ : Value).ownBlock ∧ some k_ ≠ (v8_ : Value).ownBlock) v3_ r4 ∧ Kd.R (Kd.int .u8) 5 w' w.heap.size (fun k_ => some k_ ≠ (v7_ : Value).ownBlock ∧ some k_ ≠ (v8_ : Value).ownBlock) v6_ r7 ∧ Kd.R (Kd.int .u8) 5 w' w.heap.size (fun k_ => some k_ ≠ (v6_ : Value).ownBlock ∧ some k_ ≠ (v8_ : Value).ownBlock) v7_ r8 ∧ Kd.R (Kd.int .u8) 5 w' w.heap.size (fun k_ => some k_ ≠ (v6_ : Value).ownBlock ∧ some k_ ≠ (v7_ : Value).ownBlock) v8_ r9 ∧ Kd.R (Kd.int .u32) 41 w' w.heap.size (fun _ => True) v9_ r10 ∧ Below w.heap.size w w' := by
 have hu47 := Try.underlying47
 have HR0 := Aside0.mk hr0
 have HC0 := Aside0.mk hc0
 clear hr0 hc0
 have HB := Aside0.mk (Below.refl w.heap.size w)
 have H : ((ctl_Get.f k l0).bind fun bt615 => (if bt615.2.2.2 = 0 then ((chap_valued.f bt615.1).bind fun t622 => (if t622 = true then (if (bt615.2.2.1.length : Int) = 0 then (some (0, 0, 0, ([] : List (S57)), 0, 0, ([] : List Int), ([] : List Int), ([] : List Int), ([] : List Int), 2)) else (if 0 < (bt615.2.2.1.length : Int) then (if (rd bt615.2.2.1 0) = 0 then (some (0, 0, 0, ([] : List (S57)), 0, 0, ([] : List Int), ([] : List Int), ([] : List Int), ([] : List Int), 4)) else (if (wrap64 (1 + (wrap64 (rd bt615.2.2.1 0)))) > (bt615.2.2.1.length : Int) then (some (0, 0, 0, ([] : List (S57)), 0, 0, ([] : List Int), ([] : List Int), ([] : List Int), ([] : List Int), 2)) else (if 1 ≤ (wrap64 (1 + (wrap64 (rd bt615.2.2.1 0)))) then (if (wrap64 (1 + (wrap64 (rd bt615.2.2.1 0)))) ≤ (bt615.2.2.1.length : Int) then ((slices_Clone_byte_byte.f ((bt615.2.2.1.take ((wrap64 (1 + (wrap64 (rd bt615.2.2.1 0)))) : Int).toNat).drop 1)).bind fun t629 => (if 0 ≤ (wrap64 (1 + (wrap64 (rd bt615.2.2.1 0)))) then ((slices_Clone_byte_byte.f (bt615.2.2.1.drop ((wrap64 (1 + (wrap64 (rd bt615.2.2.1 0)))) : Int).toNat)).bind fun t636 => (some (49699, bt615.1, bt615.2.1, ([] : List (S57)), 0, 0, t629, t636, ([] : List Int), ([] : List Int), 0))) else (none))) else (none)) else (none)))) else (none))) else (some (49699, bt615.1, bt615.2.1, ([] : List (S57)), 0, 0, ([] : List Int), ([] : List Int), bt615.2.2.1, ([] : List Int), 0)))) else (some (0, 0, 0, ([] : List (S57)), 0, 0, ([] : List Int), ([] : List Int), ([] : List Int), ([] : List Int), bt615.2.2.2)))) = some (r1, r2, r3, r4, r5, r6, r7, r8, r9, r10, r11) := h
 clear h
 replace H := Option.bind_eq_some_iff.mp H
 obtain ⟨⟨t615, t616, t617, t618⟩, A20, H⟩ := H
 replace H : (if t618 = 0 then ((chap_valued.f t615).bind fun t622 => (if t622 = true then (if (t617.length : Int) = 0 then (some (0, 0, 0, ([] : List (S57)), 0, 0, ([] : List Int), ([] : List Int), ([] : List Int), ([] : List Int), 2)) else (if 0 < (t617.length : Int) then (if (rd t617 0) = 0 then (some (0, 0, 0, ([] : List (S57)), 0, 0, ([] : List Int), ([] : List Int), ([] : List Int), ([] : List Int), 4)) else (if (wrap64 (1 + (wrap64 (rd t617 0)))) > (t617.length : Int) then (some (0, 0, 0, ([] : List (S57)), 0, 0, ([] : List Int), ([] : List Int), ([] : List Int), ([] : List Int), 2)) else (if 1 ≤ (wrap64 (1 + (wrap64 (rd t617 0)))) then (if (wrap64 (1 + (wrap64 (rd t617 0)))) ≤ (t617.length : Int) then ((slices_Clone_byte_byte.f ((t617.take ((wrap64 (1 + (wrap64 (rd t617 0)))) : Int).toNat).drop 1)).bind fun t629 => (if 0 ≤ (wrap64 (1 + (wrap64 (rd t617 0)))) then ((slices_Clone_byte_byte.f (t617.drop ((wrap64 (1 + (wrap64 (rd t617 0)))) : Int).toNat)).bind fun t636 => (some (49699, t615, t616, ([] : List (S57)), 0, 0, t629, t636, ([] : List Int), ([] : List Int), 0))) else (none))) else (none)) else (none)))) else (none))) else (some (49699, t615, t616, ([] : List (S57)), 0, 0, ([] : List Int), ([] : List Int), t617, ([] : List Int), 0)))) else (some (0, 0, 0, ([] : List (S57)), 0, 0, ([] : List Int), ([] : List Int), ([] : List Int), ([] : List Int), t618))) = some (r1, r2, r3, r4, r5, r6, r7, r8, r9, r10, r11) := H
 have A2 := Aside0.mk A20
 clear A20
 by_cases c3 : t618 = 0
 · rw [if_pos c3] at H
   have c3b0 : (t618 == 0) = true := beq_iff_eq.mpr c3
   have c3b1 : (t618 != 0) = false := bne_eq_false_iff_eq.mpr c3
   clear c3
   replace H := Option.bind_eq_some_iff.mp H
   obtain ⟨t622, A40, H⟩ := H
   replace H : (if t622 = true then (if (t617.length : Int) = 0 then (some (0, 0, 0, ([] : List (S57)), 0, 0, ([] : List Int), ([] : List Int), ([] : List Int), ([] : List Int), 2)) else (if 0 < (t617.length : Int) then (if (rd t617 0) = 0 then (some (0, 0, 0, ([] : List (S57)), 0, 0, ([] : List Int), ([] : List Int), ([] : List Int), ([] : List Int), 4)) else (if (wrap64 (1 + (wrap64 (rd t617 0)))) > (t617.length : Int) then (some (0, 0, 0, ([] : List (S57)), 0, 0, ([] : List Int), ([] : List Int), ([] : List Int), ([] : List Int), 2)) else (if 1 ≤ (wrap64 (1 + (wrap64 (rd t617 0)))) then (if (wrap64 (1 + (wrap64 (rd t617 0)))) ≤ (t617.length : Int) then ((slices_Clone_byte_byte.f ((t617.take ((wrap64 (1 + (wrap64 (rd t617 0)))) : Int).toNat).drop 1)).bind fun t629 => (if 0 ≤ (wrap64 (1 + (wrap64 (rd t617 0)))) then ((slices_Clone_byte_byte.f (t617.drop ((wrap64 (1 + (wrap64 (rd t617 0)))) : Int).toNat)).bind fun t636 => (some (49699, t615, t616, ([] : List (S57)), 0, 0, t629, t636, ([] : List Int), ([] : List Int), 0))) else (none))) else (none)) else (none)))) else (none))) else (some (49699, t615, t616, ([] : List (S57)), 0, 0, ([] : List Int), ([] : List Int), t617, ([] : List Int), 0))) = some (r1, r2, r3, r4, r5, r6, r7, r8, r9, r10, r11) := H
   have A4 := Aside0.mk A40
   clear A40
   by_cases c5 : t622 = true
   · subst c5
     have H1 : (if (t617.length : Int) = 0 then (some (0, 0, 0, ([] : List (S57)), 0, 0, ([] : List Int), ([] : List Int), ([] : List Int), ([] : List Int), 2)) else (if 0 < (t617.length : Int) then (if (rd t617 0) = 0 then (some (0, 0, 0, ([] : List (S57)), 0, 0, ([] : List Int), ([] : List Int), ([] : List Int), ([] : List Int), 4)) else (if (wrap64 (1 + (wrap64 (rd t617 0)))) > (t617.length : Int) then (some (0, 0, 0, ([] : List (S57)), 0, 0, ([] : List Int), ([] : List Int), ([] : List Int), ([] : List Int), 2)) else (if 1 ≤ (wrap64 (1 + (wrap64 (rd t617 0)))) then (if (wrap64 (1 + (wrap64 (rd t617 0)))) ≤ (t617.length : Int) then ((slices_Clone_byte_byte.f ((t617.take ((wrap64 (1 + (wrap64 (rd t617 0)))) : Int).toNat).drop 1)).bind fun t629 => (if 0 ≤ (wrap64 (1 + (wrap64 (rd t617 0)))) then ((slices_Clone_byte_byte.f (t617.drop ((wrap64 (1 + (wrap64 (rd t617 0)))) : Int).toNat)).bind fun t636 => (some (49699, t615, t616, ([] : List (S57)), 0, 0, t629, t636, ([] : List Int), ([] : List Int), 0))) else (none))) else (none)) else (none)))) else (none))) = some (r1, r2, r3, r4, r5, r6, r7, r8, r9, r10, r11) := by rw [if_pos rfl] at H; exact H
     clear H
     have H := H1
     clear H1
     by_cases c6 : (t617.length : Int) = 0
     · rw [if_pos c6] at H
       have c6b0 : ((t617.length : Int) == 0) = true := beq_iff_eq.mpr c6
       have c6b1 : ((t617.length : Int) != 0) = false := bne_eq_false_iff_eq.mpr c6
       clear c6
       simp only [Option.some.injEq, Prod.mk.injEq] at H
       obtain ⟨rfl, rfl, rfl, rfl, rfl, rfl, rfl, rfl, rfl, rfl, rfl⟩ := H
       go_enter Try.func38, Try.ntmps38
       go_wp2_with (first | ((with_reducible refine gate_dst (N := 2) rfl ?_); refine box_event ?hg (N := 2) ?hd (cs := #[.int .u16 0, .int .u8 0, .int .u8 0, .slice none 0 0, .int .u16 0, .int .u32 0, .slice none 0 0, .slice none 0 0, .slice none 0 0, .slice none 0 0]) (t := 47) ?hr ?_; (case hd => rfl); (case hg => rfl); (case hr => first | (go_simp; done) | (go_simp; simp only [IntKind.wrap_u8, IntKind.wrap_u16, IntKind.wrap_u32, IntKind.wrap_u64]; done) | (go_simp; rfl)); intro gb614 hg w7 hbox hb; have n0_ := Aside0.mk (below_step (by repeat (first | (with_reducible first | exact HB.out | apply below_alloc | apply pw_below_drewN | apply below_drew1) | exact HB.out)) hb); have n1_ := Aside0.mk (hbox); have n2_ := Aside0.mk ((by rw [hg]; exact (below_size (by repeat (first | (with_reducible first | exact HB.out | apply below_alloc | apply pw_below_drewN | apply below_drew1) | exact HB.out))) : w.heap.size ≤ gb614)); have n3_ := Aside0.mk ((by rw [hg]; exact (below_size (by repeat (first | (with_reducible first | exact HB.out | apply below_alloc | apply pw_below_drewN | apply below_drew1) | exact HB.out))) : w.heap.size ≤ gb614)); clear HB; have HB := n0_; have BK614 := n1_; have GW614 := n2_; have GE614 := n3_; clear n0_ n1_ n2_ n3_; clear hb hbox hg) | ((with_reducible refine gate_callee (f := 53) rfl ?_); refine goesL_ (some 12) rfl rfl Try.func53 (by kernel_rfl) rfl #[.slice A0 l0.length c0] rfl (by (try simp only [List.map_toArray, List.map_cons, List.map_nil]); first | done | rfl | (simp only [List.length_drop, List.length_take]; rfl)) ?_; (with_reducible refine (ctl_Get.calls k _ _ l0 t615 t616 t617 t618 _ ?side1 ?side2 A2.out).mono ?_); (case side1 => repeat (first | exact (Kd.C_below HR0.out HB.out) | (with_reducible refine Kd.C_alloc ?_ _) | (with_reducible refine Kd.C_drewN ?_ _) | (with_reducible refine Kd.C_drew ?_))); (case side2 => exact HC0.out); rintro e w8 ⟨v619, rfl, ho0, hb⟩; refine ⟨_, rfl, ?_⟩; have n0_ := Aside0.mk (Kd.R_lower ho0 (below_size (by repeat (first | (with_reducible first | exact HB.out | apply below_alloc | apply pw_below_drewN | apply below_drew1 | refine below_set ?_ GE614.out) | exact HB.out)))); have n1_ := Aside0.mk (blk_below (g := gb614) (o := .cells #[.int .u16 0, .int .u8 0, .int .u8 0, .slice none 0 0, .int .u16 0, .int .u32 0, .slice none 0 0, .slice none 0 0, .slice none 0 0, .slice none 0 0] 47 (0, 0)) (by (with_reducible repeat (first | refine blk_drewN ?_ _ | refine blk_drew ?_ | refine blk_alloc ?_ _)); exact BK614.out) hb); have n2_ := Aside0.mk (below_step (by repeat (first | (with_reducible first | exact HB.out | apply below_alloc | apply pw_below_drewN | apply below_drew1 | refine below_set ?_ GE614.out) | exact HB.out)) hb); clear BK614; clear HB; have HO620 := n0_; have BK614 := n1_; have HB := n2_; clear n0_ n1_ n2_; (try clear hb); (try clear hb2); (try clear hk); (try clear hi); (try clear ho0)) | ((with_reducible refine gate_dst (N := 8) rfl ?_); refine box_event ?hg (N := 8) ?hd (cs := #[.int .u16 0, .int .u8 0, .int .u8 0, .slice none 0 0, .int .u16 0, .int .u32 0, .slice none 0 0, .slice none 0 0, .slice none 0 0, .slice none 0 0]) (t := 47) ?hr ?_; (case hd => rfl); (case hg => rfl); (case hr => first | (go_simp; done) | (go_simp; simp only [IntKind.wrap_u8, IntKind.wrap_u16, IntKind.wrap_u32, IntKind.wrap_u64]; done) | (go_simp; rfl)); intro gb621 hg w9 hbox hb; have n0_ := Aside0.mk (Kd.R_below (by (with_reducible repeat (first | apply Kd.R_alloc | apply Kd.R_drewN | apply Kd.R_drew)); exact HO620.out) hb); have n1_ := Aside0.mk (blk_below (g := gb614) (o := .cells #[.int .u16 0, .int .u8 0, .int .u8 0, .slice none 0 0, .int .u16 0, .int .u32 0, .slice none 0 0, .slice none 0 0, .slice none 0 0, .slice none 0 0] 47 (0, 0)) (by (with_reducible repeat (first | refine blk_drewN ?_ _ | refine blk_drew ?_ | refine blk_alloc ?_ _)); exact BK614.out) hb); have n2_ := Aside0.mk (below_step (by repeat (first | (with_reducible first | exact HB.out | apply below_alloc | apply pw_below_drewN | apply below_drew1 | refine below_set ?_ GE614.out) | exact HB.out)) hb); have n3_ := Aside0.mk (hbox); have n4_ := Aside0.mk ((by rw [hg]; exact (below_size (by repeat (first | (with_reducible first | exact HB.out | apply below_alloc | apply pw_below_drewN | apply below_drew1 | refine below_set ?_ GE614.out) | exact HB.out))) : w.heap.size ≤ gb621)); have n5_ := Aside0.mk ((by rw [hg]; exact (below_size (by repeat (first | (with_reducible first | exact HB.out | apply below_alloc | apply pw_below_drewN | apply below_drew1 | refine below_set ?_ GE614.out) | exact HB.out))) : w.heap.size ≤ gb621)); have n6_ := Aside0.mk ((by rw [hg]; exact Nat.ne_of_lt (blk_lt (g := gb614) (o := .cells #[.int .u16 0, .int .u8 0, .int .u8 0, .slice none 0 0, .int .u16 0, .int .u32 0, .slice none 0 0, .slice none 0 0, .slice none 0 0, .slice none 0 0] 47 (0, 0)) (by (with_reducible repeat (first | refine blk_drewN ?_ _ | refine blk_drew ?_ | refine blk_alloc ?_ _)); exact BK614.out)) : gb614 ≠ gb621)); have n7_ := Aside0.mk ((by rw [hg]; exact Nat.ne_of_gt (blk_lt (g := gb614) (o := .cells #[.int .u16 0, .int .u8 0, .int .u8 0, .slice none 0 0, .int .u16 0, .int .u32 0, .slice none 0 0, .slice none 0 0, .slice none 0 0, .slice none 0 0] 47 (0, 0)) (by (with_reducible repeat (first | refine blk_drewN ?_ _ | refine blk_drew ?_ | refine blk_alloc ?_ _)); exact BK614.out)) : gb621 ≠ gb614)); clear HO620; clear BK614; clear HB; have HO620 := n0_; have BK614 := n1_; have HB := n2_; have BK621 := n3_; have GW621 := n4_; have GE621 := n5_; have NB614_621 := n6_; have NB621_614 := n7_; clear n0_ n1_ n2_ n3_ n4_ n5_ n6_ n7_; clear hb hbox hg; have hnb10 := NB621_614.out; have hnc10 := NB614_621.out; obtain ⟨⟨hcz11_0, hcz11_1, hcz11_2, hcz11_3, hcz11_4, hcz11_5, hcz11_6, hcz11_7, hcz11_8, hcz11_9⟩, hfz11_0, hfz11_1, hfz11_2, hfz11_3, hfz11_4, hfz11_5, hfz11_6, hfz11_7, hfz11_8, hfz11_9⟩ := cz10 BK621.out) | ((with_reducible refine gate_callee (f := 57) rfl ?_); have n0_ : Aside0 (Kd.R (Kd.int .u8) 5 ((((((((((w9.setCell ⟨gb621, 0, none⟩ (.int .u16 49699)).setCell ⟨gb621, 1, none⟩ (.int .u8 t615)).setCell ⟨gb621, 2, none⟩ (.int .u8 t616)).setCell ⟨gb621, 3, none⟩ (.slice none 0 0)).setCell ⟨gb621, 4, none⟩ (.int .u16 0)).setCell ⟨gb621, 5, none⟩ (.int .u32 0)).setCell ⟨gb621, 6, none⟩ (.slice none 0 0)).setCell ⟨gb621, 7, none⟩ (.slice none 0 0)).setCell ⟨gb621, 8, none⟩ (.slice none 0 0)).setCell ⟨gb621, 9, none⟩ (.slice none 0 0)) w.heap.size (fun _ => True) v619 t617) := ⟨by (with_reducible repeat (first | apply Kd.R_alloc | apply Kd.R_drewN | apply Kd.R_drew)); exact Kd.R_mono (Kd.R_far (p := ⟨gb621, 9, none⟩) (Kd.R_far (p := ⟨gb621, 8, none⟩) (Kd.R_far (p := ⟨gb621, 7, none⟩) (Kd.R_far (p := ⟨gb621, 6, none⟩) (Kd.R_far (p := ⟨gb621, 5, none⟩) (Kd.R_far (p := ⟨gb621, 4, none⟩) (Kd.R_far (p := ⟨gb621, 3, none⟩) (Kd.R_far (p := ⟨gb621, 2, none⟩) (Kd.R_far (p := ⟨gb621, 1, none⟩) (Kd.R_far (p := ⟨gb621, 0, none⟩) (Kd.R_types HO620.out BK621.out (by decide)) (fun _ hk => hk.2) (.int .u16 49699)) (fun _ hk => hk.2) (.int .u8 t615)) (fun _ hk => hk.2) (.int .u8 t616)) (fun _ hk => hk.2) (.slice none 0 0)) (fun _ hk => hk.2) (.int .u16 0)) (fun _ hk => hk.2) (.int .u32 0)) (fun _ hk => hk.2) (.slice none 0 0)) (fun _ hk => hk.2) (.slice none 0 0)) (fun _ hk => hk.2) (.slice none 0 0)) (fun _ hk => hk.2) (.slice none 0 0)) (fun _ hk => trivial)⟩; have n1_ : Aside0 (((((((((((w9.setCell ⟨gb621, 0, none⟩ (.int .u16 49699)).setCell ⟨gb621, 1, none⟩ (.int .u8 t615)).setCell ⟨gb621, 2, none⟩ (.int .u8 t616)).setCell ⟨gb621, 3, none⟩ (.slice none 0 0)).setCell ⟨gb621, 4, none⟩ (.int .u16 0)).setCell ⟨gb621, 5, none⟩ (.int .u32 0)).setCell ⟨gb621, 6, none⟩ (.slice none 0 0)).setCell ⟨gb621, 7, none⟩ (.slice none 0 0)).setCell ⟨gb621, 8, none⟩ (.slice none 0 0)).setCell ⟨gb621, 9, none⟩ (.slice none 0 0)).heap[gb614]? = some (.cells #[.int .u16 0, .int .u8 0, .int .u8 0, .slice none 0 0, .int .u16 0, .int .u32 0, .slice none 0 0, .slice none 0 0, .slice none 0 0, .slice none 0 0] 47 (0, 0))) := ⟨by (with_reducible repeat (first | refine blk_drewN ?_ _ | refine blk_drew ?_ | refine blk_alloc ?_ _)); refine blk_far ?_ NB614_621.out _; (with_reducible repeat (first | refine blk_drewN ?_ _ | refine blk_drew ?_ | refine blk_alloc ?_ _)); refine blk_far ?_ NB614_621.out _; (with_reducible repeat (first | refine blk_drewN ?_ _ | refine blk_drew ?_ | refine blk_alloc ?_ _)); refine blk_far ?_ NB614_621.out _; (with_reducible repeat (first | refine blk_drewN ?_ _ | refine blk_drew ?_ | refine blk_alloc ?_ _)); refine blk_far ?_ NB614_621.out _; (with_reducible repeat (first | refine blk_drewN ?_ _ | refine blk_drew ?_ | refine blk_alloc ?_ _)); refine blk_far ?_ NB614_621.out _; (with_reducible repeat (first | refine blk_drewN ?_ _ | refine blk_drew ?_ | refine blk_alloc ?_ _)); refine blk_far ?_ NB614_621.out _; (with_reducible repeat (first | refine blk_drewN ?_ _ | refine blk_drew ?_ | refine blk_alloc ?_ _)); refine blk_far ?_ NB614_621.out _; (with_reducible repeat (first | refine blk_drewN ?_ _ | refine blk_drew ?_ | refine blk_alloc ?_ _)); refine blk_far ?_ NB614_621.out _; (with_reducible repeat (first | refine blk_drewN ?_ _ | refine blk_drew ?_ | refine blk_alloc ?_ _)); refine blk_far ?_ NB614_621.out _; (with_reducible repeat (first | refine blk_drewN ?_ _ | refine blk_drew ?_ | refine blk_alloc ?_ _)); refine blk_far ?_ NB614_621.out _; (with_reducible repeat (first | refine blk_drewN ?_ _ | refine blk_drew ?_ | refine blk_alloc ?_ _)); exact BK614.out⟩; have n2_ : Aside0 (((((((((((w9.setCell ⟨gb621, 0, none⟩ (.int .u16 49699)).setCell ⟨gb621, 1, none⟩ (.int .u8 t615)).setCell ⟨gb621, 2, none⟩ (.int .u8 t616)).setCell ⟨gb621, 3, none⟩ (.slice none 0 0)).setCell ⟨gb621, 4, none⟩ (.int .u16 0)).setCell ⟨gb621, 5, none⟩ (.int .u32 0)).setCell ⟨gb621, 6, none⟩ (.slice none 0 0)).setCell ⟨gb621, 7, none⟩ (.slice none 0 0)).setCell ⟨gb621, 8, none⟩ (.slice none 0 0)).setCell ⟨gb621, 9, none⟩ (.slice none 0 0)).heap[gb621]? = some (.cells #[.int .u16 49699, .int .u8 t615, .int .u8 t616, .slice none 0 0, .int .u16 0, .int .u32 0, .slice none 0 0, .slice none 0 0, .slice none 0 0, .slice none 0 0] 47 (0, 0))) := ⟨by (with_reducible repeat (first | refine blk_drewN ?_ _ | refine blk_drew ?_ | refine blk_alloc ?_ _)); refine blk_put (cs := #[.int .u16 49699, .int .u8 t615, .int .u8 t616, .slice none 0 0, .int .u16 0, .int .u32 0, .slice none 0 0, .slice none 0 0, .slice none 0 0, .slice none 0 0]) ?_ 9 _ rfl; (with_reducible repeat (first | refine blk_drewN ?_ _ | refine blk_drew ?_ | refine blk_alloc ?_ _)); refine blk_put (cs := #[.int .u16 49699, .int .u8 t615, .int .u8 t616, .slice none 0 0, .int .u16 0, .int .u32 0, .slice none 0 0, .slice none 0 0, .slice none 0 0, .slice none 0 0]) ?_ 8 _ rfl; (with_reducible repeat (first | refine blk_drewN ?_ _ | refine blk_drew ?_ | refine blk_alloc ?_ _)); refine blk_put (cs := #[.int .u16 49699, .int .u8 t615, .int .u8 t616, .slice none 0 0, .int .u16 0, .int .u32 0, .slice none 0 0, .slice none 0 0, .slice none 0 0, .slice none 0 0]) ?_ 7 _ rfl; (with_reducible repeat (first | refine blk_drewN ?_ _ | refine blk_drew ?_ | refine blk_alloc ?_ _)); refine blk_put (cs := #[.int .u16 49699, .int .u8 t615, .int .u8 t616, .slice none 0 0, .int .u16 0, .int .u32 0, .slice none 0 0, .slice none 0 0, .slice none 0 0, .slice none 0 0]) ?_ 6 _ rfl; (with_reducible repeat (first | refine blk_drewN ?_ _ | refine blk_drew ?_ | refine blk_alloc ?_ _)); refine blk_put (cs := #[.int .u16 49699, .int .u8 t615, .int .u8 t616, .slice none 0 0, .int .u16 0, .int .u32 0, .slice none 0 0, .slice none 0 0, .slice none 0 0, .slice none 0 0]) ?_ 5 _ rfl; (with_reducible repeat (first | refine blk_drewN ?_ _ | refine blk_drew ?_ | refine blk_alloc ?_ _)); refine blk_put (cs := #[.int .u16 49699, .int .u8 t615, .int .u8 t616, .slice none 0 0, .int .u16 0, .int .u32 0, .slice none 0 0, .slice none 0 0, .slice none 0 0, .slice none 0 0]) ?_ 4 _ rfl; (with_reducible repeat (first | refine blk_drewN ?_ _ | refine blk_drew ?_ | refine blk_alloc ?_ _)); refine blk_put (cs := #[.int .u16 49699, .int .u8 t615, .int .u8 t616, .slice none 0 0, .int .u16 0, .int .u32 0, .slice none 0 0, .slice none 0 0, .slice none 0 0, .slice none 0 0]) ?_ 3 _ rfl; (with_reducible repeat (first | refine blk_drewN ?_ _ | refine blk_drew ?_ | refine blk_alloc ?_ _)); refine blk_put (cs := #[.int .u16 49699, .int .u8 t615, .int .u8 0, .slice none 0 0, .int .u16 0, .int .u32 0, .slice none 0 0, .slice none 0 0, .slice none 0 0, .slice none 0 0]) ?_ 2 _ rfl; (with_reducible repeat (first | refine blk_drewN ?_ _ | refine blk_drew ?_ | refine blk_alloc ?_ _)); refine blk_put (cs := #[.int .u16 49699, .int .u8 0, .int .u8 0, .slice none 0 0, .int .u16 0, .int .u32 0, .slice none 0 0, .slice none 0 0, .slice none 0 0, .slice none 0 0]) ?_ 1 _ rfl; (with_reducible repeat (first | refine blk_drewN ?_ _ | refine blk_drew ?_ | refine blk_alloc ?_ _)); refine blk_put (cs := #[.int .u16 0, .int .u8 0, .int .u8 0, .slice none 0 0, .int .u16 0, .int .u32 0, .slice none 0 0, .slice none 0 0, .slice none 0 0, .slice none 0 0]) ?_ 0 _ rfl; (with_reducible repeat (first | refine blk_drewN ?_ _ | refine blk_drew ?_ | refine blk_alloc ?_ _)); exact BK621.out⟩; have n3_ : Aside0 (Below w.heap.size w ((((((((((w9.setCell ⟨gb621, 0, none⟩ (.int .u16 49699)).setCell ⟨gb621, 1, none⟩ (.int .u8 t615)).setCell ⟨gb621, 2, none⟩ (.int .u8 t616)).setCell ⟨gb621, 3, none⟩ (.slice none 0 0)).setCell ⟨gb621, 4, none⟩ (.int .u16 0)).setCell ⟨gb621, 5, none⟩ (.int .u32 0)).setCell ⟨gb621, 6, none⟩ (.slice none 0 0)).setCell ⟨gb621, 7, none⟩ (.slice none 0 0)).setCell ⟨gb621, 8, none⟩ (.slice none 0 0)).setCell ⟨gb621, 9, none⟩ (.slice none 0 0))) := ⟨by repeat (first | (with_reducible first | exact HB.out | apply below_alloc | apply pw_below_drewN | apply below_drew1 | refine below_set ?_ GE614.out | refine below_set ?_ GE621.out) | exact HB.out)⟩; (try clear HO620); (try clear BK614); (try clear BK621); (try clear HB); generalize ((((((((((w9.setCell ⟨gb621, 0, none⟩ (.int .u16 49699)).setCell ⟨gb621, 1, none⟩ (.int .u8 t615)).setCell ⟨gb621, 2, none⟩ (.int .u8 t616)).setCell ⟨gb621, 3, none⟩ (.slice none 0 0)).setCell ⟨gb621, 4, none⟩ (.int .u16 0)).setCell ⟨gb621, 5, none⟩ (.int .u32 0)).setCell ⟨gb621, 6, none⟩ (.slice none 0 0)).setCell ⟨gb621, 7, none⟩ (.slice none 0 0)).setCell ⟨gb621, 8, none⟩ (.slice none 0 0)).setCell ⟨gb621, 9, none⟩ (.slice none 0 0)) = w12 at n0_ n1_ n2_ n3_ ⊢; have HO620 := n0_; have BK614 := n1_; have BK621 := n2_; have HB := n3_; clear n0_ n1_ n2_ n3_; refine goesL_ (some 27) rfl rfl Try.func57 (by kernel_rfl) rfl #[.int .u8 t615] rfl (by (try simp only [List.map_toArray, List.map_cons, List.map_nil]); first | done | rfl | (simp only [List.length_drop, List.length_take]; rfl)) ?_; (with_reducible refine (chap_valued.calls t615 true _ A4.out).mono ?_); rintro e w' ⟨rfl, ⟨nd, rfl⟩⟩; refine ⟨_, rfl, ?_⟩; (try (rw [drewN_self w12]; generalize hq_ : World.drewN w12 _ = w12; have n0_ : Aside0 (Kd.R (Kd.int .u8) 5 w12 w.heap.size (fun _ => True) v619 t617) := ⟨by rw [← hq_]; exact (by (with_reducible repeat (first | apply Kd.R_alloc | apply Kd.R_drewN | apply Kd.R_drew)); exact HO620.out)⟩; have n1_ : Aside0 (w12.heap[gb614]? = some (.cells #[.int .u16 0, .int .u8 0, .int .u8 0, .slice none 0 0, .int .u16 0, .int .u32 0, .slice none 0 0, .slice none 0 0, .slice none 0 0, .slice none 0 0] 47 (0, 0))) := ⟨by rw [← hq_]; exact (by (with_reducible repeat (first | refine blk_drewN ?_ _ | refine blk_drew ?_ | refine blk_alloc ?_ _)); exact BK614.out)⟩; have n2_ : Aside0 (w12.heap[gb621]? = some (.cells #[.int .u16 49699, .int .u8 t615, .int .u8 t616, .slice none 0 0, .int .u16 0, .int .u32 0, .slice none 0 0, .slice none 0 0, .slice none 0 0, .slice none 0 0] 47 (0, 0))) := ⟨by rw [← hq_]; exact (by (with_reducible repeat (first | refine blk_drewN ?_ _ | refine blk_drew ?_ | refine blk_alloc ?_ _)); exact BK621.out)⟩; have n3_ : Aside0 (Below w.heap.size w w12) := ⟨by rw [← hq_]; exact (by repeat (first | (with_reducible first | exact HB.out | apply below_alloc | apply pw_below_drewN | apply below_drew1 | refine below_set ?_ GE614.out | refine below_set ?_ GE621.out) | exact HB.out))⟩; clear HO620 BK614 BK621 HB hq_; have HO620 := n0_; have BK614 := n1_; have BK621 := n2_; have HB := n3_; clear n0_ n1_ n2_ n3_)); obtain ⟨Ao13, co13, eo13⟩ := Kd.R_slice HO620.out; subst eo13; obtain ⟨⟨hcz14_0, hcz14_1, hcz14_2, hcz14_3, hcz14_4, hcz14_5, hcz14_6, hcz14_7, hcz14_8, hcz14_9⟩, hfz14_0, hfz14_1, hfz14_2, hfz14_3, hfz14_4, hfz14_5, hfz14_6, hfz14_7, hfz14_8, hfz14_9⟩ := cz10 BK614.out))
       refine bodyPost_ret (results_ct rfl _ _ gb614 47 #[.int .u16 0, .int .u8 0, .int .u8 0, .slice none 0 0, .int .u16 0, .int .u32 0, .slice none 0 0, .slice none 0 0, .slice none 0 0, .slice none 0 0] (0, 0) _ rfl (by (with_reducible repeat (first | refine blk_drewN ?_ _ | refine blk_drew ?_ | refine blk_alloc ?_ _)); refine blk_put (cs := #[.int .u16 0, .int .u8 0, .int .u8 0, .slice none 0 0, .int .u16 0, .int .u32 0, .slice none 0 0, .slice none 0 0, .slice none 0 0, .slice none 0 0]) ?_ 9 _ rfl; (with_reducible repeat (first | refine blk_drewN ?_ _ | refine blk_drew ?_ | refine blk_alloc ?_ _)); refine blk_put (cs := #[.int .u16 0, .int .u8 0, .int .u8 0, .slice none 0 0, .int .u16 0, .int .u32 0, .slice none 0 0, .slice none 0 0, .slice none 0 0, .slice none 0 0]) ?_ 8 _ rfl; (with_reducible repeat (first | refine blk_drewN ?_ _ | refine blk_drew ?_ | refine blk_alloc ?_ _)); refine blk_put (cs := #[.int .u16 0, .int .u8 0, .int .u8 0, .slice none 0 0, .int .u16 0, .int .u32 0, .slice none 0 0, .slice none 0 0, .slice none 0 0, .slice none 0 0]) ?_ 7 _ rfl; (with_reducible repeat (first | refine blk_drewN ?_ _ | refine blk_drew ?_ | refine blk_alloc ?_ _)); refine blk_put (cs := #[.int .u16 0, .int .u8 0, .int .u8 0, .slice none 0 0, .int .u16 0, .int .u32 0, .slice none 0 0, .slice none 0 0, .slice none 0 0, .slice none 0 0]) ?_ 6 _ rfl; (with_reducible repeat (first | refine blk_drewN ?_ _ | refine blk_drew ?_ | refine blk_alloc ?_ _)); refine blk_put (cs := #[.int .u16 0, .int .u8 0, .int .u8 0, .slice none 0 0, .int .u16 0, .int .u32 0, .slice none 0 0, .slice none 0 0, .slice none 0 0, .slice none 0 0]) ?_ 5 _ rfl; (with_reducible repeat (first | refine blk_drewN ?_ _ | refine blk_drew ?_ | refine blk_alloc ?_ _)); refine blk_put (cs := #[.int .u16 0, .int .u8 0, .int .u8 0, .slice none 0 0, .int .u16 0, .int .u32 0, .slice none 0 0, .slice none 0 0, .slice none 0 0, .slice none 0 0]) ?_ 4 _ rfl; (with_reducible repeat (first | refine blk_drewN ?_ _ | refine blk_drew ?_ | refine blk_alloc ?_ _)); refine blk_put (cs := #[.int .u16 0, .int .u8 0, .int .u8 0, .slice none 0 0, .int .u16 0, .int .u32 0, .slice none 0 0, .slice none 0 0, .slice none 0 0, .slice none 0 0]) ?_ 3 _ rfl; (with_reducible repeat (first | refine blk_drewN ?_ _ | refine blk_drew ?_ | refine blk_alloc ?_ _)); refine blk_put (cs := #[.int .u16 0, .int .u8 0, .int .u8 0, .slice none 0 0, .int .u16 0, .int .u32 0, .slice none 0 0, .slice none 0 0, .slice none 0 0, .slice none 0 0]) ?_ 2 _ rfl; (with_reducible repeat (first | refine blk_drewN ?_ _ | refine blk_drew ?_ | refine blk_alloc ?_ _)); refine blk_put (cs := #[.int .u16 0, .int .u8 0, .int .u8 0, .slice none 0 0, .int .u16 0, .int .u32 0, .slice none 0 0, .slice none 0 0, .slice none 0 0, .slice none 0 0]) ?_ 1 _ rfl; (with_reducible repeat (first | refine blk_drewN ?_ _ | refine blk_drew ?_ | refine blk_alloc ?_ _)); refine blk_put (cs := #[.int .u16 0, .int .u8 0, .int .u8 0, .slice none 0 0, .int .u16 0, .int .u32 0, .slice none 0 0, .slice none 0 0, .slice none 0 0, .slice none 0 0]) ?_ 0 _ rfl; (with_reducible repeat (first | refine blk_drewN ?_ _ | refine blk_drew ?_ | refine blk_alloc ?_ _)); exact BK614.out) Try.underlying47 rfl (by kernel_rfl)) rfl ?_
       exact ⟨_, _, _, _, _, by first | rfl | (simp [errW_none, errW_some] <;> rfl) | (simp [*, errW_none, errW_some] <;> rfl), by first | exact Kd.S_nil _ _ _ _ _ | exact Kd.N_nil _ _ _ _ _ | exact Kd.V_nil _ _ _ _ _ | exact Kd.Q_nil _ _ _ _ _ | exact Kd.R_nil _ _ _ _ _, by first | exact Kd.R_nil _ _ _ _ _ | exact Kd.N_nil _ _ _ _ _ | exact Kd.V_nil _ _ _ _ _ | exact Kd.Q_nil _ _ _ _ _ | exact Kd.S_nil _ _ _ _ _, by first | exact Kd.R_nil _ _ _ _ _ | exact Kd.N_nil _ _ _ _ _ | exact Kd.V_nil _ _ _ _ _ | exact Kd.Q_nil _ _ _ _ _ | exact Kd.S_nil _ _ _ _ _, by first | exact Kd.R_nil _ _ _ _ _ | exact Kd.N_nil _ _ _ _ _ | exact Kd.V_nil _ _ _ _ _ | exact Kd.Q_nil _ _ _ _ _ | exact Kd.S_nil _ _ _ _ _, by first | exact Kd.R_nil _ _ _ _ _ | exact Kd.N_nil _ _ _ _ _ | exact Kd.V_nil _ _ _ _ _ | exact Kd.Q_nil _ _ _ _ _ | exact Kd.S_nil _ _ _ _ _, by repeat (first | (with_reducible first | exact HB.out | apply below_alloc | apply pw_below_drewN | apply below_drew1 | refine below_set ?_ GE614.out | refine below_set ?_ GE621.out) | exact HB.out)⟩
     · rw [if_neg c6] at H
       have c6b0 : ((t617.length : Int) == 0) = false := beq_eq_false_iff_ne.mpr c6
       have c6b1 : ((t617.length : Int) != 0) = true := bne_iff_ne.mpr c6
       have c6b2 : ¬ (t617 = []) := fun h_ => c6 (by rw [h_]; rfl)
       by_cases c15 : 0 < (t617.length : Int)
       · rw [if_pos c15] at H
         have c15b0 : decide (0 < (t617.length : Int)) = true := decide_eq_true c15
         have c15b1 : decide (0 < t617.length) = true := decide_eq_true (by omega)
         clear c15
         by_cases c16 : (rd t617 0) = 0
         · rw [if_pos c16] at H
           have c16b0 : ((rd t617 0) == 0) = true := beq_iff_eq.mpr c16
           have c16b1 : ((rd t617 0) != 0) = false := bne_eq_false_iff_eq.mpr c16
           clear c16
           simp only [Option.some.injEq, Prod.mk.injEq] at H
           obtain ⟨rfl, rfl, rfl, rfl, rfl, rfl, rfl, rfl, rfl, rfl, rfl⟩ := H
           go_enter Try.func38, Try.ntmps38
           go_wp2_with (first | ((with_reducible refine gate_dst (N := 2) rfl ?_); refine box_event ?hg (N := 2) ?hd (cs := #[.int .u16 0, .int .u8 0, .int .u8 0, .slice none 0 0, .int .u16 0, .int .u32 0, .slice none 0 0, .slice none 0 0, .slice none 0 0, .slice none 0 0]) (t := 47) ?hr ?_; (case hd => rfl); (case hg => rfl); (case hr => first | (go_simp; done) | (go_simp; simp only [IntKind.wrap_u8, IntKind.wrap_u16, IntKind.wrap_u32, IntKind.wrap_u64]; done) | (go_simp; rfl)); intro gb614 hg w17 hbox hb; have n0_ := Aside0.mk (below_step (by repeat (first | (with_reducible first | exact HB.out | apply below_alloc | apply pw_below_drewN | apply below_drew1) | exact HB.out)) hb); have n1_ := Aside0.mk (hbox); have n2_ := Aside0.mk ((by rw [hg]; exact (below_size (by repeat (first | (with_reducible first | exact HB.out | apply below_alloc | apply pw_below_drewN | apply below_drew1) | exact HB.out))) : w.heap.size ≤ gb614)); have n3_ := Aside0.mk ((by rw [hg]; exact (below_size (by repeat (first | (with_reducible first | exact HB.out | apply below_alloc | apply pw_below_drewN | apply below_drew1) | exact HB.out))) : w.heap.size ≤ gb614)); clear HB; have HB := n0_; have BK614 := n1_; have GW614 := n2_; have GE614 := n3_; clear n0_ n1_ n2_ n3_; clear hb hbox hg) | ((with_reducible refine gate_callee (f := 53) rfl ?_); refine goesL_ (some 12) rfl rfl Try.func53 (by kernel_rfl) rfl #[.slice A0 l0.length c0] rfl (by (try simp only [List.map_toArray, List.map_cons, List.map_nil]); first | done | rfl | (simp only [List.length_drop, List.length_take]; rfl)) ?_; (with_reducible refine (ctl_Get.calls k _ _ l0 t615 t616 t617 t618 _ ?side1 ?side2 A2.out).mono ?_); (case side1 => repeat (first | exact (Kd.C_below HR0.out HB.out) | (with_reducible refine Kd.C_alloc ?_ _) | (with_reducible refine Kd.C_drewN ?_ _) | (with_reducible refine Kd.C_drew ?_))); (case side2 => exact HC0.out); rintro e w18 ⟨v619, rfl, ho0, hb⟩; refine ⟨_, rfl, ?_⟩; have n0_ := Aside0.mk (Kd.R_lower ho0 (below_size (by repeat (first | (with_reducible first | exact HB.out | apply below_alloc | apply pw_below_drewN | apply below_drew1 | refine below_set ?_ GE614.out) | exact HB.out)))); have n1_ := Aside0.mk (blk_below (g := gb614) (o := .cells #[.int .u16 0, .int .u8 0, .int .u8 0, .slice none 0 0, .int .u16 0, .int .u32 0, .slice none 0 0, .slice none 0 0, .slice none 0 0, .slice none 0 0] 47 (0, 0)) (by (with_reducible repeat (first | refine blk_drewN ?_ _ | refine blk_drew ?_ | refine blk_alloc ?_ _)); exact BK614.out) hb); have n2_ := Aside0.mk (below_step (by repeat (first | (with_reducible first | exact HB.out | apply below_alloc | apply pw_below_drewN | apply below_drew1 | refine below_set ?_ GE614.out) | exact HB.out)) hb); clear BK614; clear HB; have HO620 := n0_; have BK614 := n1_; have HB := n2_; clear n0_ n1_ n2_; (try clear hb); (try clear hb2); (try clear hk); (try clear hi); (try clear ho0)) | ((with_reducible refine gate_dst (N := 8) rfl ?_); refine box_event ?hg (N := 8) ?hd (cs := #[.int .u16 0, .int .u8 0, .int .u8 0, .slice none 0 0, .int .u16 0, .int .u32 0, .slice none 0 0, .slice none 0 0, .slice none 0 0, .slice none 0 0]) (t := 47) ?hr ?_; (case hd => rfl); (case hg => rfl); (case hr => first | (go_simp; done) | (go_simp; simp only [IntKind.wrap_u8, IntKind.wrap_u16, IntKind.wrap_u32, IntKind.wrap_u64]; done) | (go_simp; rfl)); intro gb621 hg w19 hbox hb; have n0_ := Aside0.mk (Kd.R_below (by (with_reducible repeat (first | apply Kd.R_alloc | apply Kd.R_drewN | apply Kd.R_drew)); exact HO620.out) hb); have n1_ := Aside0.mk (blk_below (g := gb614) (o := .cells #[.int .u16 0, .int .u8 0, .int .u8 0, .slice none 0 0, .int .u16 0, .int .u32 0, .slice none 0 0, .slice none 0 0, .slice none 0 0, .slice none 0 0] 47 (0, 0)) (by (with_reducible repeat (first | refine blk_drewN ?_ _ | refine blk_drew ?_ | refine blk_alloc ?_ _)); exact BK614.out) hb); have n2_ := Aside0.mk (below_step (by repeat (first | (with_reducible first | exact HB.out | apply below_alloc | apply pw_below_drewN | apply below_drew1 | refine below_set ?_ GE614.out) | exact HB.out)) hb); have n3_ := Aside0.mk (hbox); have n4_ := Aside0.mk ((by rw [hg]; exact (below_size (by repeat (first | (with_reducible first | exact HB.out | apply below_alloc | apply pw_below_drewN | apply below_drew1 | refine below_set ?_ GE614.out) | exact HB.out))) : w.heap.size ≤ gb621)); have n5_ := Aside0.mk ((by rw [hg]; exact (below_size (by repeat (first | (with_reducible first | exact HB.out | apply below_alloc | apply pw_below_drewN | apply below_drew1 | refine below_set ?_ GE614.out) | exact HB.out))) : w.heap.size ≤ gb621)); have n6_ := Aside0.mk ((by rw [hg]; exact Nat.ne_of_lt (blk_lt (g := gb614) (o := .cells #[.int .u16 0, .int .u8 0, .int .u8 0, .slice none 0 0, .int .u16 0, .int .u32 0, .slice none 0 0, .slice none 0 0, .slice none 0 0, .slice none 0 0] 47 (0, 0)) (by (with_reducible repeat (first | refine blk_drewN ?_ _ | refine blk_drew ?_ | refine blk_alloc ?_ _)); exact BK614.out)) : gb614 ≠ gb621)); have n7_ := Aside0.mk ((by rw [hg]; exact Nat.ne_of_gt (blk_lt (g := gb614) (o := .cells #[.int .u16 0, .int .u8 0, .int .u8 0, .slice none 0 0, .int .u16 0, .int .u32 0, .slice none 0 0, .slice none 0 0, .slice none 0 0, .slice none 0 0] 47 (0, 0)) (by (with_reducible repeat (first | refine blk_drewN ?_ _ | refine blk_drew ?_ | refine blk_alloc ?_ _)); exact BK614.out)) : gb621 ≠ gb614)); clear HO620; clear BK614; clear HB; have HO620 := n0_; have BK614 := n1_; have HB := n2_; have BK621 := n3_; have GW621 := n4_; have GE621 := n5_; have NB614_621 := n6_; have NB621_614 := n7_; clear n0_ n1_ n2_ n3_ n4_ n5_ n6_ n7_; clear hb hbox hg; have hnb20 := NB621_614.out; have hnc20 := NB614_621.out; obtain ⟨⟨hcz21_0, hcz21_1, hcz21_2, hcz21_3, hcz21_4, hcz21_5, hcz21_6, hcz21_7, hcz21_8, hcz21_9⟩, hfz21_0, hfz21_1, hfz21_2, hfz21_3, hfz21_4, hfz21_5, hfz21_6, hfz21_7, hfz21_8, hfz21_9⟩ := cz10 BK621.out) | ((with_reducible refine gate_callee (f := 57) rfl ?_); have n0_ : Aside0 (Kd.R (Kd.int .u8) 5 ((((((((((w19.setCell ⟨gb621, 0, none⟩ (.int .u16 49699)).setCell ⟨gb621, 1, none⟩ (.int .u8 t615)).setCell ⟨gb621, 2, none⟩ (.int .u8 t616)).setCell ⟨gb621, 3, none⟩ (.slice none 0 0)).setCell ⟨gb621, 4, none⟩ (.int .u16 0)).setCell ⟨gb621, 5, none⟩ (.int .u32 0)).setCell ⟨gb621, 6, none⟩ (.slice none 0 0)).setCell ⟨gb621, 7, none⟩ (.slice none 0 0)).setCell ⟨gb621, 8, none⟩ (.slice none 0 0)).setCell ⟨gb621, 9, none⟩ (.slice none 0 0)) w.heap.size (fun _ => True) v619 t617) := ⟨by (with_reducible repeat (first | apply Kd.R_alloc | apply Kd.R_drewN | apply Kd.R_drew)); exact Kd.R_mono (Kd.R_far (p := ⟨gb621, 9, none⟩) (Kd.R_far (p := ⟨gb621, 8, none⟩) (Kd.R_far (p := ⟨gb621, 7, none⟩) (Kd.R_far (p := ⟨gb621, 6, none⟩) (Kd.R_far (p := ⟨gb621, 5, none⟩) (Kd.R_far (p := ⟨gb621, 4, none⟩) (Kd.R_far (p := ⟨gb621, 3, none⟩) (Kd.R_far (p := ⟨gb621, 2, none⟩) (Kd.R_far (p := ⟨gb621, 1, none⟩) (Kd.R_far (p := ⟨gb621, 0, none⟩) (Kd.R_types HO620.out BK621.out (by decide)) (fun _ hk => hk.2) (.int .u16 49699)) (fun _ hk => hk.2) (.int .u8 t615)) (fun _ hk => hk.2) (.int .u8 t616)) (fun _ hk => hk.2) (.slice none 0 0)) (fun _ hk => hk.2) (.int .u16 0)) (fun _ hk => hk.2) (.int .u32 0)) (fun _ hk => hk.2) (.slice none 0 0)) (fun _ hk => hk.2) (.slice none 0 0)) (fun _ hk => hk.2) (.slice none 0 0)) (fun _ hk => hk.2) (.slice none 0 0)) (fun _ hk => trivial)⟩; have n1_ : Aside0 (((((((((((w19.setCell ⟨gb621, 0, none⟩ (.int .u16 49699)).setCell ⟨gb621, 1, none⟩ (.int .u8 t615)).setCell ⟨gb621, 2, none⟩ (.int .u8 t616)).setCell ⟨gb621, 3, none⟩ (.slice none 0 0)).setCell ⟨gb621, 4, none⟩ (.int .u16 0)).setCell ⟨gb621, 5, none⟩ (.int .u32 0)).setCell ⟨gb621, 6, none⟩ (.slice none 0 0)).setCell ⟨gb621, 7, none⟩ (.slice none 0 0)).setCell ⟨gb621, 8, none⟩ (.slice none 0 0)).setCell ⟨gb621, 9, none⟩ (.slice none 0 0)).heap[gb614]? = some (.cells #[.int .u16 0, .int .u8 0, .int .u8 0, .slice none 0 0, .int .u16 0, .int .u32 0, .slice none 0 0, .slice none 0 0, .slice none 0 0, .slice none 0 0] 47 (0, 0))) := ⟨by (with_reducible repeat (first | refine blk_drewN ?_ _ | refine blk_drew ?_ | refine blk_alloc ?_ _)); refine blk_far ?_ NB614_621.out _; (with_reducible repeat (first | refine blk_drewN ?_ _ | refine blk_drew ?_ | refine blk_alloc ?_ _)); refine blk_far ?_ NB614_621.out _; (with_reducible repeat (first | refine blk_drewN ?_ _ | refine blk_drew ?_ | refine blk_alloc ?_ _)); refine blk_far ?_ NB614_621.out _; (with_reducible repeat (first | refine blk_drewN ?_ _ | refine blk_drew ?_ | refine blk_alloc ?_ _)); refine blk_far ?_ NB614_621.out _; (with_reducible repeat (first | refine blk_drewN ?_ _ | refine blk_drew ?_ | refine blk_alloc ?_ _)); refine blk_far ?_ NB614_621.out _; (with_reducible repeat (first | refine blk_drewN ?_ _ | refine blk_drew ?_ | refine blk_alloc ?_ _)); refine blk_far ?_ NB614_621.out _; (with_reducible repeat (first | refine blk_drewN ?_ _ | refine blk_drew ?_ | refine blk_alloc ?_ _)); refine blk_far ?_ NB614_621.out _; (with_reducible repeat (first | refine blk_drewN ?_ _ | refine blk_drew ?_ | refine blk_alloc ?_ _)); refine blk_far ?_ NB614_621.out _; (with_reducible repeat (first | refine blk_drewN ?_ _ | refine blk_drew ?_ | refine blk_alloc ?_ _)); refine blk_far ?_ NB614_621.out _; (with_reducible repeat (first | refine blk_drewN ?_ _ | refine blk_drew ?_ | refine blk_alloc ?_ _)); refine blk_far ?_ NB614_621.out _; (with_reducible repeat (first | refine blk_drewN ?_ _ | refine blk_drew ?_ | refine blk_alloc ?_ _)); exact BK614.out⟩; have n2_ : Aside0 (((((((((((w19.setCell ⟨gb621, 0, none⟩ (.int .u16 49699)).setCell ⟨gb621, 1, none⟩ (.int .u8 t615)).setCell ⟨gb621, 2, none⟩ (.int .u8 t616)).setCell ⟨gb621, 3, none⟩ (.slice none 0 0)).setCell ⟨gb621, 4, none⟩ (.int .u16 0)).setCell ⟨gb621, 5, none⟩ (.int .u32 0)).setCell ⟨gb621, 6, none⟩ (.slice none 0 0)).setCell ⟨gb621, 7, none⟩ (.slice none 0 0)).setCell ⟨gb621, 8, none⟩ (.slice none 0 0)).setCell ⟨gb621, 9, none⟩ (.slice none 0 0)).heap[gb621]? = some (.cells #[.int .u16 49699, .int .u8 t615, .int .u8 t616, .slice none 0 0, .int .u16 0, .int .u32 0, .slice none 0 0, .slice none 0 0, .slice none 0 0, .slice none 0 0] 47 (0, 0))) := ⟨by (with_reducible repeat (first | refine blk_drewN ?_ _ | refine blk_drew ?_ | refine blk_alloc ?_ _)); refine blk_put (cs := #[.int .u16 49699, .int .u8 t615, .int .u8 t616, .slice none 0 0, .int .u16 0, .int .u32 0, .slice none 0 0, .slice none 0 0, .slice none 0 0, .slice none 0 0]) ?_ 9 _ rfl; (with_reducible repeat (first | refine blk_drewN ?_ _ | refine blk_drew ?_ | refine blk_alloc ?_ _)); refine blk_put (cs := #[.int .u16 49699, .int .u8 t615, .int .u8 t616, .slice none 0 0, .int .u16 0, .int .u32 0, .slice none 0 0, .slice none 0 0, .slice none 0 0, .slice none 0 0]) ?_ 8 _ rfl; (with_reducible repeat (first | refine blk_drewN ?_ _ | refine blk_drew ?_ | refine blk_alloc ?_ _)); refine blk_put (cs := #[.int .u16 49699, .int .u8 t615, .int .u8 t616, .slice none 0 0, .int .u16 0, .int .u32 0, .slice none 0 0, .slice none 0 0, .slice none 0 0, .slice none 0 0]) ?_ 7 _ rfl; (with_reducible repeat (first | refine blk_drewN ?_ _ | refine blk_drew ?_ | refine blk_alloc ?_ _)); refine blk_put (cs := #[.int .u16 49699, .int .u8 t615, .int .u8 t616, .slice none 0 0, .int .u16 0, .int .u32 0, .slice none 0 0, .slice none 0 0, .slice none 0 0, .slice none 0 0]) ?_ 6 _ rfl; (with_reducible repeat (first | refine blk_drewN ?_ _ | refine blk_drew ?_ | refine blk_alloc ?_ _)); refine blk_put (cs := #[.int .u16 49699, .int .u8 t615, .int .u8 t616, .slice none 0 0, .int .u16 0, .int .u32 0, .slice none 0 0, .slice none 0 0, .slice none 0 0, .slice none 0 0]) ?_ 5 _ rfl; (with_reducible repeat (first | refine blk_drewN ?_ _ | refine blk_drew ?_ | refine blk_alloc ?_ _)); refine blk_put (cs := #[.int .u16 49699, .int .u8 t615, .int .u8 t616, .slice none 0 0, .int .u16 0, .int .u32 0, .slice none 0 0, .slice none 0 0, .slice none 0 0, .slice none 0 0]) ?_ 4 _ rfl; (with_reducible repeat (first | refine blk_drewN ?_ _ | refine blk_drew ?_ | refine blk_alloc ?_ _)); refine blk_put (cs := #[.int .u16 49699, .int .u8 t615, .int .u8 t616, .slice none 0 0, .int .u16 0, .int .u32 0, .slice none 0 0, .slice none 0 0, .slice none 0 0, .slice none 0 0]) ?_ 3 _ rfl; (with_reducible repeat (first | refine blk_drewN ?_ _ | refine blk_drew ?_ | refine blk_alloc ?_ _)); refine blk_put (cs := #[.int .u16 49699, .int .u8 t615, .int .u8 0, .slice none 0 0, .int .u16 0, .int .u32 0, .slice none 0 0, .slice none 0 0, .slice none 0 0, .slice none 0 0]) ?_ 2 _ rfl; (with_reducible repeat (first | refine blk_drewN ?_ _ | refine blk_drew ?_ | refine blk_alloc ?_ _)); refine blk_put (cs := #[.int .u16 49699, .int .u8 0, .int .u8 0, .slice none 0 0, .int .u16 0, .int .u32 0, .slice none 0 0, .slice none 0 0, .slice none 0 0, .slice none 0 0]) ?_ 1 _ rfl; (with_reducible repeat (first | refine blk_drewN ?_ _ | refine blk_drew ?_ | refine blk_alloc ?_ _)); refine blk_put (cs := #[.int .u16 0, .int .u8 0, .int .u8 0, .slice none 0 0, .int .u16 0, .int .u32 0, .slice none 0 0, .slice none 0 0, .slice none 0 0, .slice none 0 0]) ?_ 0 _ rfl; (with_reducible repeat (first | refine blk_drewN ?_ _ | refine blk_drew ?_ | refine blk_alloc ?_ _)); exact BK621.out⟩; have n3_ : Aside0 (Below w.heap.size w ((((((((((w19.setCell ⟨gb621, 0, none⟩ (.int .u16 49699)).setCell ⟨gb621, 1, none⟩ (.int .u8 t615)).setCell ⟨gb621, 2, none⟩ (.int .u8 t616)).setCell ⟨gb621, 3, none⟩ (.slice none 0 0)).setCell ⟨gb621, 4, none⟩ (.int .u16 0)).setCell ⟨gb621, 5, none⟩ (.int .u32 0)).setCell ⟨gb621, 6, none⟩ (.slice none 0 0)).setCell ⟨gb621, 7, none⟩ (.slice none 0 0)).setCell ⟨gb621, 8, none⟩ (.slice none 0 0)).setCell ⟨gb621, 9, none⟩ (.slice none 0 0))) := ⟨by repeat (first | (with_reducible first | exact HB.out | apply below_alloc | apply pw_below_drewN | apply below_drew1 | refine below_set ?_ GE614.out | refine below_set ?_ GE621.out) | exact HB.out)⟩; (try clear HO620); (try clear BK614); (try clear BK621); (try clear HB); generalize ((((((((((w19.setCell ⟨gb621, 0, none⟩ (.int .u16 49699)).setCell ⟨gb621, 1, none⟩ (.int .u8 t615)).setCell ⟨gb621, 2, none⟩ (.int .u8 t616)).setCell ⟨gb621, 3, none⟩ (.slice none 0 0)).setCell ⟨gb621, 4, none⟩ (.int .u16 0)).setCell ⟨gb621, 5, none⟩ (.int .u32 0)).setCell ⟨gb621, 6, none⟩ (.slice none 0 0)).setCell ⟨gb621, 7, none⟩ (.slice none 0 0)).setCell ⟨gb621, 8, none⟩ (.slice none 0 0)).setCell ⟨gb621, 9, none⟩ (.slice none 0 0)) = w22 at n0_ n1_ n2_ n3_ ⊢; have HO620 := n0_; have BK614 := n1_; have BK621 := n2_; have HB := n3_; clear n0_ n1_ n2_ n3_; refine goesL_ (some 27) rfl rfl Try.func57 (by kernel_rfl) rfl #[.int .u8 t615] rfl (by (try simp only [List.map_toArray, List.map_cons, List.map_nil]); first | done | rfl | (simp only [List.length_drop, List.length_take]; rfl)) ?_; (with_reducible refine (chap_valued.calls t615 true _ A4.out).mono ?_); rintro e w' ⟨rfl, ⟨nd, rfl⟩⟩; refine ⟨_, rfl, ?_⟩; (try (rw [drewN_self w22]; generalize hq_ : World.drewN w22 _ = w22; have n0_ : Aside0 (Kd.R (Kd.int .u8) 5 w22 w.heap.size (fun _ => True) v619 t617) := ⟨by rw [← hq_]; exact (by (with_reducible repeat (first | apply Kd.R_alloc | apply Kd.R_drewN | apply Kd.R_drew)); exact HO620.out)⟩; have n1_ : Aside0 (w22.heap[gb614]? = some (.cells #[.int .u16 0, .int .u8 0, .int .u8 0, .slice none 0 0, .int .u16 0, .int .u32 0, .slice none 0 0, .slice none 0 0, .slice none 0 0, .slice none 0 0] 47 (0, 0))) := ⟨by rw [← hq_]; exact (by (with_reducible repeat (first | refine blk_drewN ?_ _ | refine blk_drew ?_ | refine blk_alloc ?_ _)); exact BK614.out)⟩; have n2_ : Aside0 (w22.heap[gb621]? = some (.cells #[.int .u16 49699, .int .u8 t615, .int .u8 t616, .slice none 0 0, .int .u16 0, .int .u32 0, .slice none 0 0, .slice none 0 0, .slice none 0 0, .slice none 0 0] 47 (0, 0))) := ⟨by rw [← hq_]; exact (by (with_reducible repeat (first | refine blk_drewN ?_ _ | refine blk_drew ?_ | refine blk_alloc ?_ _)); exact BK621.out)⟩; have n3_ : Aside0 (Below w.heap.size w w22) := ⟨by rw [← hq_]; exact (by repeat (first | (with_reducible first | exact HB.out | apply below_alloc | apply pw_below_drewN | apply below_drew1 | refine below_set ?_ GE614.out | refine below_set ?_ GE621.out) | exact HB.out))⟩; clear HO620 BK614 BK621 HB hq_; have HO620 := n0_; have BK614 := n1_; have BK621 := n2_; have HB := n3_; clear n0_ n1_ n2_ n3_)); obtain ⟨Ao23, co23, eo23⟩ := Kd.R_slice HO620.out; subst eo23; have p623 : 0 ≤ (0 : Int) := (by omega); have q623 : 0 < (t617.length : Int) := of_decide_eq_true (by first | (with_reducible assumption) | assumption); obtain ⟨ad623, e623, hx623_0⟩ := Kd.at_int (Kd.R_reads' HO620.out).2.2 0 p623 q623; cases e623; have qi623 : (0 < t617.length) = True := eq_true (by omega); (try rw [show ((0 : Int)).toNat = 0 from rfl] at hx623_0); (try rw [Addr.add_zero'] at hx623_0); replace p623 := eq_true p623; replace q623 := eq_true q623; obtain ⟨⟨hcz24_0, hcz24_1, hcz24_2, hcz24_3, hcz24_4, hcz24_5, hcz24_6, hcz24_7, hcz24_8, hcz24_9⟩, hfz24_0, hfz24_1, hfz24_2, hfz24_3, hfz24_4, hfz24_5, hfz24_6, hfz24_7, hfz24_8, hfz24_9⟩ := cz10 BK614.out))
           refine bodyPost_ret (results_ct rfl _ _ gb614 47 #[.int .u16 0, .int .u8 0, .int .u8 0, .slice none 0 0, .int .u16 0, .int .u32 0, .slice none 0 0, .slice none 0 0, .slice none 0 0, .slice none 0 0] (0, 0) _ rfl (by (with_reducible repeat (first | refine blk_drewN ?_ _ | refine blk_drew ?_ | refine blk_alloc ?_ _)); refine blk_put (cs := #[.int .u16 0, .int .u8 0, .int .u8 0, .slice none 0 0, .int .u16 0, .int .u32 0, .slice none 0 0, .slice none 0 0, .slice none 0 0, .slice none 0 0]) ?_ 9 _ rfl; (with_reducible repeat (first | refine blk_drewN ?_ _ | refine blk_drew ?_ | refine blk_alloc ?_ _)); refine blk_put (cs := #[.int .u16 0, .int .u8 0, .int .u8 0, .slice none 0 0, .int .u16 0, .int .u32 0, .slice none 0 0, .slice none 0 0, .slice none 0 0, .slice none 0 0]) ?_ 8 _ rfl; (with_reducible repeat (first | refine blk_drewN ?_ _ | refine blk_drew ?_ | refine blk_alloc ?_ _)); refine blk_put (cs := #[.int .u16 0, .int .u8 0, .int .u8 0, .slice none 0 0, .int .u16 0, .int .u32 0, .slice none 0 0, .slice none 0 0, .slice none 0 0, .slice none 0 0]) ?_ 7 _ rfl; (with_reducible repeat (first | refine blk_drewN ?_ _ | refine blk_drew ?_ | refine blk_alloc ?_ _)); refine blk_put (cs := #[.int .u16 0, .int .u8 0, .int .u8 0, .slice none 0 0, .int .u16 0, .int .u32 0, .slice none 0 0, .slice none 0 0, .slice none 0 0, .slice none 0 0]) ?_ 6 _ rfl; (with_reducible repeat (first | refine blk_drewN ?_ _ | refine blk_drew ?_ | refine blk_alloc ?_ _)); refine blk_put (cs := #[.int .u16 0, .int .u8 0, .int .u8 0, .slice none 0 0, .int .u16 0, .int .u32 0, .slice none 0 0, .slice none 0 0, .slice none 0 0, .slice none 0 0]) ?_ 5 _ rfl; (with_reducible repeat (first | refine blk_drewN ?_ _ | refine blk_drew ?_ | refine blk_alloc ?_ _)); refine blk_put (cs := #[.int .u16 0, .int .u8 0, .int .u8 0, .slice none 0 0, .int .u16 0, .int .u32 0, .slice none 0 0, .slice none 0 0, .slice none 0 0, .slice none 0 0]) ?_ 4 _ rfl; (with_reducible repeat (first | refine blk_drewN ?_ _ | refine blk_drew ?_ | refine blk_alloc ?_ _)); refine blk_put (cs := #[.int .u16 0, .int .u8 0, .int .u8 0, .slice none 0 0, .int .u16 0, .int .u32 0, .slice none 0 0, .slice none 0 0, .slice none 0 0, .slice none 0 0]) ?_ 3 _ rfl; (with_reducible repeat (first | refine blk_drewN ?_ _ | refine blk_drew ?_ | refine blk_alloc ?_ _)); refine blk_put (cs := #[.int .u16 0, .int .u8 0, .int .u8 0, .slice none 0 0, .int .u16 0, .int .u32 0, .slice none 0 0, .slice none 0 0, .slice none 0 0, .slice none 0 0]) ?_ 2 _ rfl; (with_reducible repeat (first | refine blk_drewN ?_ _ | refine blk_drew ?_ | refine blk_alloc ?_ _)); refine blk_put (cs := #[.int .u16 0, .int .u8 0, .int .u8 0, .slice none 0 0, .int .u16 0, .int .u32 0, .slice none 0 0, .slice none 0 0, .slice none 0 0, .slice none 0 0]) ?_ 1 _ rfl; (with_reducible repeat (first | refine blk_drewN ?_ _ | refine blk_drew ?_ | refine blk_alloc ?_ _)); refine blk_put (cs := #[.int .u16 0, .int .u8 0, .int .u8 0, .slice none 0 0, .int .u16 0, .int .u32 0, .slice none 0 0, .slice none 0 0, .slice none 0 0, .slice none 0 0]) ?_ 0 _ rfl; (with_reducible repeat (first | refine blk_drewN ?_ _ | refine blk_drew ?_ | refine blk_alloc ?_ _)); exact BK614.out) Try.underlying47 rfl (by kernel_rfl)) rfl ?_
           exact ⟨_, _, _, _, _, by first | rfl | (simp [errW_none, errW_some] <;> rfl) | (simp [*, errW_none, errW_some] <;> rfl), by first | exact Kd.S_nil _ _ _ _ _ | exact Kd.N_nil _ _ _ _ _ | exact Kd.V_nil _ _ _ _ _ | exact Kd.Q_nil _ _ _ _ _ | exact Kd.R_nil _ _ _ _ _, by first | exact Kd.R_nil _ _ _ _ _ | exact Kd.N_nil _ _ _ _ _ | exact Kd.V_nil _ _ _ _ _ | exact Kd.Q_nil _ _ _ _ _ | exact Kd.S_nil _ _ _ _ _, by first | exact Kd.R_nil _ _ _ _ _ | exact Kd.N_nil _ _ _ _ _ | exact Kd.V_nil _ _ _ _ _ | exact Kd.Q_nil _ _ _ _ _ | exact Kd.S_nil _ _ _ _ _, by first | exact Kd.R_nil _ _ _ _ _ | exact Kd.N_nil _ _ _ _ _ | exact Kd.V_nil _ _ _ _ _ | exact Kd.Q_nil _ _ _ _ _ | exact Kd.S_nil _ _ _ _ _, by first | exact Kd.R_nil _ _ _ _ _ | exact Kd.N_nil _ _ _ _ _ | exact Kd.V_nil _ _ _ _ _ | exact Kd.Q_nil _ _ _ _ _ | exact Kd.S_nil _ _ _ _ _, by repeat (first | (with_reducible first | exact HB.out | apply below_alloc | apply pw_below_drewN | apply below_drew1 | refine below_set ?_ GE614.out | refine below_set ?_ GE621.out) | exact HB.out)⟩
         · rw [if_neg c16] at H
           have c16b0 : ((rd t617 0) == 0) = false := beq_eq_false_iff_ne.mpr c16
           have c16b1 : ((rd t617 0) != 0) = true := bne_iff_ne.mpr c16
           by_cases c25 : (wrap64 (1 + (wrap64 (rd t617 0)))) > (t617.length : Int)
           · rw [if_pos c25] at H
             have c25b0 : decide ((t617.length : Int) < (wrap64 (1 + (wrap64 (rd t617 0))))) = true := decide_eq_true c25
             clear c25
             simp only [Option.some.injEq, Prod.mk.injEq] at H
             obtain ⟨rfl, rfl, rfl, rfl, rfl, rfl, rfl, rfl, rfl, rfl, rfl⟩ := H
             go_enter Try.func38, Try.ntmps38
             go_wp2_with (first | ((with_reducible refine gate_dst (N := 2) rfl ?_); refine box_event ?hg (N := 2) ?hd (cs := #[.int .u16 0, .int .u8 0, .int .u8 0, .slice none 0 0, .int .u16 0, .int .u32 0, .slice none 0 0, .slice none 0 0, .slice none 0 0, .slice none 0 0]) (t := 47) ?hr ?_; (case hd => rfl); (case hg => rfl); (case hr => first | (go_simp; done) | (go_simp; simp only [IntKind.wrap_u8, IntKind.wrap_u16, IntKind.wrap_u32, IntKind.wrap_u64]; done) | (go_simp; rfl)); intro gb614 hg w26 hbox hb; have n0_ := Aside0.mk (below_step (by repeat (first | (with_reducible first | exact HB.out | apply below_alloc | apply pw_below_drewN | apply below_drew1) | exact HB.out)) hb); have n1_ := Aside0.mk (hbox); have n2_ := Aside0.mk ((by rw [hg]; exact (below_size (by repeat (first | (with_reducible first | exact HB.out | apply below_alloc | apply pw_below_drewN | apply below_drew1) | exact HB.out))) : w.heap.size ≤ gb614)); have n3_ := Aside0.mk ((by rw [hg]; exact (below_size (by repeat (first | (with_reducible first | exact HB.out | apply below_alloc | apply pw_below_drewN | apply below_drew1) | exact HB.out))) : w.heap.size ≤ gb614)); clear HB; have HB := n0_; have BK614 := n1_; have GW614 := n2_; have GE614 := n3_; clear n0_ n1_ n2_ n3_; clear hb hbox hg) | ((with_reducible refine gate_callee (f := 53) rfl ?_); refine goesL_ (some 12) rfl rfl Try.func53 (by kernel_rfl) rfl #[.slice A0 l0.length c0] rfl (by (try simp only [List.map_toArray, List.map_cons, List.map_nil]); first | done | rfl | (simp only [List.length_drop, List.length_take]; rfl)) ?_; (with_reducible refine (ctl_Get.calls k _ _ l0 t615 t616 t617 t618 _ ?side1 ?side2 A2.out).mono ?_); (case side1 => repeat (first | exact (Kd.C_below HR0.out HB.out) | (with_reducible refine Kd.C_alloc ?_ _) | (with_reducible refine Kd.C_drewN ?_ _) | (with_reducible refine Kd.C_drew ?_))); (case side2 => exact HC0.out); rintro e w27 ⟨v619, rfl, ho0, hb⟩; refine ⟨_, rfl, ?_⟩; have n0_ := Aside0.mk (Kd.R_lower ho0 (below_size (by repeat (first | (with_reducible first | exact HB.out | apply below_alloc | apply pw_below_drewN | apply below_drew1 | refine below_set ?_ GE614.out) | exact HB.out)))); have n1_ := Aside0.mk (blk_below (g := gb614) (o := .cells #[.int .u16 0, .int .u8 0, .int .u8 0, .slice none 0 0, .int .u16 0, .int .u32 0, .slice none 0 0, .slice none 0 0, .slice none 0 0, .slice none 0 0] 47 (0, 0)) (by (with_reducible repeat (first | refine blk_drewN ?_ _ | refine blk_drew ?_ | refine blk_alloc ?_ _)); exact BK614.out) hb); have n2_ := Aside0.mk (below_step (by repeat (first | (with_reducible first | exact HB.out | apply below_alloc | apply pw_below_drewN | apply below_drew1 | refine below_set ?_ GE614.out) | exact HB.out)) hb); clear BK614; clear HB; have HO620 := n0_; have BK614 := n1_; have HB := n2_; clear n0_ n1_ n2_; (try clear hb); (try clear hb2); (try clear hk); (try clear hi); (try clear ho0)) | ((with_reducible refine gate_dst (N := 8) rfl ?_); refine box_event ?hg (N := 8) ?hd (cs := #[.int .u16 0, .int .u8 0, .int .u8 0, .slice none 0 0, .int .u16 0, .int .u32 0, .slice none 0 0, .slice none 0 0, .slice none 0 0, .slice none 0 0]) (t := 47) ?hr ?_; (case hd => rfl); (case hg => rfl); (case hr => first | (go_simp; done) | (go_simp; simp only [IntKind.wrap_u8, IntKind.wrap_u16, IntKind.wrap_u32, IntKind.wrap_u64]; done) | (go_simp; rfl)); intro gb621 hg w28 hbox hb; have n0_ := Aside0.mk (Kd.R_below (by (with_reducible repeat (first | apply Kd.R_alloc | apply Kd.R_drewN | apply Kd.R_drew)); exact HO620.out) hb); have n1_ := Aside0.mk (blk_below (g := gb614) (o := .cells #[.int .u16 0, .int .u8 0, .int .u8 0, .slice none 0 0, .int .u16 0, .int .u32 0, .slice none 0 0, .slice none 0 0, .slice none 0 0, .slice none 0 0] 47 (0, 0)) (by (with_reducible repeat (first | refine blk_drewN ?_ _ | refine blk_drew ?_ | refine blk_alloc ?_ _)); exact BK614.out) hb); have n2_ := Aside0.mk (below_step (by repeat (first | (with_reducible first | exact HB.out | apply below_alloc | apply pw_below_drewN | apply below_drew1 | refine below_set ?_ GE614.out) | exact HB.out)) hb); have n3_ := Aside0.mk (hbox); have n4_ := Aside0.mk ((by rw [hg]; exact (below_size (by repeat (first | (with_reducible first | exact HB.out | apply below_alloc | apply pw_below_drewN | apply below_drew1 | refine below_set ?_ GE614.out) | exact HB.out))) : w.heap.size ≤ gb621)); have n5_ := Aside0.mk ((by rw [hg]; exact (below_size (by repeat (first | (with_reducible first | exact HB.out | apply below_alloc | apply pw_below_drewN | apply below_drew1 | refine below_set ?_ GE614.out) | exact HB.out))) : w.heap.size ≤ gb621)); have n6_ := Aside0.mk ((by rw [hg]; exact Nat.ne_of_lt (blk_lt (g := gb614) (o := .cells #[.int .u16 0, .int .u8 0, .int .u8 0, .slice none 0 0, .int .u16 0, .int .u32 0, .slice none 0 0, .slice none 0 0, .slice none 0 0, .slice none 0 0] 47 (0, 0)) (by (with_reducible repeat (first | refine blk_drewN ?_ _ | refine blk_drew ?_ | refine blk_alloc ?_ _)); exact BK614.out)) : gb614 ≠ gb621)); have n7_ := Aside0.mk ((by rw [hg]; exact Nat.ne_of_gt (blk_lt (g := gb614) (o := .cells #[.int .u16 0, .int .u8 0, .int .u8 0, .slice none 0 0, .int .u16 0, .int .u32 0, .slice none 0 0, .slice none 0 0, .slice none 0 0, .slice none 0 0] 47 (0, 0)) (by (with_reducible repeat (first | refine blk_drewN ?_ _ | refine blk_drew ?_ | refine blk_alloc ?_ _)); exact BK614.out)) : gb621 ≠ gb614)); clear HO620; clear BK614; clear HB; have HO620 := n0_; have BK614 := n1_; have HB := n2_; have BK621 := n3_; have GW621 := n4_; have GE621 := n5_; have NB614_621 := n6_; have NB621_614 := n7_; clear n0_ n1_ n2_ n3_ n4_ n5_ n6_ n7_; clear hb hbox hg; have hnb29 := NB621_614.out; have hnc29 := NB614_621.out; obtain ⟨⟨hcz30_0, hcz30_1, hcz30_2, hcz30_3, hcz30_4, hcz30_5, hcz30_6, hcz30_7, hcz30_8, hcz30_9⟩, hfz30_0, hfz30_1, hfz30_2, hfz30_3, hfz30_4, hfz30_5, hfz30_6, hfz30_7, hfz30_8, hfz30_9⟩ := cz10 BK621.out) | ((with_reducible refine gate_callee (f := 57) rfl ?_); have n0_ : Aside0 (Kd.R (Kd.int .u8) 5 ((((((((((w28.setCell ⟨gb621, 0, none⟩ (.int .u16 49699)).setCell ⟨gb621, 1, none⟩ (.int .u8 t615)).setCell ⟨gb621, 2, none⟩ (.int .u8 t616)).setCell ⟨gb621, 3, none⟩ (.slice none 0 0)).setCell ⟨gb621, 4, none⟩ (.int .u16 0)).setCell ⟨gb621, 5, none⟩ (.int .u32 0)).setCell ⟨gb621, 6, none⟩ (.slice none 0 0)).setCell ⟨gb621, 7, none⟩ (.slice none 0 0)).setCell ⟨gb621, 8, none⟩ (.slice none 0 0)).setCell ⟨gb621, 9, none⟩ (.slice none 0 0)) w.heap.size (fun _ => True) v619 t617) := ⟨by (with_reducible repeat (first | apply Kd.R_alloc | apply Kd.R_drewN | apply Kd.R_drew)); exact Kd.R_mono (Kd.R_far (p := ⟨gb621, 9, none⟩) (Kd.R_far (p := ⟨gb621, 8, none⟩) (Kd.R_far (p := ⟨gb621, 7, none⟩) (Kd.R_far (p := ⟨gb621, 6, none⟩) (Kd.R_far (p := ⟨gb621, 5, none⟩) (Kd.R_far (p := ⟨gb621, 4, none⟩) (Kd.R_far (p := ⟨gb621, 3, none⟩) (Kd.R_far (p := ⟨gb621, 2, none⟩) (Kd.R_far (p := ⟨gb621, 1, none⟩) (Kd.R_far (p := ⟨gb621, 0, none⟩) (Kd.R_types HO620.out BK621.out (by decide)) (fun _ hk => hk.2) (.int .u16 49699)) (fun _ hk => hk.2) (.int .u8 t615)) (fun _ hk => hk.2) (.int .u8 t616)) (fun _ hk => hk.2) (.slice none 0 0)) (fun _ hk => hk.2) (.int .u16 0)) (fun _ hk => hk.2) (.int .u32 0)) (fun _ hk => hk.2) (.slice none 0 0)) (fun _ hk => hk.2) (.slice none 0 0)) (fun _ hk => hk.2) (.slice none 0 0)) (fun _ hk => hk.2) (.slice none 0 0)) (fun _ hk => trivial)⟩; have n1_ : Aside0 (((((((((((w28.setCell ⟨gb621, 0, none⟩ (.int .u16 49699)).setCell ⟨gb621, 1, none⟩ (.int .u8 t615)).setCell ⟨gb621, 2, none⟩ (.int .u8 t616)).setCell ⟨gb621, 3, none⟩ (.slice none 0 0)).setCell ⟨gb621, 4, none⟩ (.int .u16 0)).setCell ⟨gb621, 5, none⟩ (.int .u32 0)).setCell ⟨gb621, 6, none⟩ (.slice none 0 0)).setCell ⟨gb621, 7, none⟩ (.slice none 0 0)).setCell ⟨gb621, 8, none⟩ (.slice none 0 0)).setCell ⟨gb621, 9, none⟩ (.slice none 0 0)).heap[gb614]? = some (.cells #[.int .u16 0, .int .u8 0, .int .u8 0, .slice none 0 0, .int .u16 0, .int .u32 0, .slice none 0 0, .slice none 0 0, .slice none 0 0, .slice none 0 0] 47 (0, 0))) := ⟨by (with_reducible repeat (first | refine blk_drewN ?_ _ | refine blk_drew ?_ | refine blk_alloc ?_ _)); refine blk_far ?_ NB614_621.out _; (with_reducible repeat (first | refine blk_drewN ?_ _ | refine blk_drew ?_ | refine blk_alloc ?_ _)); refine blk_far ?_ NB614_621.out _; (with_reducible repeat (first | refine blk_drewN ?_ _ | refine blk_drew ?_ | refine blk_alloc ?_ _)); refine blk_far ?_ NB614_621.out _; (with_reducible repeat (first | refine blk_drewN ?_ _ | refine blk_drew ?_ | refine blk_alloc ?_ _)); refine blk_far ?_ NB614_621.out _; (with_reducible repeat (first | refine blk_drewN ?_ _ | refine blk_drew ?_ | refine blk_alloc ?_ _)); refine blk_far ?_ NB614_621.out _; (with_reducible repeat (first | refine blk_drewN ?_ _ | refine blk_drew ?_ | refine blk_alloc ?_ _)); refine blk_far ?_ NB614_621.out _; (with_reducible repeat (first | refine blk_drewN ?_ _ | refine blk_drew ?_ | refine blk_alloc ?_ _)); refine blk_far ?_ NB614_621.out _; (with_reducible repeat (first | refine blk_drewN ?_ _ | refine blk_drew ?_ | refine blk_alloc ?_ _)); refine blk_far ?_ NB614_621.out _; (with_reducible repeat (first | refine blk_drewN ?_ _ | refine blk_drew ?_ | refine blk_alloc ?_ _)); refine blk_far ?_ NB614_621.out _; (with_reducible repeat (first | refine blk_drewN ?_ _ | refine blk_drew ?_ | refine blk_alloc ?_ _)); refine blk_far ?_ NB614_621.out _; (with_reducible repeat (first | refine blk_drewN ?_ _ | refine blk_drew ?_ | refine blk_alloc ?_ _)); exact BK614.out⟩; have n2_ : Aside0 (((((((((((w28.setCell ⟨gb621, 0, none⟩ (.int .u16 49699)).setCell ⟨gb621, 1, none⟩ (.int .u8 t615)).setCell ⟨gb621, 2, none⟩ (.int .u8 t616)).setCell ⟨gb621, 3, none⟩ (.slice none 0 0)).setCell ⟨gb621, 4, none⟩ (.int .u16 0)).setCell ⟨gb621, 5, none⟩ (.int .u32 0)).setCell ⟨gb621, 6, none⟩ (.slice none 0 0)).setCell ⟨gb621, 7, none⟩ (.slice none 0 0)).setCell ⟨gb621, 8, none⟩ (.slice none 0 0)).setCell ⟨gb621, 9, none⟩ (.slice none 0 0)).heap[gb621]? = some (.cells #[.int .u16 49699, .int .u8 t615, .int .u8 t616, .slice none 0 0, .int .u16 0, .int .u32 0, .slice none 0 0, .slice none 0 0, .slice none 0 0, .slice none 0 0] 47 (0, 0))) := ⟨by (with_reducible repeat (first | refine blk_drewN ?_ _ | refine blk_drew ?_ | refine blk_alloc ?_ _)); refine blk_put (cs := #[.int .u16 49699, .int .u8 t615, .int .u8 t616, .slice none 0 0, .int .u16 0, .int .u32 0, .slice none 0 0, .slice none 0 0, .slice none 0 0, .slice none 0 0]) ?_ 9 _ rfl; (with_reducible repeat (first | refine blk_drewN ?_ _ | refine blk_drew ?_ | refine blk_alloc ?_ _)); refine blk_put (cs := #[.int .u16 49699, .int .u8 t615, .int .u8 t616, .slice none 0 0, .int .u16 0, .int .u32 0, .slice none 0 0, .slice none 0 0, .slice none 0 0, .slice none 0 0]) ?_ 8 _ rfl; (with_reducible repeat (first | refine blk_drewN ?_ _ | refine blk_drew ?_ | refine blk_alloc ?_ _)); refine blk_put (cs := #[.int .u16 49699, .int .u8 t615, .int .u8 t616, .slice none 0 0, .int .u16 0, .int .u32 0, .slice none 0 0, .slice none 0 0, .slice none 0 0, .slice none 0 0]) ?_ 7 _ rfl; (with_reducible repeat (first | refine blk_drewN ?_ _ | refine blk_drew ?_ | refine blk_alloc ?_ _)); refine blk_put (cs := #[.int .u16 49699, .int .u8 t615, .int .u8 t616, .slice none 0 0, .int .u16 0, .int .u32 0, .slice none 0 0, .slice none 0 0, .slice none 0 0, .slice none 0 0]) ?_ 6 _ rfl; (with_reducible repeat (first | refine blk_drewN ?_ _ | refine blk_drew ?_ | refine blk_alloc ?_ _)); refine blk_put (cs := #[.int .u16 49699, .int .u8 t615, .int .u8 t616, .slice none 0 0, .int .u16 0, .int .u32 0, .slice none 0 0, .slice none 0 0, .slice none 0 0, .slice none 0 0]) ?_ 5 _ rfl; (with_reducible repeat (first | refine blk_drewN ?_ _ | refine blk_drew ?_ | refine blk_alloc ?_ _)); refine blk_put (cs := #[.int .u16 49699, .int .u8 t615, .int .u8 t616, .slice none 0 0, .int .u16 0, .int .u32 0, .slice none 0 0, .slice none 0 0, .slice none 0 0, .slice none 0 0]) ?_ 4 _ rfl; (with_reducible repeat (first | refine blk_drewN ?_ _ | refine blk_drew ?_ | refine blk_alloc ?_ _)); refine blk_put (cs := #[.int .u16 49699, .int .u8 t615, .int .u8 t616, .slice none 0 0, .int .u16 0, .int .u32 0, .slice none 0 0, .slice none 0 0, .slice none 0 0, .slice none 0 0]) ?_ 3 _ rfl; (with_reducible repeat (first | refine blk_drewN ?_ _ | refine blk_drew ?_ | refine blk_alloc ?_ _)); refine blk_put (cs := #[.int .u16 49699, .int .u8 t615, .int .u8 0, .slice none 0 0, .int .u16 0, .int .u32 0, .slice none 0 0, .slice none 0 0, .slice none 0 0, .slice none 0 0]) ?_ 2 _ rfl; (with_reducible repeat (first | refine blk_drewN ?_ _ | refine blk_drew ?_ | refine blk_alloc ?_ _)); refine blk_put (cs := #[.int .u16 49699, .int .u8 0, .int .u8 0, .slice none 0 0, .int .u16 0, .int .u32 0, .slice none 0 0, .slice none 0 0, .slice none 0 0, .slice none 0 0]) ?_ 1 _ rfl; (with_reducible repeat (first | refine blk_drewN ?_ _ | refine blk_drew ?_ | refine blk_alloc ?_ _)); refine blk_put (cs := #[.int .u16 0, .int .u8 0, .int .u8 0, .slice none 0 0, .int .u16 0, .int .u32 0, .slice none 0 0, .slice none 0 0, .slice none 0 0, .slice none 0 0]) ?_ 0 _ rfl; (with_reducible repeat (first | refine blk_drewN ?_ _ | refine blk_drew ?_ | refine blk_alloc ?_ _)); exact BK621.out⟩; have n3_ : Aside0 (Below w.heap.size w ((((((((((w28.setCell ⟨gb621, 0, none⟩ (.int .u16 49699)).setCell ⟨gb621, 1, none⟩ (.int .u8 t615)).setCell ⟨gb621, 2, none⟩ (.int .u8 t616)).setCell ⟨gb621, 3, none⟩ (.slice none 0 0)).setCell ⟨gb621, 4, none⟩ (.int .u16 0)).setCell ⟨gb621, 5, none⟩ (.int .u32 0)).setCell ⟨gb621, 6, none⟩ (.slice none 0 0)).setCell ⟨gb621, 7, none⟩ (.slice none 0 0)).setCell ⟨gb621, 8, none⟩ (.slice none 0 0)).setCell ⟨gb621, 9, none⟩ (.slice none 0 0))) := ⟨by repeat (first | (with_reducible first | exact HB.out | apply below_alloc | apply pw_below_drewN | apply below_drew1 | refine below_set ?_ GE614.out | refine below_set ?_ GE621.out) | exact HB.out)⟩; (try clear HO620); (try clear BK614); (try clear BK621); (try clear HB); generalize ((((((((((w28.setCell ⟨gb621, 0, none⟩ (.int .u16 49699)).setCell ⟨gb621, 1, none⟩ (.int .u8 t615)).setCell ⟨gb621, 2, none⟩ (.int .u8 t616)).setCell ⟨gb621, 3, none⟩ (.slice none 0 0)).setCell ⟨gb621, 4, none⟩ (.int .u16 0)).setCell ⟨gb621, 5, none⟩ (.int .u32 0)).setCell ⟨gb621, 6, none⟩ (.slice none 0 0)).setCell ⟨gb621, 7, none⟩ (.slice none 0 0)).setCell ⟨gb621, 8, none⟩ (.slice none 0 0)).setCell ⟨gb621, 9, none⟩ (.slice none 0 0)) = w31 at n0_ n1_ n2_ n3_ ⊢; have HO620 := n0_; have BK614 := n1_; have BK621 := n2_; have HB := n3_; clear n0_ n1_ n2_ n3_; refine goesL_ (some 27) rfl rfl Try.func57 (by kernel_rfl) rfl #[.int .u8 t615] rfl (by (try simp only [List.map_toArray, List.map_cons, List.map_nil]); first | done | rfl | (simp only [List.length_drop, List.length_take]; rfl)) ?_; (with_reducible refine (chap_valued.calls t615 true _ A4.out).mono ?_); rintro e w' ⟨rfl, ⟨nd, rfl⟩⟩; refine ⟨_, rfl, ?_⟩; (try (rw [drewN_self w31]; generalize hq_ : World.drewN w31 _ = w31; have n0_ : Aside0 (Kd.R (Kd.int .u8) 5 w31 w.heap.size (fun _ => True) v619 t617) := ⟨by rw [← hq_]; exact (by (with_reducible repeat (first | apply Kd.R_alloc | apply Kd.R_drewN | apply Kd.R_drew)); exact HO620.out)⟩; have n1_ : Aside0 (w31.heap[gb614]? = some (.cells #[.int .u16 0, .int .u8 0, .int .u8 0, .slice none 0 0, .int .u16 0, .int .u32 0, .slice none 0 0, .slice none 0 0, .slice none 0 0, .slice none 0 0] 47 (0, 0))) := ⟨by rw [← hq_]; exact (by (with_reducible repeat (first | refine blk_drewN ?_ _ | refine blk_drew ?_ | refine blk_alloc ?_ _)); exact BK614.out)⟩; have n2_ : Aside0 (w31.heap[gb621]? = some (.cells #[.int .u16 49699, .int .u8 t615, .int .u8 t616, .slice none 0 0, .int .u16 0, .int .u32 0, .slice none 0 0, .slice none 0 0, .slice none 0 0, .slice none 0 0] 47 (0, 0))) := ⟨by rw [← hq_]; exact (by (with_reducible repeat (first | refine blk_drewN ?_ _ | refine blk_drew ?_ | refine blk_alloc ?_ _)); exact BK621.out)⟩; have n3_ : Aside0 (Below w.heap.size w w31) := ⟨by rw [← hq_]; exact (by repeat (first | (with_reducible first | exact HB.out | apply below_alloc | apply pw_below_drewN | apply below_drew1 | refine below_set ?_ GE614.out | refine below_set ?_ GE621.out) | exact HB.out))⟩; clear HO620 BK614 BK621 HB hq_; have HO620 := n0_; have BK614 := n1_; have BK621 := n2_; have HB := n3_; clear n0_ n1_ n2_ n3_)); obtain ⟨Ao32, co32, eo32⟩ := Kd.R_slice HO620.out; subst eo32; have p623 : 0 ≤ (0 : Int) := (by omega); have q623 : 0 < (t617.length : Int) := of_decide_eq_true (by first | (with_reducible assumption) | assumption); obtain ⟨ad623, e623, hx623_0⟩ := Kd.at_int (Kd.R_reads' HO620.out).2.2 0 p623 q623; cases e623; have qi623 : (0 < t617.length) = True := eq_true (by omega); (try rw [show ((0 : Int)).toNat = 0 from rfl] at hx623_0); (try rw [Addr.add_zero'] at hx623_0); replace p623 := eq_true p623; replace q623 := eq_true q623; have p624 : 0 ≤ (0 : Int) := (by omega); have q624 : 0 < (t617.length : Int) := of_decide_eq_true (by first | (with_reducible assumption) | assumption); obtain ⟨ad624, e624, hx624_0⟩ := Kd.at_int (Kd.R_reads' HO620.out).2.2 0 p624 q624; obtain rfl : ad623 = ad624 := (by injection e624); have qi624 : (0 < t617.length) = True := eq_true (by omega); (try rw [show ((0 : Int)).toNat = 0 from rfl] at hx624_0); (try rw [Addr.add_zero'] at hx624_0); replace p624 := eq_true p624; replace q624 := eq_true q624; obtain ⟨⟨hcz33_0, hcz33_1, hcz33_2, hcz33_3, hcz33_4, hcz33_5, hcz33_6, hcz33_7, hcz33_8, hcz33_9⟩, hfz33_0, hfz33_1, hfz33_2, hfz33_3, hfz33_4, hfz33_5, hfz33_6, hfz33_7, hfz33_8, hfz33_9⟩ := cz10 BK614.out))
             refine bodyPost_ret (results_ct rfl _ _ gb614 47 #[.int .u16 0, .int .u8 0, .int .u8 0, .slice none 0 0, .int .u16 0, .int .u32 0, .slice none 0 0, .slice none 0 0, .slice none 0 0, .slice none 0 0] (0, 0) _ rfl (by (with_reducible repeat (first | refine blk_drewN ?_ _ | refine blk_drew ?_ | refine blk_alloc ?_ _)); refine blk_put (cs := #[.int .u16 0, .int .u8 0, .int .u8 0, .slice none 0 0, .int .u16 0, .int .u32 0, .slice none 0 0, .slice none 0 0, .slice none 0 0, .slice none 0 0]) ?_ 9 _ rfl; (with_reducible repeat (first | refine blk_drewN ?_ _ | refine blk_drew ?_ | refine blk_alloc ?_ _)); refine blk_put (cs := #[.int .u16 0, .int .u8 0, .int .u8 0, .slice none 0 0, .int .u16 0, .int .u32 0, .slice none 0 0, .slice none 0 0, .slice none 0 0, .slice none 0 0]) ?_ 8 _ rfl; (with_reducible repeat (first | refine blk_drewN ?_ _ | refine blk_drew ?_ | refine blk_alloc ?_ _)); refine blk_put (cs := #[.int .u16 0, .int .u8 0, .int .u8 0, .slice none 0 0, .int .u16 0, .int .u32 0, .slice none 0 0, .slice none 0 0, .slice none 0 0, .slice none 0 0]) ?_ 7 _ rfl; (with_reducible repeat (first | refine blk_drewN ?_ _ | refine blk_drew ?_ | refine blk_alloc ?_ _)); refine blk_put (cs := #[.int .u16 0, .int .u8 0, .int .u8 0, .slice none 0 0, .int .u16 0, .int .u32 0, .slice none 0 0, .slice none 0 0, .slice none 0 0, .slice none 0 0]) ?_ 6 _ rfl; (with_reducible repeat (first | refine blk_drewN ?_ _ | refine blk_drew ?_ | refine blk_alloc ?_ _)); refine blk_put (cs := #[.int .u16 0, .int .u8 0, .int .u8 0, .slice none 0 0, .int .u16 0, .int .u32 0, .slice none 0 0, .slice none 0 0, .slice none 0 0, .slice none 0 0]) ?_ 5 _ rfl; (with_reducible repeat (first | refine blk_drewN ?_ _ | refine blk_drew ?_ | refine blk_alloc ?_ _)); refine blk_put (cs := #[.int .u16 0, .int .u8 0, .int .u8 0, .slice none 0 0, .int .u16 0, .int .u32 0, .slice none 0 0, .slice none 0 0, .slice none 0 0, .slice none 0 0]) ?_ 4 _ rfl; (with_reducible repeat (first | refine blk_drewN ?_ _ | refine blk_drew ?_ | refine blk_alloc ?_ _)); refine blk_put (cs := #[.int .u16 0, .int .u8 0, .int .u8 0, .slice none 0 0, .int .u16 0, .int .u32 0, .slice none 0 0, .slice none 0 0, .slice none 0 0, .slice none 0 0]) ?_ 3 _ rfl; (with_reducible repeat (first | refine blk_drewN ?_ _ | refine blk_drew ?_ | refine blk_alloc ?_ _)); refine blk_put (cs := #[.int .u16 0, .int .u8 0, .int .u8 0, .slice none 0 0, .int .u16 0, .int .u32 0, .slice none 0 0, .slice none 0 0, .slice none 0 0, .slice none 0 0]) ?_ 2 _ rfl; (with_reducible repeat (first | refine blk_drewN ?_ _ | refine blk_drew ?_ | refine blk_alloc ?_ _)); refine blk_put (cs := #[.int .u16 0, .int .u8 0, .int .u8 0, .slice none 0 0, .int .u16 0, .int .u32 0, .slice none 0 0, .slice none 0 0, .slice none 0 0, .slice none 0 0]) ?_ 1 _ rfl; (with_reducible repeat (first | refine blk_drewN ?_ _ | refine blk_drew ?_ | refine blk_alloc ?_ _)); refine blk_put (cs := #[.int .u16 0, .int .u8 0, .int .u8 0, .slice none 0 0, .int .u16 0, .int .u32 0, .slice none 0 0, .slice none 0 0, .slice none 0 0, .slice none 0 0]) ?_ 0 _ rfl; (with_reducible repeat (first | refine blk_drewN ?_ _ | refine blk_drew ?_ | refine blk_alloc ?_ _)); exact BK614.out) Try.underlying47 rfl (by kernel_rfl)) rfl ?_
             exact ⟨_, _, _, _, _, by first | rfl | (simp [errW_none, errW_some] <;> rfl) | (simp [*, errW_none, errW_some] <;> rfl), by first | exact Kd.S_nil _ _ _ _ _ | exact Kd.N_nil _ _ _ _ _ | exact Kd.V_nil _ _ _ _ _ | exact Kd.Q_nil _ _ _ _ _ | exact Kd.R_nil _ _ _ _ _, by first | exact Kd.R_nil _ _ _ _ _ | exact Kd.N_nil _ _ _ _ _ | exact Kd.V_nil _ _ _ _ _ | exact Kd.Q_nil _ _ _ _ _ | exact Kd.S_nil _ _ _ _ _, by first | exact Kd.R_nil _ _ _ _ _ | exact Kd.N_nil _ _ _ _ _ | exact Kd.V_nil _ _ _ _ _ | exact Kd.Q_nil _ _ _ _ _ | exact Kd.S_nil _ _ _ _ _, by first | exact Kd.R_nil _ _ _ _ _ | exact Kd.N_nil _ _ _ _ _ | exact Kd.V_nil _ _ _ _ _ | exact Kd.Q_nil _ _ _ _ _ | exact Kd.S_nil _ _ _ _ _, by first | exact Kd.R_nil _ _ _ _ _ | exact Kd.N_nil _ _ _ _ _ | exact Kd.V_nil _ _ _ _ _ | exact Kd.Q_nil _ _ _ _ _ | exact Kd.S_nil _ _ _ _ _, by repeat (first | (with_reducible first | exact HB.out | apply below_alloc | apply pw_below_drewN | apply below_drew1 | refine below_set ?_ GE614.out | refine below_set ?_ GE621.out) | exact HB.out)⟩
           · rw [if_neg c25] at H
             have c25b0 : decide ((t617.length : Int) < (wrap64 (1 + (wrap64 (rd t617 0))))) = false := decide_eq_false c25
             clear c25
             by_cases c34 : 1 ≤ (wrap64 (1 + (wrap64 (rd t617 0))))
             · rw [if_pos c34] at H
               have c34b0 := eq_true c34
               have c34b1 : decide (1 ≤ (wrap64 (1 + (wrap64 (rd t617 0))))) = true := decide_eq_true c34
               by_cases c35 : (wrap64 (1 + (wrap64 (rd t617 0)))) ≤ (t617.length : Int)
               · rw [if_pos c35] at H
                 have c35b0 := eq_true c35
                 have c35b1 : decide ((wrap64 (1 + (wrap64 (rd t617 0)))) ≤ (t617.length : Int)) = true := decide_eq_true c35
                 obtain ⟨y625, hy625⟩ : ∃ y_ : List Int, y_ = ((t617.take ((wrap64 (1 + (wrap64 (rd t617 0)))) : Int).toNat).drop 1) := ⟨_, rfl⟩
                 replace H : ((slices_Clone_byte_byte.f y625).bind fun t629 => (if 0 ≤ (wrap64 (1 + (wrap64 (rd t617 0)))) then ((slices_Clone_byte_byte.f (t617.drop ((wrap64 (1 + (wrap64 (rd t617 0)))) : Int).toNat)).bind fun t636 => (some (49699, t615, t616, ([] : List (S57)), 0, 0, t629, t636, ([] : List Int), ([] : List Int), 0))) else (none))) = some (r1, r2, r3, r4, r5, r6, r7, r8, r9, r10, r11) := by first | (rw [hy625]; with_reducible exact H) | (have H2_ := (Option.bind_some _ _).symm.trans H; rw [hy625]; with_reducible exact H2_) | (have H2_ := (Option.bind_some _ _).symm.trans H; with_reducible exact H2_) | with_reducible exact H | (rw [hy625]; exact H) | exact H
                 have Ny625 := Aside0.mk hy625
                 clear hy625
                 replace H := Option.bind_eq_some_iff.mp H
                 obtain ⟨t629, A360, H⟩ := H
                 replace H : (if 0 ≤ (wrap64 (1 + (wrap64 (rd t617 0)))) then ((slices_Clone_byte_byte.f (t617.drop ((wrap64 (1 + (wrap64 (rd t617 0)))) : Int).toNat)).bind fun t636 => (some (49699, t615, t616, ([] : List (S57)), 0, 0, t629, t636, ([] : List Int), ([] : List Int), 0))) else (none)) = some (r1, r2, r3, r4, r5, r6, r7, r8, r9, r10, r11) := H
                 have A36 := Aside0.mk A360
                 clear A360
                 obtain ⟨ji37, hji37⟩ : ∃ j_ : Int, (wrap64 (1 + (wrap64 (rd t617 0)))) = j_ := ⟨_, rfl⟩
                 replace H : (if 0 ≤ (ji37) then ((slices_Clone_byte_byte.f (t617.drop ((ji37) : Int).toNat)).bind fun t636 => (some (49699, t615, t616, ([] : List (S57)), 0, 0, t629, t636, ([] : List Int), ([] : List Int), 0))) else (none)) = some (r1, r2, r3, r4, r5, r6, r7, r8, r9, r10, r11) := by first | (rw [hji37] at H; exact H) | (simp only [hji37] at H ⊢; exact H)
                 (try rw [hji37] at c25b0)
                 (try rw [hji37] at c34b0)
                 (try rw [hji37] at c34b1)
                 (try rw [hji37] at c34)
                 (try rw [hji37] at c35b0)
                 (try rw [hji37] at c35b1)
                 (try rw [hji37] at c35)
                 (try rw [hji37] at A2)
                 (try rw [hji37] at A4)
                 (try rw [hji37] at Ny625)
                 (try rw [hji37] at A36)
                 have hji37w : (IntKind.i64.wrap (1 + (wrap64 (rd t617 0)))) = ji37 := (i64_w _).trans hji37
                 by_cases c38 : 0 ≤ (ji37)
                 · rw [if_pos c38] at H
                   have c38b0 := eq_true c38
                   have c38b1 : decide (0 ≤ (ji37)) = true := decide_eq_true c38
                   clear c38
                   have c39b0 := eq_true (of_decide_eq_true (by first | (with_reducible assumption) | assumption) : (ji37) ≤ (t617.length : Int))
                   obtain ⟨y632, hy632⟩ : ∃ y_ : List Int, y_ = (t617.drop ((ji37) : Int).toNat) := ⟨_, rfl⟩
                   replace H : ((slices_Clone_byte_byte.f y632).bind fun t636 => (some (49699, t615, t616, ([] : List (S57)), 0, 0, t629, t636, ([] : List Int), ([] : List Int), 0))) = some (r1, r2, r3, r4, r5, r6, r7, r8, r9, r10, r11) := by first | (rw [hy632]; with_reducible exact H) | (have H2_ := (Option.bind_some _ _).symm.trans H; rw [hy632]; with_reducible exact H2_) | (have H2_ := (Option.bind_some _ _).symm.trans H; with_reducible exact H2_) | with_reducible exact H | (rw [hy632]; exact H) | exact H
                   have Ny632 := Aside0.mk hy632
                   clear hy632
                   replace H := Option.bind_eq_some_iff.mp H
                   obtain ⟨t636, A400, H⟩ := H
                   replace H : (some (49699, t615, t616, ([] : List (S57)), 0, 0, t629, t636, ([] : List Int), ([] : List Int), 0)) = some (r1, r2, r3, r4, r5, r6, r7, r8, r9, r10, r11) := H
                   have A40 := Aside0.mk A400
                   clear A400
                   simp only [Option.some.injEq, Prod.mk.injEq] at H
                   obtain ⟨rfl, rfl, rfl, rfl, rfl, rfl, rfl, rfl, rfl, rfl, rfl⟩ := H
                   go_enter Try.func38, Try.ntmps38
                   try go_wp2_with (first | ((with_reducible refine gate_dst (N := 2) rfl ?_); refine box_event ?hg (N := 2) ?hd (cs := #[.int .u16 0, .int .u8 0, .int .u8 0, .slice none 0 0, .int .u16 0, .int .u32 0, .slice none 0 0, .slice none 0 0, .slice none 0 0, .slice none 0 0]) (t := 47) ?hr ?_; (case hd => rfl); (case hg => rfl); (case hr => first | (go_simp; done) | (go_simp; simp only [IntKind.wrap_u8, IntKind.wrap_u16, IntKind.wrap_u32, IntKind.wrap_u64]; done) | (go_simp; rfl)); intro gb614 hg w41 hbox hb; have n0_ := Aside0.mk (below_step (by repeat (first | (with_reducible first | exact HB.out | apply below_alloc | apply pw_below_drewN | apply below_drew1) | exact HB.out)) hb); have n1_ := Aside0.mk (hbox); have n2_ := Aside0.mk ((by rw [hg]; exact (below_size (by repeat (first | (with_reducible first | exact HB.out | apply below_alloc | apply pw_below_drewN | apply below_drew1) | exact HB.out))) : w.heap.size ≤ gb614)); have n3_ := Aside0.mk ((by rw [hg]; exact (below_size (by repeat (first | (with_reducible first | exact HB.out | apply below_alloc | apply pw_below_drewN | apply below_drew1) | exact HB.out))) : w.heap.size ≤ gb614)); clear HB; have HB := n0_; have BK614 := n1_; have GW614 := n2_; have GE614 := n3_; clear n0_ n1_ n2_ n3_; clear hb hbox hg) | ((with_reducible refine gate_callee (f := 53) rfl ?_); refine goesL_ (some 12) rfl rfl Try.func53 (by kernel_rfl) rfl #[.slice A0 l0.length c0] rfl (by (try simp only [List.map_toArray, List.map_cons, List.map_nil]); first | done | rfl | (simp only [List.length_drop, List.length_take]; rfl)) ?_; (with_reducible refine (ctl_Get.calls k _ _ l0 t615 t616 t617 t618 _ ?side1 ?side2 A2.out).mono ?_); (case side1 => repeat (first | exact (Kd.C_below HR0.out HB.out) | (with_reducible refine Kd.C_alloc ?_ _) | (with_reducible refine Kd.C_drewN ?_ _) | (with_reducible refine Kd.C_drew ?_))); (case side2 => exact HC0.out); rintro e w42 ⟨v619, rfl, ho0, hb⟩; refine ⟨_, rfl, ?_⟩; have n0_ := Aside0.mk (Kd.R_lower ho0 (below_size (by repeat (first | (with_reducible first | exact HB.out | apply below_alloc | apply pw_below_drewN | apply below_drew1 | refine below_set ?_ GE614.out) | exact HB.out)))); have n1_ := Aside0.mk (blk_below (g := gb614) (o := .cells #[.int .u16 0, .int .u8 0, .int .u8 0, .slice none 0 0, .int .u16 0, .int .u32 0, .slice none 0 0, .slice none 0 0, .slice none 0 0, .slice none 0 0] 47 (0, 0)) (by (with_reducible repeat (first | refine blk_drewN ?_ _ | refine blk_drew ?_ | refine blk_alloc ?_ _)); exact BK614.out) hb); have n2_ := Aside0.mk (below_step (by repeat (first | (with_reducible first | exact HB.out | apply below_alloc | apply pw_below_drewN | apply below_drew1 | refine below_set ?_ GE614.out) | exact HB.out)) hb); clear BK614; clear HB; have HO620 := n0_; have BK614 := n1_; have HB := n2_; clear n0_ n1_ n2_; (try clear hb); (try clear hb2); (try clear hk); (try clear hi); (try clear ho0)) | ((with_reducible refine gate_dst (N := 8) rfl ?_); refine box_event ?hg (N := 8) ?hd (cs := #[.int .u16 0, .int .u8 0, .int .u8 0, .slice none 0 0, .int .u16 0, .int .u32 0, .slice none 0 0, .slice none 0 0, .slice none 0 0, .slice none 0 0]) (t := 47) ?hr ?_; (case hd => rfl); (case hg => rfl); (case hr => first | (go_simp; done) | (go_simp; simp only [IntKind.wrap_u8, IntKind.wrap_u16, IntKind.wrap_u32, IntKind.wrap_u64]; done) | (go_simp; rfl)); intro gb621 hg w43 hbox hb; have n0_ := Aside0.mk (Kd.R_below (by (with_reducible repeat (first | apply Kd.R_alloc | apply Kd.R_drewN | apply Kd.R_drew)); exact HO620.out) hb); have n1_ := Aside0.mk (blk_below (g := gb614) (o := .cells #[.int .u16 0, .int .u8 0, .int .u8 0, .slice none 0 0, .int .u16 0, .int .u32 0, .slice none 0 0, .slice none 0 0, .slice none 0 0, .slice none 0 0] 47 (0, 0)) (by (with_reducible repeat (first | refine blk_drewN ?_ _ | refine blk_drew ?_ | refine blk_alloc ?_ _)); exact BK614.out) hb); have n2_ := Aside0.mk (below_step (by repeat (first | (with_reducible first | exact HB.out | apply below_alloc | apply pw_below_drewN | apply below_drew1 | refine below_set ?_ GE614.out) | exact HB.out)) hb); have n3_ := Aside0.mk (hbox); have n4_ := Aside0.mk ((by rw [hg]; exact (below_size (by repeat (first | (with_reducible first | exact HB.out | apply below_alloc | apply pw_below_drewN | apply below_drew1 | refine below_set ?_ GE614.out) | exact HB.out))) : w.heap.size ≤ gb621)); have n5_ := Aside0.mk ((by rw [hg]; exact (below_size (by repeat (first | (with_reducible first | exact HB.out | apply below_alloc | apply pw_below_drewN | apply below_drew1 | refine below_set ?_ GE614.out) | exact HB.out))) : w.heap.size ≤ gb621)); have n6_ := Aside0.mk ((by rw [hg]; exact Nat.ne_of_lt (blk_lt (g := gb614) (o := .cells #[.int .u16 0, .int .u8 0, .int .u8 0, .slice none 0 0, .int .u16 0, .int .u32 0, .slice none 0 0, .slice none 0 0, .slice none 0 0, .slice none 0 0] 47 (0, 0)) (by (with_reducible repeat (first | refine blk_drewN ?_ _ | refine blk_drew ?_ | refine blk_alloc ?_ _)); exact BK614.out)) : gb614 ≠ gb621)); have n7_ := Aside0.mk ((by rw [hg]; exact Nat.ne_of_gt (blk_lt (g := gb614) (o := .cells #[.int .u16 0, .int .u8 0, .int .u8 0, .slice none 0 0, .int .u16 0, .int .u32 0, .slice none 0 0, .slice none 0 0, .slice none 0 0, .slice none 0 0] 47 (0, 0)) (by (with_reducible repeat (first | refine blk_drewN ?_ _ | refine blk_drew ?_ | refine blk_alloc ?_ _)); exact BK614.out)) : gb621 ≠ gb614)); clear HO620; clear BK614; clear HB; have HO620 := n0_; have BK614 := n1_; have HB := n2_; have BK621 := n3_; have GW621 := n4_; have GE621 := n5_; have NB614_621 := n6_; have NB621_614 := n7_; clear n0_ n1_ n2_ n3_ n4_ n5_ n6_ n7_; clear hb hbox hg; have hnb44 := NB621_614.out; have hnc44 := NB614_621.out; obtain ⟨⟨hcz45_0, hcz45_1, hcz45_2, hcz45_3, hcz45_4, hcz45_5, hcz45_6, hcz45_7, hcz45_8, hcz45_9⟩, hfz45_0, hfz45_1, hfz45_2, hfz45_3, hfz45_4, hfz45_5, hfz45_6, hfz45_7, hfz45_8, hfz45_9⟩ := cz10 BK621.out) | ((with_reducible refine gate_callee (f := 57) rfl ?_); have n0_ : Aside0 (Kd.R (Kd.int .u8) 5 ((((((((((w43.setCell ⟨gb621, 0, none⟩ (.int .u16 49699)).setCell ⟨gb621, 1, none⟩ (.int .u8 t615)).setCell ⟨gb621, 2, none⟩ (.int .u8 t616)).setCell ⟨gb621, 3, none⟩ (.slice none 0 0)).setCell ⟨gb621, 4, none⟩ (.int .u16 0)).setCell ⟨gb621, 5, none⟩ (.int .u32 0)).setCell ⟨gb621, 6, none⟩ (.slice none 0 0)).setCell ⟨gb621, 7, none⟩ (.slice none 0 0)).setCell ⟨gb621, 8, none⟩ (.slice none 0 0)).setCell ⟨gb621, 9, none⟩ (.slice none 0 0)) w.heap.size (fun _ => True) v619 t617) := ⟨by (with_reducible repeat (first | apply Kd.R_alloc | apply Kd.R_drewN | apply Kd.R_drew)); exact Kd.R_mono (Kd.R_far (p := ⟨gb621, 9, none⟩) (Kd.R_far (p := ⟨gb621, 8, none⟩) (Kd.R_far (p := ⟨gb621, 7, none⟩) (Kd.R_far (p := ⟨gb621, 6, none⟩) (Kd.R_far (p := ⟨gb621, 5, none⟩) (Kd.R_far (p := ⟨gb621, 4, none⟩) (Kd.R_far (p := ⟨gb621, 3, none⟩) (Kd.R_far (p := ⟨gb621, 2, none⟩) (Kd.R_far (p := ⟨gb621, 1, none⟩) (Kd.R_far (p := ⟨gb621, 0, none⟩) (Kd.R_types HO620.out BK621.out (by decide)) (fun _ hk => hk.2) (.int .u16 49699)) (fun _ hk => hk.2) (.int .u8 t615)) (fun _ hk => hk.2) (.int .u8 t616)) (fun _ hk => hk.2) (.slice none 0 0)) (fun _ hk => hk.2) (.int .u16 0)) (fun _ hk => hk.2) (.int .u32 0)) (fun _ hk => hk.2) (.slice none 0 0)) (fun _ hk => hk.2) (.slice none 0 0)) (fun _ hk => hk.2) (.slice none 0 0)) (fun _ hk => hk.2) (.slice none 0 0)) (fun _ hk => trivial)⟩; have n1_ : Aside0 (((((((((((w43.setCell ⟨gb621, 0, none⟩ (.int .u16 49699)).setCell ⟨gb621, 1, none⟩ (.int .u8 t615)).setCell ⟨gb621, 2, none⟩ (.int .u8 t616)).setCell ⟨gb621, 3, none⟩ (.slice none 0 0)).setCell ⟨gb621, 4, none⟩ (.int .u16 0)).setCell ⟨gb621, 5, none⟩ (.int .u32 0)).setCell ⟨gb621, 6, none⟩ (.slice none 0 0)).setCell ⟨gb621, 7, none⟩ (.slice none 0 0)).setCell ⟨gb621, 8, none⟩ (.slice none 0 0)).setCell ⟨gb621, 9, none⟩ (.slice none 0 0)).heap[gb614]? = some (.cells #[.int .u16 0, .int .u8 0, .int .u8 0, .slice none 0 0, .int .u16 0, .int .u32 0, .slice none 0 0, .slice none 0 0, .slice none 0 0, .slice none 0 0] 47 (0, 0))) := ⟨by (with_reducible repeat (first | refine blk_drewN ?_ _ | refine blk_drew ?_ | refine blk_alloc ?_ _)); refine blk_far ?_ NB614_621.out _; (with_reducible repeat (first | refine blk_drewN ?_ _ | refine blk_drew ?_ | refine blk_alloc ?_ _)); refine blk_far ?_ NB614_621.out _; (with_reducible repeat (first | refine blk_drewN ?_ _ | refine blk_drew ?_ | refine blk_alloc ?_ _)); refine blk_far ?_ NB614_621.out _; (with_reducible repeat (first | refine blk_drewN ?_ _ | refine blk_drew ?_ | refine blk_alloc ?_ _)); refine blk_far ?_ NB614_621.out _; (with_reducible repeat (first | refine blk_drewN ?_ _ | refine blk_drew ?_ | refine blk_alloc ?_ _)); refine blk_far ?_ NB614_621.out _; (with_reducible repeat (first | refine blk_drewN ?_ _ | refine blk_drew ?_ | refine blk_alloc ?_ _)); refine blk_far ?_ NB614_621.out _; (with_reducible repeat (first | refine blk_drewN ?_ _ | refine blk_drew ?_ | refine blk_alloc ?_ _)); refine blk_far ?_ NB614_621.out _; (with_reducible repeat (first | refine blk_drewN ?_ _ | refine blk_drew ?_ | refine blk_alloc ?_ _)); refine blk_far ?_ NB614_621.out _; (with_reducible repeat (first | refine blk_drewN ?_ _ | refine blk_drew ?_ | refine blk_alloc ?_ _)); refine blk_far ?_ NB614_621.out _; (with_reducible repeat (first | refine blk_drewN ?_ _ | refine blk_drew ?_ | refine blk_alloc ?_ _)); refine blk_far ?_ NB614_621.out _; (with_reducible repeat (first | refine blk_drewN ?_ _ | refine blk_drew ?_ | refine blk_alloc ?_ _)); exact BK614.out⟩; have n2_ : Aside0 (((((((((((w43.setCell ⟨gb621, 0, none⟩ (.int .u16 49699)).setCell ⟨gb621, 1, none⟩ (.int .u8 t615)).setCell ⟨gb621, 2, none⟩ (.int .u8 t616)).setCell ⟨gb621, 3, none⟩ (.slice none 0 0)).setCell ⟨gb621, 4, none⟩ (.int .u16 0)).setCell ⟨gb621, 5, none⟩ (.int .u32 0)).setCell ⟨gb621, 6, none⟩ (.slice none 0 0)).setCell ⟨gb621, 7, none⟩ (.slice none 0 0)).setCell ⟨gb621, 8, none⟩ (.slice none 0 0)).setCell ⟨gb621, 9, none⟩ (.slice none 0 0)).heap[gb621]? = some (.cells #[.int .u16 49699, .int .u8 t615, .int .u8 t616, .slice none 0 0, .int .u16 0, .int .u32 0, .slice none 0 0, .slice none 0 0, .slice none 0 0, .slice none 0 0] 47 (0, 0))) := ⟨by (with_reducible repeat (first | refine blk_drewN ?_ _ | refine blk_drew ?_ | refine blk_alloc ?_ _)); refine blk_put (cs := #[.int .u16 49699, .int .u8 t615, .int .u8 t616, .slice none 0 0, .int .u16 0, .int .u32 0, .slice none 0 0, .slice none 0 0, .slice none 0 0, .slice none 0 0]) ?_ 9 _ rfl; (with_reducible repeat (first | refine blk_drewN ?_ _ | refine blk_drew ?_ | refine blk_alloc ?_ _)); refine blk_put (cs := #[.int .u16 49699, .int .u8 t615, .int .u8 t616, .slice none 0 0, .int .u16 0, .int .u32 0, .slice none 0 0, .slice none 0 0, .slice none 0 0, .slice none 0 0]) ?_ 8 _ rfl; (with_reducible repeat (first | refine blk_drewN ?_ _ | refine blk_drew ?_ | refine blk_alloc ?_ _)); refine blk_put (cs := #[.int .u16 49699, .int .u8 t615, .int .u8 t616, .slice none 0 0, .int .u16 0, .int .u32 0, .slice none 0 0, .slice none 0 0, .slice none 0 0, .slice none 0 0]) ?_ 7 _ rfl; (with_reducible repeat (first | refine blk_drewN ?_ _ | refine blk_drew ?_ | refine blk_alloc ?_ _)); refine blk_put (cs := #[.int .u16 49699, .int .u8 t615, .int .u8 t616, .slice none 0 0, .int .u16 0, .int .u32 0, .slice none 0 0, .slice none 0 0, .slice none 0 0, .slice none 0 0]) ?_ 6 _ rfl; (with_reducible repeat (first | refine blk_drewN ?_ _ | refine blk_drew ?_ | refine blk_alloc ?_ _)); refine blk_put (cs := #[.int .u16 49699, .int .u8 t615, .int .u8 t616, .slice none 0 0, .int .u16 0, .int .u32 0, .slice none 0 0, .slice none 0 0, .slice none 0 0, .slice none 0 0]) ?_ 5 _ rfl; (with_reducible repeat (first | refine blk_drewN ?_ _ | refine blk_drew ?_ | refine blk_alloc ?_ _)); refine blk_put (cs := #[.int .u16 49699, .int .u8 t615, .int .u8 t616, .slice none 0 0, .int .u16 0, .int .u32 0, .slice none 0 0, .slice none 0 0, .slice none 0 0, .slice none 0 0]) ?_ 4 _ rfl; (with_reducible repeat (first | refine blk_drewN ?_ _ | refine blk_drew ?_ | refine blk_alloc ?_ _)); refine blk_put (cs := #[.int .u16 49699, .int .u8 t615, .int .u8 t616, .slice none 0 0, .int .u16 0, .int .u32 0, .slice none 0 0, .slice none 0 0, .slice none 0 0, .slice none 0 0]) ?_ 3 _ rfl; (with_reducible repeat (first | refine blk_drewN ?_ _ | refine blk_drew ?_ | refine blk_alloc ?_ _)); refine blk_put (cs := #[.int .u16 49699, .int .u8 t615, .int .u8 0, .slice none 0 0, .int .u16 0, .int .u32 0, .slice none 0 0, .slice none 0 0, .slice none 0 0, .slice none 0 0]) ?_ 2 _ rfl; (with_reducible repeat (first | refine blk_drewN ?_ _ | refine blk_drew ?_ | refine blk_alloc ?_ _)); refine blk_put (cs := #[.int .u16 49699, .int .u8 0, .int .u8 0, .slice none 0 0, .int .u16 0, .int .u32 0, .slice none 0 0, .slice none 0 0, .slice none 0 0, .slice none 0 0]) ?_ 1 _ rfl; (with_reducible repeat (first | refine blk_drewN ?_ _ | refine blk_drew ?_ | refine blk_alloc ?_ _)); refine blk_put (cs := #[.int .u16 0, .int .u8 0, .int .u8 0, .slice none 0 0, .int .u16 0, .int .u32 0, .slice none 0 0, .slice none 0 0, .slice none 0 0, .slice none 0 0]) ?_ 0 _ rfl; (with_reducible repeat (first | refine blk_drewN ?_ _ | refine blk_drew ?_ | refine blk_alloc ?_ _)); exact BK621.out⟩; have n3_ : Aside0 (Below w.heap.size w ((((((((((w43.setCell ⟨gb621, 0, none⟩ (.int .u16 49699)).setCell ⟨gb621, 1, none⟩ (.int .u8 t615)).setCell ⟨gb621, 2, none⟩ (.int .u8 t616)).setCell ⟨gb621, 3, none⟩ (.slice none 0 0)).setCell ⟨gb621, 4, none⟩ (.int .u16 0)).setCell ⟨gb621, 5, none⟩ (.int .u32 0)).setCell ⟨gb621, 6, none⟩ (.slice none 0 0)).setCell ⟨gb621, 7, none⟩ (.slice none 0 0)).setCell ⟨gb621, 8, none⟩ (.slice none 0 0)).setCell ⟨gb621, 9, none⟩ (.slice none 0 0))) := ⟨by repeat (first | (with_reducible first | exact HB.out | apply below_alloc | apply pw_below_drewN | apply below_drew1 | refine below_set ?_ GE614.out | refine below_set ?_ GE621.out) | exact HB.out)⟩; (try clear HO620); (try clear BK614); (try clear BK621); (try clear HB); generalize ((((((((((w43.setCell ⟨gb621, 0, none⟩ (.int .u16 49699)).setCell ⟨gb621, 1, none⟩ (.int .u8 t615)).setCell ⟨gb621, 2, none⟩ (.int .u8 t616)).setCell ⟨gb621, 3, none⟩ (.slice none 0 0)).setCell ⟨gb621, 4, none⟩ (.int .u16 0)).setCell ⟨gb621, 5, none⟩ (.int .u32 0)).setCell ⟨gb621, 6, none⟩ (.slice none 0 0)).setCell ⟨gb621, 7, none⟩ (.slice none 0 0)).setCell ⟨gb621, 8, none⟩ (.slice none 0 0)).setCell ⟨gb621, 9, none⟩ (.slice none 0 0)) = w46 at n0_ n1_ n2_ n3_ ⊢; have HO620 := n0_; have BK614 := n1_; have BK621 := n2_; have HB := n3_; clear n0_ n1_ n2_ n3_; refine goesL_ (some 27) rfl rfl Try.func57 (by kernel_rfl) rfl #[.int .u8 t615] rfl (by (try simp only [List.map_toArray, List.map_cons, List.map_nil]); first | done | rfl | (simp only [List.length_drop, List.length_take]; rfl)) ?_; (with_reducible refine (chap_valued.calls t615 true _ A4.out).mono ?_); rintro e w' ⟨rfl, ⟨nd, rfl⟩⟩; refine ⟨_, rfl, ?_⟩; (try (rw [drewN_self w46]; generalize hq_ : World.drewN w46 _ = w46; have n0_ : Aside0 (Kd.R (Kd.int .u8) 5 w46 w.heap.size (fun _ => True) v619 t617) := ⟨by rw [← hq_]; exact (by (with_reducible repeat (first | apply Kd.R_alloc | apply Kd.R_drewN | apply Kd.R_drew)); exact HO620.out)⟩; have n1_ : Aside0 (w46.heap[gb614]? = some (.cells #[.int .u16 0, .int .u8 0, .int .u8 0, .slice none 0 0, .int .u16 0, .int .u32 0, .slice none 0 0, .slice none 0 0, .slice none 0 0, .slice none 0 0] 47 (0, 0))) := ⟨by rw [← hq_]; exact (by (with_reducible repeat (first | refine blk_drewN ?_ _ | refine blk_drew ?_ | refine blk_alloc ?_ _)); exact BK614.out)⟩; have n2_ : Aside0 (w46.heap[gb621]? = some (.cells #[.int .u16 49699, .int .u8 t615, .int .u8 t616, .slice none 0 0, .int .u16 0, .int .u32 0, .slice none 0 0, .slice none 0 0, .slice none 0 0, .slice none 0 0] 47 (0, 0))) := ⟨by rw [← hq_]; exact (by (with_reducible repeat (first | refine blk_drewN ?_ _ | refine blk_drew ?_ | refine blk_alloc ?_ _)); exact BK621.out)⟩; have n3_ : Aside0 (Below w.heap.size w w46) := ⟨by rw [← hq_]; exact (by repeat (first | (with_reducible first | exact HB.out | apply below_alloc | apply pw_below_drewN | apply below_drew1 | refine below_set ?_ GE614.out | refine below_set ?_ GE621.out) | exact HB.out))⟩; clear HO620 BK614 BK621 HB hq_; have HO620 := n0_; have BK614 := n1_; have BK621 := n2_; have HB := n3_; clear n0_ n1_ n2_ n3_)); obtain ⟨Ao47, co47, eo47⟩ := Kd.R_slice HO620.out; subst eo47; have p623 : 0 ≤ (0 : Int) := (by omega); have q623 : 0 < (t617.length : Int) := of_decide_eq_true (by first | (with_reducible assumption) | assumption); obtain ⟨ad623, e623, hx623_0⟩ := Kd.at_int (Kd.R_reads' HO620.out).2.2 0 p623 q623; cases e623; have qi623 : (0 < t617.length) = True := eq_true (by omega); (try rw [show ((0 : Int)).toNat = 0 from rfl] at hx623_0); (try rw [Addr.add_zero'] at hx623_0); replace p623 := eq_true p623; replace q623 := eq_true q623; have p624 : 0 ≤ (0 : Int) := (by omega); have q624 : 0 < (t617.length : Int) := of_decide_eq_true (by first | (with_reducible assumption) | assumption); obtain ⟨ad624, e624, hx624_0⟩ := Kd.at_int (Kd.R_reads' HO620.out).2.2 0 p624 q624; obtain rfl : ad623 = ad624 := (by injection e624); have qi624 : (0 < t617.length) = True := eq_true (by omega); (try rw [show ((0 : Int)).toNat = 0 from rfl] at hx624_0); (try rw [Addr.add_zero'] at hx624_0); replace p624 := eq_true p624; replace q624 := eq_true q624))
                   have n0_ := Aside0.mk (Kd.R_drew HO620.out)
                   have n1_ := Aside0.mk (blk_drew BK614.out)
                   have n2_ := Aside0.mk (blk_drew BK621.out)
                   have n3_ := Aside0.mk (below_drew1 HB.out)
                   clear HO620
                   clear BK614
                   clear BK621
                   clear HB
                   have HO620 := n0_
                   have BK614 := n1_
                   have BK621 := n2_
                   have HB := n3_
                   clear n0_ n1_ n2_ n3_
                   have q49 : ((ji37) : Int) ≤ ((t617.length : Int) : Int) := of_decide_eq_true (by first | (with_reducible assumption) | assumption)
                   obtain ⟨i049, hi049, _, hsz49, _⟩ := info_parts info5
                   have hroom49 : t617.length ≤ co47 := (Kd.R_reads' HO620.out).2.1
                   have hC49 : Kd.C (Kd.int .u8) _ (some ad623) t617.length t617 := (Kd.R_reads' HO620.out).2.2
                   have ql49 : (1 : Int) ≤ ((ji37) : Int) := of_decide_eq_true (by first | (with_reducible assumption) | assumption)
                   have hcut49 := cut_mid (P := Try.prog) 23 5 .i64 .i64 Try.underlying23 hi049 1 hsz49 (some ad623) t617.length co47 1 (ji37) (by omega) ql49 q49 hroom49
                   have hr49 := Kd.C_mid (lo := (1 : Int).toNat) (hi := ((ji37) : Int).toNat) (c := co47) hC49 (by omega) (by omega) hroom49
                   obtain ⟨A49, hA49⟩ : ∃ A1, A1 = (if co47 = (1 : Int).toNat then (some ad623) else ((some ad623) : Option Addr).map (·.add ((1 : Int).toNat * 1))) := ⟨_, rfl⟩
                   obtain ⟨c49, hc49⟩ : ∃ c1, c1 = co47 - (1 : Int).toNat := ⟨_, rfl⟩
                   have hy49 : y625.length = ((ji37) : Int).toNat - (1 : Int).toNat := (by rw [Ny625.out, List.length_drop, List.length_take] <;> omega)
                   rw [show ((t617).take ((ji37) : Int).toNat).drop (1 : Int).toNat = y625 from Ny625.out.symm] at hr49
                   replace hr49 : Kd.C (Kd.int .u8) _ A49 y625.length y625 := (by rw [hA49]; exact hr49)
                   rw [← hy49, ← hA49, ← hc49] at hcut49
                   have HR628 := Aside0.mk hr49
                   have HC628 := Aside0.mk (show y625.length ≤ c49 from by rw [hy49, hc49]; exact Nat.sub_le_sub_right (Nat.le_trans (by omega) hroom49) _)
                   clear hr49 hC49 hroom49 hi049 hsz49 hc49
                   have KY49 := Aside0.mk hy49
                   have KA49 := Aside0.mk hA49
                   clear hy49 hA49
                   have KL49 := Aside0.mk (show ((ji37) : Int).toNat ≤ t617.length from by omega)
                   have KM49 := Aside0.mk (show 1 ≤ ((ji37) : Int).toNat from by omega)
                   replace q49 := eq_true q49
                   have q50 : ((ji37) : Int) ≤ ((t617.length : Int) : Int) := of_decide_eq_true (by first | (with_reducible assumption) | assumption)
                   obtain ⟨i050, hi050, _, hsz50, _⟩ := info_parts info5
                   have hroom50 : t617.length ≤ co47 := (Kd.R_reads' HO620.out).2.1
                   have hC50 : Kd.C (Kd.int .u8) _ (some ad623) t617.length t617 := (Kd.R_reads' HO620.out).2.2
                   have q050 : (0 : Int) ≤ ((ji37) : Int) := of_decide_eq_true (by first | (with_reducible assumption) | assumption)
                   have hcut50 := cut_from (P := Try.prog) 23 5 .i64 Try.underlying23 hi050 1 hsz50 (some ad623) t617.length co47 (ji37) q050 q50
                   have hr50 := Kd.C_drop (m := ((ji37) : Int).toNat) (c := co47) hC50 (by omega) hroom50
                   obtain ⟨A50, hA50⟩ : ∃ A1, A1 = (if co47 = ((ji37) : Int).toNat then (some ad623) else ((some ad623) : Option Addr).map (·.add (((ji37) : Int).toNat * 1))) := ⟨_, rfl⟩
                   obtain ⟨c50, hc50⟩ : ∃ c1, c1 = co47 - ((ji37) : Int).toNat := ⟨_, rfl⟩
                   have hy50 : y632.length = t617.length - ((ji37) : Int).toNat := (by rw [Ny632.out, List.length_drop] <;> omega)
                   rw [show (t617).drop ((ji37) : Int).toNat = y632 from Ny632.out.symm] at hr50
                   replace hr50 : Kd.C (Kd.int .u8) _ A50 y632.length y632 := (by rw [hA50]; exact hr50)
                   rw [← hy50, ← hA50, ← hc50] at hcut50
                   have HR635 := Aside0.mk hr50
                   have HC635 := Aside0.mk (show y632.length ≤ c50 from by rw [hy50, hc50]; exact Nat.sub_le_sub_right hroom50 _)
                   clear hr50 hC50 hroom50 hi050 hsz50 hc50
                   have KY50 := Aside0.mk hy50
                   have KA50 := Aside0.mk hA50
                   clear hy50 hA50
                   have KL50 := Aside0.mk (show ((ji37) : Int).toNat ≤ t617.length from by omega)
                   replace q50 := eq_true q50
                   refine start_ (n := 12) (S := fun w' => True) (ds := []) #[false, false, false, false, false, false, false, false, false, false, false, false] (by kernel_rfl) rfl rfl trivial (fun hHeld => ?_); refine with_tabW chap_Get.tab15 chap_Get.bits15 (fun HT_ HW_ => ?_)
                   generalize w46.drew = w48 at HO620 BK614 BK621 HB HR628 HR635 hHeld ⊢
                   refine pure_ (i := 0) (N := some 53) (v := ?_) (a' := ?_) #[true, false, false, false, false, false, false, false, false, false, false, false] rfl rfl (any_of HT_.out (by kernel_rfl)) (fun _ _ _ h => h) (Or.inl ⟨by rfl, ?_⟩) ?_ ?_
                   rotate_left
                   · intro w'
                     go_simp
                     with_reducible rfl
                   rotate_left
                   · simp only [Act.put, List.setIfInBounds_toArray, List.set_cons_zero, List.set_cons_succ, i64_w, i32_w]
                     rfl
                   refine pure_ (i := 1) (N := some 54) (v := ?_) (a' := ?_) #[true, true, false, false, false, false, false, false, false, false, false, false] rfl rfl (any_of HT_.out (by kernel_rfl)) (fun _ _ _ h => h) (Or.inl ⟨by rfl, ?_⟩) ?_ ?_
                   rotate_left
                   · intro w'
                     go_simp
                     with_reducible rfl
                   rotate_left
                   · simp only [Act.put, List.setIfInBounds_toArray, List.set_cons_zero, List.set_cons_succ, i64_w, i32_w]
                     rfl
                   refine pure_ (i := 2) (N := some 55) (v := ?_) (a' := ?_) #[true, true, true, false, false, false, false, false, false, false, false, false] rfl rfl (any_of HT_.out (by kernel_rfl)) (fun _ _ _ h => h) (Or.inl ⟨by rfl, ?_⟩) ?_ ?_
                   rotate_left
                   · intro w'
                     go_simp
                     with_reducible rfl
                   rotate_left
                   · simp only [Act.put, List.setIfInBounds_toArray, List.set_cons_zero, List.set_cons_succ, i64_w, i32_w]
                     rfl
                   refine pure_ (i := 4) (N := some 57) (v := ?_) (a' := ?_) #[true, true, true, false, true, false, false, false, false, false, false, false] rfl rfl (any_of HT_.out (by kernel_rfl)) (fun _ _ _ h => h) (Or.inl ⟨by rfl, ?_⟩) ?_ ?_
                   rotate_left
                   · intro w'
                     go_simp
                     with_reducible rfl
                   rotate_left
                   · simp only [Act.put, List.setIfInBounds_toArray, List.set_cons_zero, List.set_cons_succ, i64_w, i32_w]
                     rfl
                   refine pure_ (i := 5) (N := some 58) (v := ?_) (a' := ?_) #[true, true, true, false, true, true, false, false, false, false, false, false] rfl rfl (any_of HT_.out (by kernel_rfl)) (fun _ _ _ h => h) (Or.inl ⟨by rfl, ?_⟩) ?_ ?_
                   rotate_left
                   · intro w'
                     go_simp
                     with_reducible rfl
                   rotate_left
                   · simp only [Act.put, List.setIfInBounds_toArray, List.set_cons_zero, List.set_cons_succ, i64_w, i32_w]
                     rfl
                   refine pure_ (i := 6) (N := some 59) (v := ?_) (a' := ?_) #[true, true, true, false, true, true, true, false, false, false, false, false] rfl rfl (any_of HT_.out (by kernel_rfl)) (fun _ _ _ h => h) (Or.inl ⟨by rfl, ?_⟩) ?_ ?_
                   rotate_left
                   · intro w'
                     go_simp
                     with_reducible rfl
                   rotate_left
                   · simp only [Act.put, List.setIfInBounds_toArray, List.set_cons_zero, List.set_cons_succ, i64_w, i32_w]
                     rfl
                   refine one_ (i := 3) (N := some 56) #[true, true, true, true, true, true, true, false, false, false, false, false] rfl rfl (one_of HT_.out (by kernel_rfl)) (by decide) (fun K hK => ?_)
                   refine goes_ Try.func48 (by kernel_rfl) rfl #[.slice A49 y625.length c49] (by rfl) rfl rfl (by (try simp only [List.map_toArray, List.map_cons, List.map_nil]); first | done | rfl | (simp only [List.length_drop, List.length_take]; rfl)) ?_
                   with_reducible refine (slices_Clone_byte_byte.calls _ _ y625 t629 _ ?side1 ?side2 A36.out).mono ?_
                   (case side1 => repeat (first | exact (by repeat (first | (with_reducible exact HR628.out) | (with_reducible refine Kd.C_alloc ?_ _) | (with_reducible refine Kd.C_drewN ?_ _) | (with_reducible refine Kd.C_drew ?_) | exact HR628.out)) | (with_reducible refine Kd.C_alloc ?_ _) | (with_reducible refine Kd.C_drewN ?_ _) | (with_reducible refine Kd.C_drew ?_)))
                   (case side2 => exact HC628.out)
                   rintro e w51 ⟨v630, rfl, ho0, hb⟩
                   refine ⟨_, rfl, ?_⟩
                   have n0_ := Aside0.mk (Kd.R_elder' (by (with_reducible repeat (first | apply Kd.R_alloc | apply Kd.R_drewN | apply Kd.R_drew)); exact HO620.out) (Kd.R_base ho0) hb)
                   have n1_ := Aside0.mk (Kd.R_lower (Kd.R_new' ho0 (Kd.R_lt (by (with_reducible repeat (first | apply Kd.R_alloc | apply Kd.R_drewN | apply Kd.R_drew)); exact HO620.out))) (below_size (by repeat (first | (with_reducible first | exact HB.out | apply below_alloc | apply pw_below_drewN | apply below_drew1 | refine below_set ?_ GE614.out | refine below_set ?_ GE621.out) | exact HB.out))))
                   have n2_ := Aside0.mk (blk_below (g := gb614) (o := .cells #[.int .u16 0, .int .u8 0, .int .u8 0, .slice none 0 0, .int .u16 0, .int .u32 0, .slice none 0 0, .slice none 0 0, .slice none 0 0, .slice none 0 0] 47 (0, 0)) (by (with_reducible repeat (first | refine blk_drewN ?_ _ | refine blk_drew ?_ | refine blk_alloc ?_ _)); exact BK614.out) hb)
                   have n3_ := Aside0.mk (blk_below (g := gb621) (o := .cells #[.int .u16 49699, .int .u8 t615, .int .u8 t616, .slice none 0 0, .int .u16 0, .int .u32 0, .slice none 0 0, .slice none 0 0, .slice none 0 0, .slice none 0 0] 47 (0, 0)) (by (with_reducible repeat (first | refine blk_drewN ?_ _ | refine blk_drew ?_ | refine blk_alloc ?_ _)); exact BK621.out) hb)
                   have n4_ := Aside0.mk (Kd.C_below (by repeat (first | (with_reducible exact HR628.out) | (with_reducible refine Kd.C_alloc ?_ _) | (with_reducible refine Kd.C_drewN ?_ _) | (with_reducible refine Kd.C_drew ?_) | exact HR628.out)) hb)
                   have n5_ := Aside0.mk (Kd.C_below (by repeat (first | (with_reducible exact HR635.out) | (with_reducible refine Kd.C_alloc ?_ _) | (with_reducible refine Kd.C_drewN ?_ _) | (with_reducible refine Kd.C_drew ?_) | exact HR635.out)) hb)
                   have n6_ := Aside0.mk (below_step (by repeat (first | (with_reducible first | exact HB.out | apply below_alloc | apply pw_below_drewN | apply below_drew1 | refine below_set ?_ GE614.out | refine below_set ?_ GE621.out) | exact HB.out)) hb)
                   clear HO620
                   clear BK614
                   clear BK621
                   clear HR628
                   clear HR635
                   clear HB
                   have HO620 := n0_
                   have HO631 := n1_
                   have BK614 := n2_
                   have BK621 := n3_
                   have HR628 := n4_
                   have HR635 := n5_
                   have HB := n6_
                   clear n0_ n1_ n2_ n3_ n4_ n5_ n6_
                   (try clear hb)
                   (try clear hb2)
                   (try clear hk)
                   (try clear hi)
                   (try clear ho0)
                   refine hK.out _ _ trivial (fun hHeld => ?_)
                   clear hK K
                   refine norm_ (a' := ?_) ?_ ?_
                   rotate_left
                   · show Act.put _ (some 56) _ = _
                     simp only [Act.put, List.setIfInBounds_toArray, List.set_cons_zero, List.set_cons_succ, i64_w, i32_w]
                     rfl
                   refine pure_ (i := 8) (N := some 61) (v := ?_) (a' := ?_) #[true, true, true, true, true, true, true, false, true, false, false, false] rfl rfl (any_of HT_.out (by kernel_rfl)) (fun _ _ _ h => h) (Or.inl ⟨by rfl, ?_⟩) ?_ ?_
                   rotate_left
                   · intro w'
                     go_simp
                     with_reducible rfl
                   rotate_left
                   · simp only [Act.put, List.setIfInBounds_toArray, List.set_cons_zero, List.set_cons_succ, i64_w, i32_w]
                     rfl
                   refine one_ (i := 7) (N := some 60) #[true, true, true, true, true, true, true, true, true, false, false, false] rfl rfl (one_of HT_.out (by kernel_rfl)) (by decide) (fun K hK => ?_)
                   refine goes_ Try.func48 (by kernel_rfl) rfl #[.slice A50 y632.length c50] (by rfl) rfl rfl (by (try simp only [List.map_toArray, List.map_cons, List.map_nil]); first | done | rfl | (simp only [List.length_drop, List.length_take]; rfl)) ?_
                   with_reducible refine (slices_Clone_byte_byte.calls _ _ y632 t636 _ ?side1 ?side2 A40.out).mono ?_
                   (case side1 => repeat (first | exact (by repeat (first | (with_reducible exact HR635.out) | (with_reducible refine Kd.C_alloc ?_ _) | (with_reducible refine Kd.C_drewN ?_ _) | (with_reducible refine Kd.C_drew ?_) | exact HR635.out)) | (with_reducible refine Kd.C_alloc ?_ _) | (with_reducible refine Kd.C_drewN ?_ _) | (with_reducible refine Kd.C_drew ?_)))
                   (case side2 => exact HC635.out)
                   rintro e w52 ⟨v637, rfl, ho0, hb⟩
                   refine ⟨_, rfl, ?_⟩
                   have n0_ := Aside0.mk (Kd.R_elder' (by (with_reducible repeat (first | apply Kd.R_alloc | apply Kd.R_drewN | apply Kd.R_drew)); exact HO620.out) (Kd.R_base ho0) hb)
                   have n1_ := Aside0.mk (Kd.R_elder' (by (with_reducible repeat (first | apply Kd.R_alloc | apply Kd.R_drewN | apply Kd.R_drew)); exact HO631.out) (Kd.R_base ho0) hb)
                   have n2_ := Aside0.mk (Kd.R_lower (Kd.R_new' (Kd.R_new' ho0 (Kd.R_lt (by (with_reducible repeat (first | apply Kd.R_alloc | apply Kd.R_drewN | apply Kd.R_drew)); exact HO620.out))) (Kd.R_lt (by (with_reducible repeat (first | apply Kd.R_alloc | apply Kd.R_drewN | apply Kd.R_drew)); exact HO631.out))) (below_size (by repeat (first | (with_reducible first | exact HB.out | apply below_alloc | apply pw_below_drewN | apply below_drew1 | refine below_set ?_ GE614.out | refine below_set ?_ GE621.out) | exact HB.out))))
                   have n3_ := Aside0.mk (blk_below (g := gb614) (o := .cells #[.int .u16 0, .int .u8 0, .int .u8 0, .slice none 0 0, .int .u16 0, .int .u32 0, .slice none 0 0, .slice none 0 0, .slice none 0 0, .slice none 0 0] 47 (0, 0)) (by (with_reducible repeat (first | refine blk_drewN ?_ _ | refine blk_drew ?_ | refine blk_alloc ?_ _)); exact BK614.out) hb)
                   have n4_ := Aside0.mk (blk_below (g := gb621) (o := .cells #[.int .u16 49699, .int .u8 t615, .int .u8 t616, .slice none 0 0, .int .u16 0, .int .u32 0, .slice none 0 0, .slice none 0 0, .slice none 0 0, .slice none 0 0] 47 (0, 0)) (by (with_reducible repeat (first | refine blk_drewN ?_ _ | refine blk_drew ?_ | refine blk_alloc ?_ _)); exact BK621.out) hb)
                   have n5_ := Aside0.mk (Kd.C_below (by repeat (first | (with_reducible exact HR628.out) | (with_reducible refine Kd.C_alloc ?_ _) | (with_reducible refine Kd.C_drewN ?_ _) | (with_reducible refine Kd.C_drew ?_) | exact HR628.out)) hb)
                   have n6_ := Aside0.mk (Kd.C_below (by repeat (first | (with_reducible exact HR635.out) | (with_reducible refine Kd.C_alloc ?_ _) | (with_reducible refine Kd.C_drewN ?_ _) | (with_reducible refine Kd.C_drew ?_) | exact HR635.out)) hb)
                   have n7_ := Aside0.mk (below_step (by repeat (first | (with_reducible first | exact HB.out | apply below_alloc | apply pw_below_drewN | apply below_drew1 | refine below_set ?_ GE614.out | refine below_set ?_ GE621.out) | exact HB.out)) hb)
                   clear HO620
                   clear HO631
                   clear BK614
                   clear BK621
                   clear HR628
                   clear HR635
                   clear HB
                   have HO620 := n0_
                   have HO631 := n1_
                   have HO638 := n2_
                   have BK614 := n3_
                   have BK621 := n4_
                   have HR628 := n5_
                   have HR635 := n6_
                   have HB := n7_
                   clear n0_ n1_ n2_ n3_ n4_ n5_ n6_ n7_
                   (try clear hb)
                   (try clear hb2)
                   (try clear hk)
                   (try clear hi)
                   (try clear ho0)
                   obtain ⟨Ao53, co53, eo53⟩ := Kd.R_slice HO631.out
                   (first | subst eo53 | (injection eo53 with f1_ f2_ f3_; have f4_ := f1_.symm; have f5_ := f3_.symm; clear f1_ f2_ f3_; subst f4_; subst f5_))
                   obtain ⟨Ao55, co55, eo55⟩ := Kd.R_slice HO638.out
                   (first | subst eo55 | (injection eo55 with f1_ f2_ f3_; have f4_ := f1_.symm; have f5_ := f3_.symm; clear f1_ f2_ f3_; subst f4_; subst f5_))
                   refine hK.out _ _ trivial (fun hHeld => ?_)
                   clear hK K
                   refine norm_ (a' := ?_) ?_ ?_
                   rotate_left
                   · show Act.put _ (some 60) _ = _
                     simp only [Act.put, List.setIfInBounds_toArray, List.set_cons_zero, List.set_cons_succ, i64_w, i32_w]
                     rfl
                   refine one_ (i := 9) (N := none) #[true, true, true, true, true, true, true, true, true, true, false, false] rfl rfl (one_of HT_.out (by kernel_rfl)) (by decide) (fun K hK => ?_)
                   have hs54 : w52.cell? ⟨gb621, 6, none⟩ = some (.slice none 0 0) := (blk_cell BK621.out 6).trans rfl
                   have hfs54 := blk_frozen BK621.out 6
                   have hns54_0 := NB614_621.out
                   have hms54_0 := NB621_614.out
                   refine skip_ (w1 := ?_) (by rfl) rfl ?_ ?_
                   rotate_left
                   · go_simp
                     rfl
                   refine hK.out _ _ trivial (fun hHeld => ?_)
                   clear hK K
                   refine pure_ (i := 10) (N := some 62) (v := ?_) (a' := ?_) #[true, true, true, true, true, true, true, true, true, true, true, false] rfl rfl (any_of HT_.out (by kernel_rfl)) (fun _ _ _ h => h) (Or.inl ⟨by rfl, ?_⟩) ?_ ?_
                   rotate_left
                   · intro w'
                     go_simp
                     with_reducible rfl
                   rotate_left
                   · simp only [Act.put, List.setIfInBounds_toArray, List.set_cons_zero, List.set_cons_succ, i64_w, i32_w]
                     rfl
                   refine one_ (i := 11) (N := none) #[true, true, true, true, true, true, true, true, true, true, true, true] rfl rfl (one_of HT_.out (by kernel_rfl)) (by decide) (fun K hK => ?_)
                   have hs56 : w52.cell? ⟨gb621, 7, none⟩ = some (.slice none 0 0) := (blk_cell BK621.out 7).trans rfl
                   have hfs56 := blk_frozen BK621.out 7
                   have hns56_0 := NB614_621.out
                   have hms56_0 := NB621_614.out
                   refine skip_ (w1 := ?_) (by rfl) rfl ?_ ?_
                   rotate_left
                   · go_simp
                     rfl
                   refine hK.out _ _ trivial (fun hHeld => ?_)
                   clear hK K
                   refine done_ (done_of HT_.out (by kernel_rfl)) ?_
                   obtain ⟨⟨hcz57_0, hcz57_1, hcz57_2, hcz57_3, hcz57_4, hcz57_5, hcz57_6, hcz57_7, hcz57_8, hcz57_9⟩, hfz57_0, hfz57_1, hfz57_2, hfz57_3, hfz57_4, hfz57_5, hfz57_6, hfz57_7, hfz57_8, hfz57_9⟩ := cz10 BK621.out
                   obtain ⟨⟨hcz58_0, hcz58_1, hcz58_2, hcz58_3, hcz58_4, hcz58_5, hcz58_6, hcz58_7, hcz58_8, hcz58_9⟩, hfz58_0, hfz58_1, hfz58_2, hfz58_3, hfz58_4, hfz58_5, hfz58_6, hfz58_7, hfz58_8, hfz58_9⟩ := cz10 BK614.out
                   try go_wp2
                   refine bodyPost_ret (results_ct rfl _ _ gb614 47 #[.int .u16 49699, .int .u8 t615, .int .u8 t616, .slice none 0 0, .int .u16 0, .int .u32 0, .slice Ao53 t629.length co53, .slice Ao55 t636.length co55, .slice none 0 0, .slice none 0 0] (0, 0) _ rfl (by (with_reducible repeat (first | refine blk_drewN ?_ _ | refine blk_drew ?_ | refine blk_alloc ?_ _)); refine blk_put (cs := #[.int .u16 49699, .int .u8 t615, .int .u8 t616, .slice none 0 0, .int .u16 0, .int .u32 0, .slice Ao53 t629.length co53, .slice Ao55 t636.length co55, .slice none 0 0, .slice none 0 0]) ?_ 9 _ rfl; (with_reducible repeat (first | refine blk_drewN ?_ _ | refine blk_drew ?_ | refine blk_alloc ?_ _)); refine blk_put (cs := #[.int .u16 49699, .int .u8 t615, .int .u8 t616, .slice none 0 0, .int .u16 0, .int .u32 0, .slice Ao53 t629.length co53, .slice Ao55 t636.length co55, .slice none 0 0, .slice none 0 0]) ?_ 8 _ rfl; (with_reducible repeat (first | refine blk_drewN ?_ _ | refine blk_drew ?_ | refine blk_alloc ?_ _)); refine blk_put (cs := #[.int .u16 49699, .int .u8 t615, .int .u8 t616, .slice none 0 0, .int .u16 0, .int .u32 0, .slice Ao53 t629.length co53, .slice none 0 0, .slice none 0 0, .slice none 0 0]) ?_ 7 _ rfl; (with_reducible repeat (first | refine blk_drewN ?_ _ | refine blk_drew ?_ | refine blk_alloc ?_ _)); refine blk_put (cs := #[.int .u16 49699, .int .u8 t615, .int .u8 t616, .slice none 0 0, .int .u16 0, .int .u32 0, .slice none 0 0, .slice none 0 0, .slice none 0 0, .slice none 0 0]) ?_ 6 _ rfl; (with_reducible repeat (first | refine blk_drewN ?_ _ | refine blk_drew ?_ | refine blk_alloc ?_ _)); refine blk_put (cs := #[.int .u16 49699, .int .u8 t615, .int .u8 t616, .slice none 0 0, .int .u16 0, .int .u32 0, .slice none 0 0, .slice none 0 0, .slice none 0 0, .slice none 0 0]) ?_ 5 _ rfl; (with_reducible repeat (first | refine blk_drewN ?_ _ | refine blk_drew ?_ | refine blk_alloc ?_ _)); refine blk_put (cs := #[.int .u16 49699, .int .u8 t615, .int .u8 t616, .slice none 0 0, .int .u16 0, .int .u32 0, .slice none 0 0, .slice none 0 0, .slice none 0 0, .slice none 0 0]) ?_ 4 _ rfl; (with_reducible repeat (first | refine blk_drewN ?_ _ | refine blk_drew ?_ | refine blk_alloc ?_ _)); refine blk_put (cs := #[.int .u16 49699, .int .u8 t615, .int .u8 t616, .slice none 0 0, .int .u16 0, .int .u32 0, .slice none 0 0, .slice none 0 0, .slice none 0 0, .slice none 0 0]) ?_ 3 _ rfl; (with_reducible repeat (first | refine blk_drewN ?_ _ | refine blk_drew ?_ | refine blk_alloc ?_ _)); refine blk_put (cs := #[.int .u16 49699, .int .u8 t615, .int .u8 0, .slice none 0 0, .int .u16 0, .int .u32 0, .slice none 0 0, .slice none 0 0, .slice none 0 0, .slice none 0 0]) ?_ 2 _ rfl; (with_reducible repeat (first | refine blk_drewN ?_ _ | refine blk_drew ?_ | refine blk_alloc ?_ _)); refine blk_put (cs := #[.int .u16 49699, .int .u8 0, .int .u8 0, .slice none 0 0, .int .u16 0, .int .u32 0, .slice none 0 0, .slice none 0 0, .slice none 0 0, .slice none 0 0]) ?_ 1 _ rfl; (with_reducible repeat (first | refine blk_drewN ?_ _ | refine blk_drew ?_ | refine blk_alloc ?_ _)); refine blk_put (cs := #[.int .u16 0, .int .u8 0, .int .u8 0, .slice none 0 0, .int .u16 0, .int .u32 0, .slice none 0 0, .slice none 0 0, .slice none 0 0, .slice none 0 0]) ?_ 0 _ rfl; (with_reducible repeat (first | refine blk_drewN ?_ _ | refine blk_drew ?_ | refine blk_alloc ?_ _)); refine blk_far ?_ NB614_621.out _; (with_reducible repeat (first | refine blk_drewN ?_ _ | refine blk_drew ?_ | refine blk_alloc ?_ _)); refine blk_far ?_ NB614_621.out _; (with_reducible repeat (first | refine blk_drewN ?_ _ | refine blk_drew ?_ | refine blk_alloc ?_ _)); exact BK614.out) Try.underlying47 rfl (by kernel_rfl)) rfl ?_
                   exact ⟨_, _, _, _, _, by first | rfl | (simp [errW_none, errW_some] <;> rfl) | (simp only [← hji37]; first | rfl | (simp [errW_none, errW_some] <;> rfl)) | (simp [*, errW_none, errW_some] <;> rfl), by first | exact Kd.S_nil _ _ _ _ _ | exact Kd.N_nil _ _ _ _ _ | exact Kd.V_nil _ _ _ _ _ | exact Kd.Q_nil _ _ _ _ _ | exact Kd.R_nil _ _ _ _ _, by (with_reducible repeat (first | apply Kd.R_alloc | apply Kd.R_drewN | apply Kd.R_drew)); exact Kd.R_mono (Kd.R_far (p := ⟨gb614, 9, none⟩) (Kd.R_far (p := ⟨gb614, 8, none⟩) (Kd.R_far (p := ⟨gb614, 7, none⟩) (Kd.R_far (p := ⟨gb614, 6, none⟩) (Kd.R_far (p := ⟨gb614, 5, none⟩) (Kd.R_far (p := ⟨gb614, 4, none⟩) (Kd.R_far (p := ⟨gb614, 3, none⟩) (Kd.R_far (p := ⟨gb614, 2, none⟩) (Kd.R_far (p := ⟨gb614, 1, none⟩) (Kd.R_far (p := ⟨gb614, 0, none⟩) (Kd.R_far (p := ⟨gb621, 7, none⟩) (Kd.R_far (p := ⟨gb621, 6, none⟩) (Kd.R_types (Kd.R_types HO631.out BK621.out (by decide)) BK614.out (by decide)) (fun _ hk => hk.1.2) (.slice Ao53 t629.length co53)) (fun _ hk => hk.1.2) (.slice Ao55 t636.length co55)) (fun _ hk => hk.2) (.int .u16 49699)) (fun _ hk => hk.2) (.int .u8 t615)) (fun _ hk => hk.2) (.int .u8 t616)) (fun _ hk => hk.2) (.slice none 0 0)) (fun _ hk => hk.2) (.int .u16 0)) (fun _ hk => hk.2) (.int .u32 0)) (fun _ hk => hk.2) (.slice Ao53 t629.length co53)) (fun _ hk => hk.2) (.slice Ao55 t636.length co55)) (fun _ hk => hk.2) (.slice none 0 0)) (fun _ hk => hk.2) (.slice none 0 0)) (fun _ hk => ⟨hk.1.1.2, (by simp [Value.ownBlock])⟩), by (with_reducible repeat (first | apply Kd.R_alloc | apply Kd.R_drewN | apply Kd.R_drew)); exact Kd.R_mono (Kd.R_far (p := ⟨gb614, 9, none⟩) (Kd.R_far (p := ⟨gb614, 8, none⟩) (Kd.R_far (p := ⟨gb614, 7, none⟩) (Kd.R_far (p := ⟨gb614, 6, none⟩) (Kd.R_far (p := ⟨gb614, 5, none⟩) (Kd.R_far (p := ⟨gb614, 4, none⟩) (Kd.R_far (p := ⟨gb614, 3, none⟩) (Kd.R_far (p := ⟨gb614, 2, none⟩) (Kd.R_far (p := ⟨gb614, 1, none⟩) (Kd.R_far (p := ⟨gb614, 0, none⟩) (Kd.R_far (p := ⟨gb621, 7, none⟩) (Kd.R_far (p := ⟨gb621, 6, none⟩) (Kd.R_types (Kd.R_types HO638.out BK621.out (by decide)) BK614.out (by decide)) (fun _ hk => hk.1.2) (.slice Ao53 t629.length co53)) (fun _ hk => hk.1.2) (.slice Ao55 t636.length co55)) (fun _ hk => hk.2) (.int .u16 49699)) (fun _ hk => hk.2) (.int .u8 t615)) (fun _ hk => hk.2) (.int .u8 t616)) (fun _ hk => hk.2) (.slice none 0 0)) (fun _ hk => hk.2) (.int .u16 0)) (fun _ hk => hk.2) (.int .u32 0)) (fun _ hk => hk.2) (.slice Ao53 t629.length co53)) (fun _ hk => hk.2) (.slice Ao55 t636.length co55)) (fun _ hk => hk.2) (.slice none 0 0)) (fun _ hk => hk.2) (.slice none 0 0)) (fun _ hk => ⟨hk.1.1.2, (by simp [Value.ownBlock])⟩), by first | exact Kd.R_nil _ _ _ _ _ | exact Kd.N_nil _ _ _ _ _ | exact Kd.V_nil _ _ _ _ _ | exact Kd.Q_nil _ _ _ _ _ | exact Kd.S_nil _ _ _ _ _, by first | exact Kd.R_nil _ _ _ _ _ | exact Kd.N_nil _ _ _ _ _ | exact Kd.V_nil _ _ _ _ _ | exact Kd.Q_nil _ _ _ _ _ | exact Kd.S_nil _ _ _ _ _, by repeat (first | (with_reducible first | exact HB.out | apply below_alloc | apply pw_below_drewN | apply below_drew1 | refine below_set ?_ GE614.out | refine below_set ?_ GE621.out) | exact HB.out)⟩
                 · rw [if_neg c38] at H
                   exact absurd H (by simp)
               · rw [if_neg c35] at H
                 exact absurd H (by simp)
             · rw [if_neg c34] at H
               exact absurd H (by simp)
       · rw [if_neg c15] at H
         exact absurd H (by simp)
   · replace c5 := Bool.eq_false_iff.mpr c5
     subst c5
     have H1 : (some (49699, t615, t616, ([] : List (S57)), 0, 0, ([] : List Int), ([] : List Int), t617, ([] : List Int), 0)) = some (r1, r2, r3, r4, r5, r6, r7, r8, r9, r10, r11) := by rw [if_neg (show ¬ (false = true) by decide)] at H; exact H
     clear H
     have H := H1
     clear H1
     simp only [Option.some.injEq, Prod.mk.injEq] at H
     obtain ⟨rfl, rfl, rfl, rfl, rfl, rfl, rfl, rfl, rfl, rfl, rfl⟩ := H
     go_enter Try.func38, Try.ntmps38
     go_wp2_with (first | ((with_reducible refine gate_dst (N := 2) rfl ?_); refine box_event ?hg (N := 2) ?hd (cs := #[.int .u16 0, .int .u8 0, .int .u8 0, .slice none 0 0, .int .u16 0, .int .u32 0, .slice none 0 0, .slice none 0 0, .slice none 0 0, .slice none 0 0]) (t := 47) ?hr ?_; (case hd => rfl); (case hg => rfl); (case hr => first | (go_simp; done) | (go_simp; simp only [IntKind.wrap_u8, IntKind.wrap_u16, IntKind.wrap_u32, IntKind.wrap_u64]; done) | (go_simp; rfl)); intro gb614 hg w59 hbox hb; have n0_ := Aside0.mk (below_step (by repeat (first | (with_reducible first | exact HB.out | apply below_alloc | apply pw_below_drewN | apply below_drew1) | exact HB.out)) hb); have n1_ := Aside0.mk (hbox); have n2_ := Aside0.mk ((by rw [hg]; exact (below_size (by repeat (first | (with_reducible first | exact HB.out | apply below_alloc | apply pw_below_drewN | apply below_drew1) | exact HB.out))) : w.heap.size ≤ gb614)); have n3_ := Aside0.mk ((by rw [hg]; exact (below_size (by repeat (first | (with_reducible first | exact HB.out | apply below_alloc | apply pw_below_drewN | apply below_drew1) | exact HB.out))) : w.heap.size ≤ gb614)); clear HB; have HB := n0_; have BK614 := n1_; have GW614 := n2_; have GE614 := n3_; clear n0_ n1_ n2_ n3_; clear hb hbox hg) | ((with_reducible refine gate_callee (f := 53) rfl ?_); refine goesL_ (some 12) rfl rfl Try.func53 (by kernel_rfl) rfl #[.slice A0 l0.length c0] rfl (by (try simp only [List.map_toArray, List.map_cons, List.map_nil]); first | done | rfl | (simp only [List.length_drop, List.length_take]; rfl)) ?_; (with_reducible refine (ctl_Get.calls k _ _ l0 t615 t616 t617 t618 _ ?side1 ?side2 A2.out).mono ?_); (case side1 => repeat (first | exact (Kd.C_below HR0.out HB.out) | (with_reducible refine Kd.C_alloc ?_ _) | (with_reducible refine Kd.C_drewN ?_ _) | (with_reducible refine Kd.C_drew ?_))); (case side2 => exact HC0.out); rintro e w60 ⟨v619, rfl, ho0, hb⟩; refine ⟨_, rfl, ?_⟩; have n0_ := Aside0.mk (Kd.R_lower ho0 (below_size (by repeat (first | (with_reducible first | exact HB.out | apply below_alloc | apply pw_below_drewN | apply below_drew1 | refine below_set ?_ GE614.out) | exact HB.out)))); have n1_ := Aside0.mk (blk_below (g := gb614) (o := .cells #[.int .u16 0, .int .u8 0, .int .u8 0, .slice none 0 0, .int .u16 0, .int .u32 0, .slice none 0 0, .slice none 0 0, .slice none 0 0, .slice none 0 0] 47 (0, 0)) (by (with_reducible repeat (first | refine blk_drewN ?_ _ | refine blk_drew ?_ | refine blk_alloc ?_ _)); exact BK614.out) hb); have n2_ := Aside0.mk (below_step (by repeat (first | (with_reducible first | exact HB.out | apply below_alloc | apply pw_below_drewN | apply below_drew1 | refine below_set ?_ GE614.out) | exact HB.out)) hb); clear BK614; clear HB; have HO620 := n0_; have BK614 := n1_; have HB := n2_; clear n0_ n1_ n2_; (try clear hb); (try clear hb2); (try clear hk); (try clear hi); (try clear ho0)) | ((with_reducible refine gate_dst (N := 8) rfl ?_); refine box_event ?hg (N := 8) ?hd (cs := #[.int .u16 0, .int .u8 0, .int .u8 0, .slice none 0 0, .int .u16 0, .int .u32 0, .slice none 0 0, .slice none 0 0, .slice none 0 0, .slice none 0 0]) (t := 47) ?hr ?_; (case hd => rfl); (case hg => rfl); (case hr => first | (go_simp; done) | (go_simp; simp only [IntKind.wrap_u8, IntKind.wrap_u16, IntKind.wrap_u32, IntKind.wrap_u64]; done) | (go_simp; rfl)); intro gb621 hg w61 hbox hb; have n0_ := Aside0.mk (Kd.R_below (by (with_reducible repeat (first | apply Kd.R_alloc | apply Kd.R_drewN | apply Kd.R_drew)); exact HO620.out) hb); have n1_ := Aside0.mk (blk_below (g := gb614) (o := .cells #[.int .u16 0, .int .u8 0, .int .u8 0, .slice none 0 0, .int .u16 0, .int .u32 0, .slice none 0 0, .slice none 0 0, .slice none 0 0, .slice none 0 0] 47 (0, 0)) (by (with_reducible repeat (first | refine blk_drewN ?_ _ | refine blk_drew ?_ | refine blk_alloc ?_ _)); exact BK614.out) hb); have n2_ := Aside0.mk (below_step (by repeat (first | (with_reducible first | exact HB.out | apply below_alloc | apply pw_below_drewN | apply below_drew1 | refine below_set ?_ GE614.out) | exact HB.out)) hb); have n3_ := Aside0.mk (hbox); have n4_ := Aside0.mk ((by rw [hg]; exact (below_size (by repeat (first | (with_reducible first | exact HB.out | apply below_alloc | apply pw_below_drewN | apply below_drew1 | refine below_set ?_ GE614.out) | exact HB.out))) : w.heap.size ≤ gb621)); have n5_ := Aside0.mk ((by rw [hg]; exact (below_size (by repeat (first | (with_reducible first | exact HB.out | apply below_alloc | apply pw_below_drewN | apply below_drew1 | refine below_set ?_ GE614.out) | exact HB.out))) : w.heap.size ≤ gb621)); have n6_ := Aside0.mk ((by rw [hg]; exact Nat.ne_of_lt (blk_lt (g := gb614) (o := .cells #[.int .u16 0, .int .u8 0, .int .u8 0, .slice none 0 0, .int .u16 0, .int .u32 0, .slice none 0 0, .slice none 0 0, .slice none 0 0, .slice none 0 0] 47 (0, 0)) (by (with_reducible repeat (first | refine blk_drewN ?_ _ | refine blk_drew ?_ | refine blk_alloc ?_ _)); exact BK614.out)) : gb614 ≠ gb621)); have n7_ := Aside0.mk ((by rw [hg]; exact Nat.ne_of_gt (blk_lt (g := gb614) (o := .cells #[.int .u16 0, .int .u8 0, .int .u8 0, .slice none 0 0, .int .u16 0, .int .u32 0, .slice none 0 0, .slice none 0 0, .slice none 0 0, .slice none 0 0] 47 (0, 0)) (by (with_reducible repeat (first | refine blk_drewN ?_ _ | refine blk_drew ?_ | refine blk_alloc ?_ _)); exact BK614.out)) : gb621 ≠ gb614)); clear HO620; clear BK614; clear HB; have HO620 := n0_; have BK614 := n1_; have HB := n2_; have BK621 := n3_; have GW621 := n4_; have GE621 := n5_; have NB614_621 := n6_; have NB621_614 := n7_; clear n0_ n1_ n2_ n3_ n4_ n5_ n6_ n7_; clear hb hbox hg; have hnb62 := NB621_614.out; have hnc62 := NB614_621.out; obtain ⟨⟨hcz63_0, hcz63_1, hcz63_2, hcz63_3, hcz63_4, hcz63_5, hcz63_6, hcz63_7, hcz63_8, hcz63_9⟩, hfz63_0, hfz63_1, hfz63_2, hfz63_3, hfz63_4, hfz63_5, hfz63_6, hfz63_7, hfz63_8, hfz63_9⟩ := cz10 BK621.out) | ((with_reducible refine gate_callee (f := 57) rfl ?_); have n0_ : Aside0 (Kd.R (Kd.int .u8) 5 ((((((((((w61.setCell ⟨gb621, 0, none⟩ (.int .u16 49699)).setCell ⟨gb621, 1, none⟩ (.int .u8 t615)).setCell ⟨gb621, 2, none⟩ (.int .u8 t616)).setCell ⟨gb621, 3, none⟩ (.slice none 0 0)).setCell ⟨gb621, 4, none⟩ (.int .u16 0)).setCell ⟨gb621, 5, none⟩ (.int .u32 0)).setCell ⟨gb621, 6, none⟩ (.slice none 0 0)).setCell ⟨gb621, 7, none⟩ (.slice none 0 0)).setCell ⟨gb621, 8, none⟩ (.slice none 0 0)).setCell ⟨gb621, 9, none⟩ (.slice none 0 0)) w.heap.size (fun _ => True) v619 t617) := ⟨by (with_reducible repeat (first | apply Kd.R_alloc | apply Kd.R_drewN | apply Kd.R_drew)); exact Kd.R_mono (Kd.R_far (p := ⟨gb621, 9, none⟩) (Kd.R_far (p := ⟨gb621, 8, none⟩) (Kd.R_far (p := ⟨gb621, 7, none⟩) (Kd.R_far (p := ⟨gb621, 6, none⟩) (Kd.R_far (p := ⟨gb621, 5, none⟩) (Kd.R_far (p := ⟨gb621, 4, none⟩) (Kd.R_far (p := ⟨gb621, 3, none⟩) (Kd.R_far (p := ⟨gb621, 2, none⟩) (Kd.R_far (p := ⟨gb621, 1, none⟩) (Kd.R_far (p := ⟨gb621, 0, none⟩) (Kd.R_types HO620.out BK621.out (by decide)) (fun _ hk => hk.2) (.int .u16 49699)) (fun _ hk => hk.2) (.int .u8 t615)) (fun _ hk => hk.2) (.int .u8 t616)) (fun _ hk => hk.2) (.slice none 0 0)) (fun _ hk => hk.2) (.int .u16 0)) (fun _ hk => hk.2) (.int .u32 0)) (fun _ hk => hk.2) (.slice none 0 0)) (fun _ hk => hk.2) (.slice none 0 0)) (fun _ hk => hk.2) (.slice none 0 0)) (fun _ hk => hk.2) (.slice none 0 0)) (fun _ hk => trivial)⟩; have n1_ : Aside0 (((((((((((w61.setCell ⟨gb621, 0, none⟩ (.int .u16 49699)).setCell ⟨gb621, 1, none⟩ (.int .u8 t615)).setCell ⟨gb621, 2, none⟩ (.int .u8 t616)).setCell ⟨gb621, 3, none⟩ (.slice none 0 0)).setCell ⟨gb621, 4, none⟩ (.int .u16 0)).setCell ⟨gb621, 5, none⟩ (.int .u32 0)).setCell ⟨gb621, 6, none⟩ (.slice none 0 0)).setCell ⟨gb621, 7, none⟩ (.slice none 0 0)).setCell ⟨gb621, 8, none⟩ (.slice none 0 0)).setCell ⟨gb621, 9, none⟩ (.slice none 0 0)).heap[gb614]? = some (.cells #[.int .u16 0, .int .u8 0, .int .u8 0, .slice none 0 0, .int .u16 0, .int .u32 0, .slice none 0 0, .slice none 0 0, .slice none 0 0, .slice none 0 0] 47 (0, 0))) := ⟨by (with_reducible repeat (first | refine blk_drewN ?_ _ | refine blk_drew ?_ | refine blk_alloc ?_ _)); refine blk_far ?_ NB614_621.out _; (with_reducible repeat (first | refine blk_drewN ?_ _ | refine blk_drew ?_ | refine blk_alloc ?_ _)); refine blk_far ?_ NB614_621.out _; (with_reducible repeat (first | refine blk_drewN ?_ _ | refine blk_drew ?_ | refine blk_alloc ?_ _)); refine blk_far ?_ NB614_621.out _; (with_reducible repeat (first | refine blk_drewN ?_ _ | refine blk_drew ?_ | refine blk_alloc ?_ _)); refine blk_far ?_ NB614_621.out _; (with_reducible repeat (first | refine blk_drewN ?_ _ | refine blk_drew ?_ | refine blk_alloc ?_ _)); refine blk_far ?_ NB614_621.out _; (with_reducible repeat (first | refine blk_drewN ?_ _ | refine blk_drew ?_ | refine blk_alloc ?_ _)); refine blk_far ?_ NB614_621.out _; (with_reducible repeat (first | refine blk_drewN ?_ _ | refine blk_drew ?_ | refine blk_alloc ?_ _)); refine blk_far ?_ NB614_621.out _; (with_reducible repeat (first | refine blk_drewN ?_ _ | refine blk_drew ?_ | refine blk_alloc ?_ _)); refine blk_far ?_ NB614_621.out _; (with_reducible repeat (first | refine blk_drewN ?_ _ | refine blk_drew ?_ | refine blk_alloc ?_ _)); refine blk_far ?_ NB614_621.out _; (with_reducible repeat (first | refine blk_drewN ?_ _ | refine blk_drew ?_ | refine blk_alloc ?_ _)); refine blk_far ?_ NB614_621.out _; (with_reducible repeat (first | refine blk_drewN ?_ _ | refine blk_drew ?_ | refine blk_alloc ?_ _)); exact BK614.out⟩; have n2_ : Aside0 (((((((((((w61.setCell ⟨gb621, 0, none⟩ (.int .u16 49699)).setCell ⟨gb621, 1, none⟩ (.int .u8 t615)).setCell ⟨gb621, 2, none⟩ (.int .u8 t616)).setCell ⟨gb621, 3, none⟩ (.slice none 0 0)).setCell ⟨gb621, 4, none⟩ (.int .u16 0)).setCell ⟨gb621, 5, none⟩ (.int .u32 0)).setCell ⟨gb621, 6, none⟩ (.slice none 0 0)).setCell ⟨gb621, 7, none⟩ (.slice none 0 0)).setCell ⟨gb621, 8, none⟩ (.slice none 0 0)).setCell ⟨gb621, 9, none⟩ (.slice none 0 0)).heap[gb621]? = some (.cells #[.int .u16 49699, .int .u8 t615, .int .u8 t616, .slice none 0 0, .int .u16 0, .int .u32 0, .slice none 0 0, .slice none 0 0, .slice none 0 0, .slice none 0 0] 47 (0, 0))) := ⟨by (with_reducible repeat (first | refine blk_drewN ?_ _ | refine blk_drew ?_ | refine blk_alloc ?_ _)); refine blk_put (cs := #[.int .u16 49699, .int .u8 t615, .int .u8 t616, .slice none 0 0, .int .u16 0, .int .u32 0, .slice none 0 0, .slice none 0 0, .slice none 0 0, .slice none 0 0]) ?_ 9 _ rfl; (with_reducible repeat (first | refine blk_drewN ?_ _ | refine blk_drew ?_ | refine blk_alloc ?_ _)); refine blk_put (cs := #[.int .u16 49699, .int .u8 t615, .int .u8 t616, .slice none 0 0, .int .u16 0, .int .u32 0, .slice none 0 0, .slice none 0 0, .slice none 0 0, .slice none 0 0]) ?_ 8 _ rfl; (with_reducible repeat (first | refine blk_drewN ?_ _ | refine blk_drew ?_ | refine blk_alloc ?_ _)); refine blk_put (cs := #[.int .u16 49699, .int .u8 t615, .int .u8 t616, .slice none 0 0, .int .u16 0, .int .u32 0, .slice none 0 0, .slice none 0 0, .slice none 0 0, .slice none 0 0]) ?_ 7 _ rfl; (with_reducible repeat (first | refine blk_drewN ?_ _ | refine blk_drew ?_ | refine blk_alloc ?_ _)); refine blk_put (cs := #[.int .u16 49699, .int .u8 t615, .int .u8 t616, .slice none 0 0, .int .u16 0, .int .u32 0, .slice none 0 0, .slice none 0 0, .slice none 0 0, .slice none 0 0]) ?_ 6 _ rfl; (with_reducible repeat (first | refine blk_drewN ?_ _ | refine blk_drew ?_ | refine blk_alloc ?_ _)); refine blk_put (cs := #[.int .u16 49699, .int .u8 t615, .int .u8 t616, .slice none 0 0, .int .u16 0, .int .u32 0, .slice none 0 0, .slice none 0 0, .slice none 0 0, .slice none 0 0]) ?_ 5 _ rfl; (with_reducible repeat (first | refine blk_drewN ?_ _ | refine blk_drew ?_ | refine blk_alloc ?_ _)); refine blk_put (cs := #[.int .u16 49699, .int .u8 t615, .int .u8 t616, .slice none 0 0, .int .u16 0, .int .u32 0, .slice none 0 0, .slice none 0 0, .slice none 0 0, .slice none 0 0]) ?_ 4 _ rfl; (with_reducible repeat (first | refine blk_drewN ?_ _ | refine blk_drew ?_ | refine blk_alloc ?_ _)); refine blk_put (cs := #[.int .u16 49699, .int .u8 t615, .int .u8 t616, .slice none 0 0, .int .u16 0, .int .u32 0, .slice none 0 0, .slice none 0 0, .slice none 0 0, .slice none 0 0]) ?_ 3 _ rfl; (with_reducible repeat (first | refine blk_drewN ?_ _ | refine blk_drew ?_ | refine blk_alloc ?_ _)); refine blk_put (cs := #[.int .u16 49699, .int .u8 t615, .int .u8 0, .slice none 0 0, .int .u16 0, .int .u32 0, .slice none 0 0, .slice none 0 0, .slice none 0 0, .slice none 0 0]) ?_ 2 _ rfl; (with_reducible repeat (first | refine blk_drewN ?_ _ | refine blk_drew ?_ | refine blk_alloc ?_ _)); refine blk_put (cs := #[.int .u16 49699, .int .u8 0, .int .u8 0, .slice none 0 0, .int .u16 0, .int .u32 0, .slice none 0 0, .slice none 0 0, .slice none 0 0, .slice none 0 0]) ?_ 1 _ rfl; (with_reducible repeat (first | refine blk_drewN ?_ _ | refine blk_drew ?_ | refine blk_alloc ?_ _)); refine blk_put (cs := #[.int .u16 0, .int .u8 0, .int .u8 0, .slice none 0 0, .int .u16 0, .int .u32 0, .slice none 0 0, .slice none 0 0, .slice none 0 0, .slice none 0 0]) ?_ 0 _ rfl; (with_reducible repeat (first | refine blk_drewN ?_ _ | refine blk_drew ?_ | refine blk_alloc ?_ _)); exact BK621.out⟩; have n3_ : Aside0 (Below w.heap.size w ((((((((((w61.setCell ⟨gb621, 0, none⟩ (.int .u16 49699)).setCell ⟨gb621, 1, none⟩ (.int .u8 t615)).setCell ⟨gb621, 2, none⟩ (.int .u8 t616)).setCell ⟨gb621, 3, none⟩ (.slice none 0 0)).setCell ⟨gb621, 4, none⟩ (.int .u16 0)).setCell ⟨gb621, 5, none⟩ (.int .u32 0)).setCell ⟨gb621, 6, none⟩ (.slice none 0 0)).setCell ⟨gb621, 7, none⟩ (.slice none 0 0)).setCell ⟨gb621, 8, none⟩ (.slice none 0 0)).setCell ⟨gb621, 9, none⟩ (.slice none 0 0))) := ⟨by repeat (first | (with_reducible first | exact HB.out | apply below_alloc | apply pw_below_drewN | apply below_drew1 | refine below_set ?_ GE614.out | refine below_set ?_ GE621.out) | exact HB.out)⟩; (try clear HO620); (try clear BK614); (try clear BK621); (try clear HB); generalize ((((((((((w61.setCell ⟨gb621, 0, none⟩ (.int .u16 49699)).setCell ⟨gb621, 1, none⟩ (.int .u8 t615)).setCell ⟨gb621, 2, none⟩ (.int .u8 t616)).setCell ⟨gb621, 3, none⟩ (.slice none 0 0)).setCell ⟨gb621, 4, none⟩ (.int .u16 0)).setCell ⟨gb621, 5, none⟩ (.int .u32 0)).setCell ⟨gb621, 6, none⟩ (.slice none 0 0)).setCell ⟨gb621, 7, none⟩ (.slice none 0 0)).setCell ⟨gb621, 8, none⟩ (.slice none 0 0)).setCell ⟨gb621, 9, none⟩ (.slice none 0 0)) = w64 at n0_ n1_ n2_ n3_ ⊢; have HO620 := n0_; have BK614 := n1_; have BK621 := n2_; have HB := n3_; clear n0_ n1_ n2_ n3_; refine goesL_ (some 27) rfl rfl Try.func57 (by kernel_rfl) rfl #[.int .u8 t615] rfl (by (try simp only [List.map_toArray, List.map_cons, List.map_nil]); first | done | rfl | (simp only [List.length_drop, List.length_take]; rfl)) ?_; (with_reducible refine (chap_valued.calls t615 false _ A4.out).mono ?_); rintro e w' ⟨rfl, ⟨nd, rfl⟩⟩; refine ⟨_, rfl, ?_⟩; (try (rw [drewN_self w64]; generalize hq_ : World.drewN w64 _ = w64; have n0_ : Aside0 (Kd.R (Kd.int .u8) 5 w64 w.heap.size (fun _ => True) v619 t617) := ⟨by rw [← hq_]; exact (by (with_reducible repeat (first | apply Kd.R_alloc | apply Kd.R_drewN | apply Kd.R_drew)); exact HO620.out)⟩; have n1_ : Aside0 (w64.heap[gb614]? = some (.cells #[.int .u16 0, .int .u8 0, .int .u8 0, .slice none 0 0, .int .u16 0, .int .u32 0, .slice none 0 0, .slice none 0 0, .slice none 0 0, .slice none 0 0] 47 (0, 0))) := ⟨by rw [← hq_]; exact (by (with_reducible repeat (first | refine blk_drewN ?_ _ | refine blk_drew ?_ | refine blk_alloc ?_ _)); exact BK614.out)⟩; have n2_ : Aside0 (w64.heap[gb621]? = some (.cells #[.int .u16 49699, .int .u8 t615, .int .u8 t616, .slice none 0 0, .int .u16 0, .int .u32 0, .slice none 0 0, .slice none 0 0, .slice none 0 0, .slice none 0 0] 47 (0, 0))) := ⟨by rw [← hq_]; exact (by (with_reducible repeat (first | refine blk_drewN ?_ _ | refine blk_drew ?_ | refine blk_alloc ?_ _)); exact BK621.out)⟩; have n3_ : Aside0 (Below w.heap.size w w64) := ⟨by rw [← hq_]; exact (by repeat (first | (with_reducible first | exact HB.out | apply below_alloc | apply pw_below_drewN | apply below_drew1 | refine below_set ?_ GE614.out | refine below_set ?_ GE621.out) | exact HB.out))⟩; clear HO620 BK614 BK621 HB hq_; have HO620 := n0_; have BK614 := n1_; have BK621 := n2_; have HB := n3_; clear n0_ n1_ n2_ n3_)); obtain ⟨Ao65, co65, eo65⟩ := Kd.R_slice HO620.out; subst eo65; obtain ⟨⟨hcz66_0, hcz66_1, hcz66_2, hcz66_3, hcz66_4, hcz66_5, hcz66_6, hcz66_7, hcz66_8, hcz66_9⟩, hfz66_0, hfz66_1, hfz66_2, hfz66_3, hfz66_4, hfz66_5, hfz66_6, hfz66_7, hfz66_8, hfz66_9⟩ := cz10 BK621.out; obtain ⟨⟨hcz67_0, hcz67_1, hcz67_2, hcz67_3, hcz67_4, hcz67_5, hcz67_6, hcz67_7, hcz67_8, hcz67_9⟩, hfz67_0, hfz67_1, hfz67_2, hfz67_3, hfz67_4, hfz67_5, hfz67_6, hfz67_7, hfz67_8, hfz67_9⟩ := cz10 BK614.out))
     refine bodyPost_ret (results_ct rfl _ _ gb614 47 #[.int .u16 49699, .int .u8 t615, .int .u8 t616, .slice none 0 0, .int .u16 0, .int .u32 0, .slice none 0 0, .slice none 0 0, .slice Ao65 t617.length co65, .slice none 0 0] (0, 0) _ rfl (by (with_reducible repeat (first | refine blk_drewN ?_ _ | refine blk_drew ?_ | refine blk_alloc ?_ _)); refine blk_put (cs := #[.int .u16 49699, .int .u8 t615, .int .u8 t616, .slice none 0 0, .int .u16 0, .int .u32 0, .slice none 0 0, .slice none 0 0, .slice Ao65 t617.length co65, .slice none 0 0]) ?_ 9 _ rfl; (with_reducible repeat (first | refine blk_drewN ?_ _ | refine blk_drew ?_ | refine blk_alloc ?_ _)); refine blk_put (cs := #[.int .u16 49699, .int .u8 t615, .int .u8 t616, .slice none 0 0, .int .u16 0, .int .u32 0, .slice none 0 0, .slice none 0 0, .slice none 0 0, .slice none 0 0]) ?_ 8 _ rfl; (with_reducible repeat (first | refine blk_drewN ?_ _ | refine blk_drew ?_ | refine blk_alloc ?_ _)); refine blk_put (cs := #[.int .u16 49699, .int .u8 t615, .int .u8 t616, .slice none 0 0, .int .u16 0, .int .u32 0, .slice none 0 0, .slice none 0 0, .slice none 0 0, .slice none 0 0]) ?_ 7 _ rfl; (with_reducible repeat (first | refine blk_drewN ?_ _ | refine blk_drew ?_ | refine blk_alloc ?_ _)); refine blk_put (cs := #[.int .u16 49699, .int .u8 t615, .int .u8 t616, .slice none 0 0, .int .u16 0, .int .u32 0, .slice none 0 0, .slice none 0 0, .slice none 0 0, .slice none 0 0]) ?_ 6 _ rfl; (with_reducible repeat (first | refine blk_drewN ?_ _ | refine blk_drew ?_ | refine blk_alloc ?_ _)); refine blk_put (cs := #[.int .u16 49699, .int .u8 t615, .int .u8 t616, .slice none 0 0, .int .u16 0, .int .u32 0, .slice none 0 0, .slice none 0 0, .slice none 0 0, .slice none 0 0]) ?_ 5 _ rfl; (with_reducible repeat (first | refine blk_drewN ?_ _ | refine blk_drew ?_ | refine blk_alloc ?_ _)); refine blk_put (cs := #[.int .u16 49699, .int .u8 t615, .int .u8 t616, .slice none 0 0, .int .u16 0, .int .u32 0, .slice none 0 0, .slice none 0 0, .slice none 0 0, .slice none 0 0]) ?_ 4 _ rfl; (with_reducible repeat (first | refine blk_drewN ?_ _ | refine blk_drew ?_ | refine blk_alloc ?_ _)); refine blk_put (cs := #[.int .u16 49699, .int .u8 t615, .int .u8 t616, .slice none 0 0, .int .u16 0, .int .u32 0, .slice none 0 0, .slice none 0 0, .slice none 0 0, .slice none 0 0]) ?_ 3 _ rfl; (with_reducible repeat (first | refine blk_drewN ?_ _ | refine blk_drew ?_ | refine blk_alloc ?_ _)); refine blk_put (cs := #[.int .u16 49699, .int .u8 t615, .int .u8 0, .slice none 0 0, .int .u16 0, .int .u32 0, .slice none 0 0, .slice none 0 0, .slice none 0 0, .slice none 0 0]) ?_ 2 _ rfl; (with_reducible repeat (first | refine blk_drewN ?_ _ | refine blk_drew ?_ | refine blk_alloc ?_ _)); refine blk_put (cs := #[.int .u16 49699, .int .u8 0, .int .u8 0, .slice none 0 0, .int .u16 0, .int .u32 0, .slice none 0 0, .slice none 0 0, .slice none 0 0, .slice none 0 0]) ?_ 1 _ rfl; (with_reducible repeat (first | refine blk_drewN ?_ _ | refine blk_drew ?_ | refine blk_alloc ?_ _)); refine blk_put (cs := #[.int .u16 0, .int .u8 0, .int .u8 0, .slice none 0 0, .int .u16 0, .int .u32 0, .slice none 0 0, .slice none 0 0, .slice none 0 0, .slice none 0 0]) ?_ 0 _ rfl; (with_reducible repeat (first | refine blk_drewN ?_ _ | refine blk_drew ?_ | refine blk_alloc ?_ _)); refine blk_far ?_ NB614_621.out _; (with_reducible repeat (first | refine blk_drewN ?_ _ | refine blk_drew ?_ | refine blk_alloc ?_ _)); exact BK614.out) Try.underlying47 rfl (by kernel_rfl)) rfl ?_
     exact ⟨_, _, _, _, _, by first | rfl | (simp [errW_none, errW_some] <;> rfl) | (simp [*, errW_none, errW_some] <;> rfl), by first | exact Kd.S_nil _ _ _ _ _ | exact Kd.N_nil _ _ _ _ _ | exact Kd.V_nil _ _ _ _ _ | exact Kd.Q_nil _ _ _ _ _ | exact Kd.R_nil _ _ _ _ _, by first | exact Kd.R_nil _ _ _ _ _ | exact Kd.N_nil _ _ _ _ _ | exact Kd.V_nil _ _ _ _ _ | exact Kd.Q_nil _ _ _ _ _ | exact Kd.S_nil _ _ _ _ _, by first | exact Kd.R_nil _ _ _ _ _ | exact Kd.N_nil _ _ _ _ _ | exact Kd.V_nil _ _ _ _ _ | exact Kd.Q_nil _ _ _ _ _ | exact Kd.S_nil _ _ _ _ _, by (with_reducible repeat (first | apply Kd.R_alloc | apply Kd.R_drewN | apply Kd.R_drew)); exact Kd.R_mono (Kd.R_far (p := ⟨gb614, 9, none⟩) (Kd.R_far (p := ⟨gb614, 8, none⟩) (Kd.R_far (p := ⟨gb614, 7, none⟩) (Kd.R_far (p := ⟨gb614, 6, none⟩) (Kd.R_far (p := ⟨gb614, 5, none⟩) (Kd.R_far (p := ⟨gb614, 4, none⟩) (Kd.R_far (p := ⟨gb614, 3, none⟩) (Kd.R_far (p := ⟨gb614, 2, none⟩) (Kd.R_far (p := ⟨gb614, 1, none⟩) (Kd.R_far (p := ⟨gb614, 0, none⟩) (Kd.R_far (p := ⟨gb621, 8, none⟩) (Kd.R_types (Kd.R_types HO620.out BK621.out (by decide)) BK614.out (by decide)) (fun _ hk => hk.1.2) (.slice Ao65 t617.length co65)) (fun _ hk => hk.2) (.int .u16 49699)) (fun _ hk => hk.2) (.int .u8 t615)) (fun _ hk => hk.2) (.int .u8 t616)) (fun _ hk => hk.2) (.slice none 0 0)) (fun _ hk => hk.2) (.int .u16 0)) (fun _ hk => hk.2) (.int .u32 0)) (fun _ hk => hk.2) (.slice none 0 0)) (fun _ hk => hk.2) (.slice none 0 0)) (fun _ hk => hk.2) (.slice Ao65 t617.length co65)) (fun _ hk => hk.2) (.slice none 0 0)) (fun _ hk => ⟨(by simp [Value.ownBlock]), (by simp [Value.ownBlock])⟩), by first | exact Kd.R_nil _ _ _ _ _ | exact Kd.N_nil _ _ _ _ _ | exact Kd.V_nil _ _ _ _ _ | exact Kd.Q_nil _ _ _ _ _ | exact Kd.S_nil _ _ _ _ _, by repeat (first | (with_reducible first | exact HB.out | apply below_alloc | apply pw_below_drewN | apply below_drew1 | refine below_set ?_ GE614.out | refine below_set ?_ GE621.out) | exact HB.out)⟩
 · rw [if_neg c3] at H
   have c3b0 : (t618 == 0) = false := beq_eq_false_iff_ne.mpr c3
   have c3b1 : (t618 != 0) = true := bne_iff_ne.mpr c3
   simp only [Option.some.injEq, Prod.mk.injEq] at H
   obtain ⟨rfl, rfl, rfl, rfl, rfl, rfl, rfl, rfl, rfl, rfl, rfl⟩ := H
   go_enter Try.func38, Try.ntmps38
   go_wp2_with (first | ((with_reducible refine gate_dst (N := 2) rfl ?_); refine box_event ?hg (N := 2) ?hd (cs := #[.int .u16 0, .int .u8 0, .int .u8 0, .slice none 0 0, .int .u16 0, .int .u32 0, .slice none 0 0, .slice none 0 0, .slice none 0 0, .slice none 0 0]) (t := 47) ?hr ?_; (case hd => rfl); (case hg => rfl); (case hr => first | (go_simp; done) | (go_simp; simp only [IntKind.wrap_u8, IntKind.wrap_u16, IntKind.wrap_u32, IntKind.wrap_u64]; done) | (go_simp; rfl)); intro gb614 hg w68 hbox hb; have n0_ := Aside0.mk (below_step (by repeat (first | (with_reducible first | exact HB.out | apply below_alloc | apply pw_below_drewN | apply below_drew1) | exact HB.out)) hb); have n1_ := Aside0.mk (hbox); have n2_ := Aside0.mk ((by rw [hg]; exact (below_size (by repeat (first | (with_reducible first | exact HB.out | apply below_alloc | apply pw_below_drewN | apply below_drew1) | exact HB.out))) : w.heap.size ≤ gb614)); have n3_ := Aside0.mk ((by rw [hg]; exact (below_size (by repeat (first | (with_reducible first | exact HB.out | apply below_alloc | apply pw_below_drewN | apply below_drew1) | exact HB.out))) : w.heap.size ≤ gb614)); clear HB; have HB := n0_; have BK614 := n1_; have GW614 := n2_; have GE614 := n3_; clear n0_ n1_ n2_ n3_; clear hb hbox hg) | ((with_reducible refine gate_callee (f := 53) rfl ?_); refine goesL_ (some 12) rfl rfl Try.func53 (by kernel_rfl) rfl #[.slice A0 l0.length c0] rfl (by (try simp only [List.map_toArray, List.map_cons, List.map_nil]); first | done | rfl | (simp only [List.length_drop, List.length_take]; rfl)) ?_; (with_reducible refine (ctl_Get.calls k _ _ l0 t615 t616 t617 t618 _ ?side1 ?side2 A2.out).mono ?_); (case side1 => repeat (first | exact (Kd.C_below HR0.out HB.out) | (with_reducible refine Kd.C_alloc ?_ _) | (with_reducible refine Kd.C_drewN ?_ _) | (with_reducible refine Kd.C_drew ?_))); (case side2 => exact HC0.out); rintro e w69 ⟨v619, rfl, ho0, hb⟩; refine ⟨_, rfl, ?_⟩; have n0_ := Aside0.mk (Kd.R_lower ho0 (below_size (by repeat (first | (with_reducible first | exact HB.out | apply below_alloc | apply pw_below_drewN | apply below_drew1 | refine below_set ?_ GE614.out) | exact HB.out)))); have n1_ := Aside0.mk (blk_below (g := gb614) (o := .cells #[.int .u16 0, .int .u8 0, .int .u8 0, .slice none 0 0, .int .u16 0, .int .u32 0, .slice none 0 0, .slice none 0 0, .slice none 0 0, .slice none 0 0] 47 (0, 0)) (by (with_reducible repeat (first | refine blk_drewN ?_ _ | refine blk_drew ?_ | refine blk_alloc ?_ _)); exact BK614.out) hb); have n2_ := Aside0.mk (below_step (by repeat (first | (with_reducible first | exact HB.out | apply below_alloc | apply pw_below_drewN | apply below_drew1 | refine below_set ?_ GE614.out) | exact HB.out)) hb); clear BK614; clear HB; have HO620 := n0_; have BK614 := n1_; have HB := n2_; clear n0_ n1_ n2_; (try clear hb); (try clear hb2); (try clear hk); (try clear hi); (try clear ho0)) | ((with_reducible refine gate_dst (N := 8) rfl ?_); refine box_event ?hg (N := 8) ?hd (cs := #[.int .u16 0, .int .u8 0, .int .u8 0, .slice none 0 0, .int .u16 0, .int .u32 0, .slice none 0 0, .slice none 0 0, .slice none 0 0, .slice none 0 0]) (t := 47) ?hr ?_; (case hd => rfl); (case hg => rfl); (case hr => first | (go_simp; done) | (go_simp; simp only [IntKind.wrap_u8, IntKind.wrap_u16, IntKind.wrap_u32, IntKind.wrap_u64]; done) | (go_simp; rfl)); intro gb621 hg w70 hbox hb; have n0_ := Aside0.mk (Kd.R_below (by (with_reducible repeat (first | apply Kd.R_alloc | apply Kd.R_drewN | apply Kd.R_drew)); exact HO620.out) hb); have n1_ := Aside0.mk (blk_below (g := gb614) (o := .cells #[.int .u16 0, .int .u8 0, .int .u8 0, .slice none 0 0, .int .u16 0, .int .u32 0, .slice none 0 0, .slice none 0 0, .slice none 0 0, .slice none 0 0] 47 (0, 0)) (by (with_reducible repeat (first | refine blk_drewN ?_ _ | refine blk_drew ?_ | refine blk_alloc ?_ _)); exact BK614.out) hb); have n2_ := Aside0.mk (below_step (by repeat (first | (with_reducible first | exact HB.out | apply below_alloc | apply pw_below_drewN | apply below_drew1 | refine below_set ?_ GE614.out) | exact HB.out)) hb); have n3_ := Aside0.mk (hbox); have n4_ := Aside0.mk ((by rw [hg]; exact (below_size (by repeat (first | (with_reducible first | exact HB.out | apply below_alloc | apply pw_below_drewN | apply below_drew1 | refine below_set ?_ GE614.out) | exact HB.out))) : w.heap.size ≤ gb621)); have n5_ := Aside0.mk ((by rw [hg]; exact (below_size (by repeat (first | (with_reducible first | exact HB.out | apply below_alloc | apply pw_below_drewN | apply below_drew1 | refine below_set ?_ GE614.out) | exact HB.out))) : w.heap.size ≤ gb621)); have n6_ := Aside0.mk ((by rw [hg]; exact Nat.ne_of_lt (blk_lt (g := gb614) (o := .cells #[.int .u16 0, .int .u8 0, .int .u8 0, .slice none 0 0, .int .u16 0, .int .u32 0, .slice none 0 0, .slice none 0 0, .slice none 0 0, .slice none 0 0] 47 (0, 0)) (by (with_reducible repeat (first | refine blk_drewN ?_ _ | refine blk_drew ?_ | refine blk_alloc ?_ _)); exact BK614.out)) : gb614 ≠ gb621)); have n7_ := Aside0.mk ((by rw [hg]; exact Nat.ne_of_gt (blk_lt (g := gb614) (o := .cells #[.int .u16 0, .int .u8 0, .int .u8 0, .slice none 0 0, .int .u16 0, .int .u32 0, .slice none 0 0, .slice none 0 0, .slice none 0 0, .slice none 0 0] 47 (0, 0)) (by (with_reducible repeat (first | refine blk_drewN ?_ _ | refine blk_drew ?_ | refine blk_alloc ?_ _)); exact BK614.out)) : gb621 ≠ gb614)); clear HO620; clear BK614; clear HB; have HO620 := n0_; have BK614 := n1_; have HB := n2_; have BK621 := n3_; have GW621 := n4_; have GE621 := n5_; have NB614_621 := n6_; have NB621_614 := n7_; clear n0_ n1_ n2_ n3_ n4_ n5_ n6_ n7_; clear hb hbox hg; have hnb71 := NB621_614.out; have hnc71 := NB614_621.out; obtain ⟨⟨hcz72_0, hcz72_1, hcz72_2, hcz72_3, hcz72_4, hcz72_5, hcz72_6, hcz72_7, hcz72_8, hcz72_9⟩, hfz72_0, hfz72_1, hfz72_2, hfz72_3, hfz72_4, hfz72_5, hfz72_6, hfz72_7, hfz72_8, hfz72_9⟩ := cz10 BK621.out; obtain ⟨⟨hcz73_0, hcz73_1, hcz73_2, hcz73_3, hcz73_4, hcz73_5, hcz73_6, hcz73_7, hcz73_8, hcz73_9⟩, hfz73_0, hfz73_1, hfz73_2, hfz73_3, hfz73_4, hfz73_5, hfz73_6, hfz73_7, hfz73_8, hfz73_9⟩ := cz10 BK614.out))
   refine bodyPost_ret (results_ct rfl _ _ gb614 47 #[.int .u16 0, .int .u8 0, .int .u8 0, .slice none 0 0, .int .u16 0, .int .u32 0, .slice none 0 0, .slice none 0 0, .slice none 0 0, .slice none 0 0] (0, 0) _ rfl (by (with_reducible repeat (first | refine blk_drewN ?_ _ | refine blk_drew ?_ | refine blk_alloc ?_ _)); refine blk_put (cs := #[.int .u16 0, .int .u8 0, .int .u8 0, .slice none 0 0, .int .u16 0, .int .u32 0, .slice none 0 0, .slice none 0 0, .slice none 0 0, .slice none 0 0]) ?_ 9 _ rfl; (with_reducible repeat (first | refine blk_drewN ?_ _ | refine blk_drew ?_ | refine blk_alloc ?_ _)); refine blk_put (cs := #[.int .u16 0, .int .u8 0, .int .u8 0, .slice none 0 0, .int .u16 0, .int .u32 0, .slice none 0 0, .slice none 0 0, .slice none 0 0, .slice none 0 0]) ?_ 8 _ rfl; (with_reducible repeat (first | refine blk_drewN ?_ _ | refine blk_drew ?_ | refine blk_alloc ?_ _)); refine blk_put (cs := #[.int .u16 0, .int .u8 0, .int .u8 0, .slice none 0 0, .int .u16 0, .int .u32 0, .slice none 0 0, .slice none 0 0, .slice none 0 0, .slice none 0 0]) ?_ 7 _ rfl; (with_reducible repeat (first | refine blk_drewN ?_ _ | refine blk_drew ?_ | refine blk_alloc ?_ _)); refine blk_put (cs := #[.int .u16 0, .int .u8 0, .int .u8 0, .slice none 0 0, .int .u16 0, .int .u32 0, .slice none 0 0, .slice none 0 0, .slice none 0 0, .slice none 0 0]) ?_ 6 _ rfl; (with_reducible repeat (first | refine blk_drewN ?_ _ | refine blk_drew ?_ | refine blk_alloc ?_ _)); refine blk_put (cs := #[.int .u16 0, .int .u8 0, .int .u8 0, .slice none 0 0, .int .u16 0, .int .u32 0, .slice none 0 0, .slice none 0 0, .slice none 0 0, .slice none 0 0]) ?_ 5 _ rfl; (with_reducible repeat (first | refine blk_drewN ?_ _ | refine blk_drew ?_ | refine blk_alloc ?_ _)); refine blk_put (cs := #[.int .u16 0, .int .u8 0, .int .u8 0, .slice none 0 0, .int .u16 0, .int .u32 0, .slice none 0 0, .slice none 0 0, .slice none 0 0, .slice none 0 0]) ?_ 4 _ rfl; (with_reducible repeat (first | refine blk_drewN ?_ _ | refine blk_drew ?_ | refine blk_alloc ?_ _)); refine blk_put (cs := #[.int .u16 0, .int .u8 0, .int .u8 0, .slice none 0 0, .int .u16 0, .int .u32 0, .slice none 0 0, .slice none 0 0, .slice none 0 0, .slice none 0 0]) ?_ 3 _ rfl; (with_reducible repeat (first | refine blk_drewN ?_ _ | refine blk_drew ?_ | refine blk_alloc ?_ _)); refine blk_put (cs := #[.int .u16 0, .int .u8 0, .int .u8 0, .slice none 0 0, .int .u16 0, .int .u32 0, .slice none 0 0, .slice none 0 0, .slice none 0 0, .slice none 0 0]) ?_ 2 _ rfl; (with_reducible repeat (first | refine blk_drewN ?_ _ | refine blk_drew ?_ | refine blk_alloc ?_ _)); refine blk_put (cs := #[.int .u16 0, .int .u8 0, .int .u8 0, .slice none 0 0, .int .u16 0, .int .u32 0, .slice none 0 0, .slice none 0 0, .slice none 0 0, .slice none 0 0]) ?_ 1 _ rfl; (with_reducible repeat (first | refine blk_drewN ?_ _ | refine blk_drew ?_ | refine blk_alloc ?_ _)); refine blk_put (cs := #[.int .u16 0, .int .u8 0, .int .u8 0, .slice none 0 0, .int .u16 0, .int .u32 0, .slice none 0 0, .slice none 0 0, .slice none 0 0, .slice none 0 0]) ?_ 0 _ rfl; (with_reducible repeat (first | refine blk_drewN ?_ _ | refine blk_drew ?_ | refine blk_alloc ?_ _)); refine blk_far ?_ NB614_621.out _; (with_reducible repeat (first | refine blk_drewN ?_ _ | refine blk_drew ?_ | refine blk_alloc ?_ _)); refine blk_far ?_ NB614_621.out _; (with_reducible repeat (first | refine blk_drewN ?_ _ | refine blk_drew ?_ | refine blk_alloc ?_ _)); refine blk_far ?_ NB614_621.out _; (with_reducible repeat (first | refine blk_drewN ?_ _ | refine blk_drew ?_ | refine blk_alloc ?_ _)); refine blk_far ?_ NB614_621.out _; (with_reducible repeat (first | refine blk_drewN ?_ _ | refine blk_drew ?_ | refine blk_alloc ?_ _)); refine blk_far ?_ NB614_621.out _; (with_reducible repeat (first | refine blk_drewN ?_ _ | refine blk_drew ?_ | refine blk_alloc ?_ _)); refine blk_far ?_ NB614_621.out _; (with_reducible repeat (first | refine blk_drewN ?_ _ | refine blk_drew ?_ | refine blk_alloc ?_ _)); refine blk_far ?_ NB614_621.out _; (with_reducible repeat (first | refine blk_drewN ?_ _ | refine blk_drew ?_ | refine blk_alloc ?_ _)); refine blk_far ?_ NB614_621.out _; (with_reducible repeat (first | refine blk_drewN ?_ _ | refine blk_drew ?_ | refine blk_alloc ?_ _)); refine blk_far ?_ NB614_621.out _; (with_reducible repeat (first | refine blk_drewN ?_ _ | refine blk_drew ?_ | refine blk_alloc ?_ _)); refine blk_far ?_ NB614_621.out _; (with_reducible repeat (first | refine blk_drewN ?_ _ | refine blk_drew ?_ | refine blk_alloc ?_ _)); exact BK614.out) Try.underlying47 rfl (by kernel_rfl)) rfl ?_
   exact ⟨_, _, _, _, _, by first | rfl | (simp [errW_none, errW_some] <;> rfl) | (simp [*, errW_none, errW_some] <;> rfl), by first | exact Kd.S_nil _ _ _ _ _ | exact Kd.N_nil _ _ _ _ _ | exact Kd.V_nil _ _ _ _ _ | exact Kd.Q_nil _ _ _ _ _ | exact Kd.R_nil _ _ _ _ _, by first | exact Kd.R_nil _ _ _ _ _ | exact Kd.N_nil _ _ _ _ _ | exact Kd.V_nil _ _ _ _ _ | exact Kd.Q_nil _ _ _ _ _ | exact Kd.S_nil _ _ _ _ _, by first | exact Kd.R_nil _ _ _ _ _ | exact Kd.N_nil _ _ _ _ _ | exact Kd.V_nil _ _ _ _ _ | exact Kd.Q_nil _ _ _ _ _ | exact Kd.S_nil _ _ _ _ _, by first | exact Kd.R_nil _ _ _ _ _ | exact Kd.N_nil _ _ _ _ _ | exact Kd.V_nil _ _ _ _ _ | exact Kd.Q_nil _ _ _ _ _ | exact Kd.S_nil _ _ _ _ _, by first | exact Kd.R_nil _ _ _ _ _ | exact Kd.N_nil _ _ _ _ _ | exact Kd.V_nil _ _ _ _ _ | exact Kd.Q_nil _ _ _ _ _ | exact Kd.S_nil _ _ _ _ _, by repeat (first | (with_reducible first | exact HB.out | apply below_alloc | apply pw_below_drewN | apply below_drew1 | refine below_set ?_ GE614.out | refine below_set ?_ GE621.out) | exact HB.out)⟩
end Go.Proofs.Ytgjeahgagciagaa.Print
namespace Go.Proofs.Ytgjeahgagciagaa.Print
open Go.RowKit Go.Proofs.YtgjeahgagciagaaW.PrintWords Go.Proofs.YtgjeahgagciagaaW.PrintLast Go.Proofs.YtgjeahgagciagaaW.PrintMore
attribute [local go_sem] max2_int min2_int max_two min_two max_three min_three max_four min_four
set_option linter.unusedVariables false
set_option linter.unusedSimpArgs false
def wire_Put.l0 : Nat → List Int → Int → Int → Option (List Int)
 | 0, _, _, _ => none
 | k + 1, x0, x1, x7 => if x7 ≥ 0 then (if 0 ≤ (wrap64 (8 * x7)) then (if x0.length < 140737488355328 then (wire_Put.l0 k (x0 ++ [(shr .u64 x1 (wrap64 (8 * x7))) % 256]) x1 (wrap64 (x7 - 1))) else (none)) else (none)) else (some x0)
def wire_Put.f (k : Nat) (l0 : List Int) (a1 : Int) (a2 : Int) : Option (List Int) := wire_Put.l0 k l0 a1 (wrap64 (a2 - 1))
set_option maxHeartbeats 8000000 in
set_option maxRecDepth 100000 in
theorem wire_Put.calls (k : Nat) (P0_ : Nat → Prop) (u9000_ : Value) (l0 : List Int) (a1 : Int) (a2 : Int) (r : List Int) (w0 w : World) (hB : Below w0.heap.size w0 w) (ho0 : Kd.R (Kd.int .u8) 5 w w0.heap.size P0_ u9000_ l0) (h : wire_Put.f k l0 a1 a2 = some r) :
 Calls Try.prog 59 #[u9000_, .int .u64 a1, .int .i64 a2] w fun e w' => ∃ v0_ : Value, e = .returned (v0_) ∧ Kd.R (Kd.int .u8) 5 w' w0.heap.size (fun k_ => (P0_ k_ ∨ w.heap.size ≤ k_)) v0_ r ∧ Below w0.heap.size w0 w' ∧ Kept w w' (fun k_ => P0_ k_) := by
 have HO0 := Aside0.mk (show Kd.R (Kd.int .u8) 5 w w0.heap.size (fun k_ => (P0_ k_ ∨ w.heap.size ≤ k_)) u9000_ l0 from Kd.R_mono ho0 (fun k_ hk => (.inl hk)))
 have HK := Aside0.mk (Kept.refl w (fun k_ => P0_ k_))
 have HW0 := Aside0.mk hB.size
 have HB := Aside0.mk hB
 clear hB
 have H : (wire_Put.l0 k l0 a1 (wrap64 (a2 - 1))) = some r := h
 clear h
 have H' := Aside0.mk H
 clear H
 go_enter Try.func59, Try.ntmps59
 go_wp2
 go_loopg [0, 7] k (fun kq v0 v7 w' => ∃ (x0_1 : List Int) (x7_1 : Int), v7 = .int .i64 x7_1 ∧ Aside0 (wire_Put.l0 kq x0_1 a1 x7_1 = some r) ∧ Aside0 (kq ≤ k) ∧ Aside0 (Kd.R (Kd.int .u8) 5 w' w0.heap.size (fun k_ => (P0_ k_ ∨ w.heap.size ≤ k_)) v0 x0_1) ∧ Aside0 (Kept w w' (fun k_ => P0_ k_)) ∧ Aside0 (Below w0.heap.size w0 w'))
 case atStart => exact ⟨(l0), (wrap64 (a2 - 1)), (by first | rfl | (simp; done) | (simp [*]; done)), H', ⟨Nat.le_refl _⟩, ⟨by (with_reducible repeat (first | apply Kd.R_alloc | apply Kd.R_drewN | apply Kd.R_drew)); exact HO0.out⟩, ⟨by repeat (first | (with_reducible first | exact HK.out | apply Kept.alloc | apply Kept.drewN | apply Kept.drew) | exact HK.out)⟩, ⟨by repeat (first | (with_reducible first | exact HB.out | apply below_alloc | apply pw_below_drewN | apply below_drew1) | exact HB.out)⟩⟩
 case round =>
  clear H'
  try clear p2
  obtain ⟨x0_1, x7_1, rfl, HA, HK1, HO_0, HK, HB⟩ := hrel
  cases gk with
  | zero => exact absurd HA.out (by simp [wire_Put.l0])
  | succ k1 =>
   have H := HA.out
   clear HA
   simp only [wire_Put.l0] at H
   by_cases c4 : x7_1 ≥ 0
   · rw [if_pos c4] at H
     have c4b0 : decide (0 ≤ x7_1) = true := decide_eq_true c4
     clear c4
     obtain ⟨ji5, hji5⟩ : ∃ j_ : Int, (wrap64 (8 * x7_1)) = j_ := ⟨_, rfl⟩
     replace H : (if 0 ≤ (ji5) then (if x0_1.length < 140737488355328 then (wire_Put.l0 k1 (x0_1 ++ [(shr .u64 a1 (ji5)) % 256]) a1 (wrap64 (x7_1 - 1))) else (none)) else (none)) = some r := by first | (rw [hji5] at H; exact H) | (simp only [hji5] at H ⊢; exact H)
     have hji5w : (IntKind.i64.wrap (8 * x7_1)) = ji5 := (i64_w _).trans hji5
     by_cases c6 : 0 ≤ (ji5)
     · rw [if_pos c6] at H
       have c6b0 := eq_true c6
       have c6b1 : decide (0 ≤ (ji5)) = true := decide_eq_true c6
       clear c6
       obtain ⟨ji7, hji7⟩ : ∃ j_ : Int, (shr .u64 a1 (ji5)) = j_ := ⟨_, rfl⟩
       replace H : (if x0_1.length < 140737488355328 then (wire_Put.l0 k1 (x0_1 ++ [(ji7) % 256]) a1 (wrap64 (x7_1 - 1))) else (none)) = some r := by first | (rw [hji7] at H; exact H) | (simp only [hji7] at H ⊢; exact H)
       have hji7_ : (a1 / 2 ^ min (ji5).toNat 64) = ji7 := hji7
       have hji7z : (ji5) ≤ 64 → (a1 / 2 ^ (ji5).toNat) = ji7 := shr_small hji7
       by_cases c8 : x0_1.length < 140737488355328
       · rw [if_pos c8] at H
         have LMc8 := Aside0.mk c8
         clear c8
         obtain ⟨y274, hy274⟩ : ∃ y_ : List Int, y_ = (x0_1 ++ [(ji7) % 256]) := ⟨_, rfl⟩
         replace H : (wire_Put.l0 k1 y274 a1 (wrap64 (x7_1 - 1))) = some r := by first | (rw [hy274]; with_reducible exact H) | (have H2_ := (Option.bind_some _ _).symm.trans H; rw [hy274]; with_reducible exact H2_) | (have H2_ := (Option.bind_some _ _).symm.trans H; with_reducible exact H2_) | with_reducible exact H | (rw [hy274]; exact H) | exact H
         have Ny274 := Aside0.mk hy274
         clear hy274
         have H' := Aside0.mk H
         clear H
         go_wp2_with (first | ((with_reducible refine gate_builtin (b := .append) (xs := #[.tmp 14, .tmp 20]) rfl ?_); at_builtin; refine Kd.R_append (Kd.int .u8) (w0 := w0) w0.heap.size rfl (.tmp 14) (.tmp 20) 23 5 (.int .u8 0) 1 rfl Try.underlying23 info5 rfl (by decide) (by omega) u0 x0_1 ((ji7) % 256) [.int .u8 ((ji7) % 256)] (fun k_ => (P0_ k_ ∨ w.heap.size ≤ k_)) (fun _ => False) rfl rfl ?aP (fun _ hk => hk.elim) ?aF ?aO ?aB ?aS ?aL ?_; (case aP => exact rfl); (case aB => exact (by repeat (first | (with_reducible first | exact HB.out | apply below_alloc | apply pw_below_drewN | apply below_drew1) | exact HB.out))); (case aF => exact (fun k_ hk => (.inr (Nat.le_trans (by first | exact HK.out.1 | exact (show Kept w _ (fun k_ => P0_ k_) from by repeat (first | (with_reducible first | exact HK.out | apply Kept.alloc | apply Kept.drewN | apply Kept.drew) | exact HK.out)).1) hk)))); (case aO => exact (by (with_reducible repeat (first | apply Kd.R_alloc | apply Kd.R_drewN | apply Kd.R_drew)); exact HO_0.out)); (case aS => exact (below_size (by repeat (first | (with_reducible first | exact HB.out | apply below_alloc | apply pw_below_drewN | apply below_drew1) | exact HB.out)))); (case aL => have := LMc8.out; omega); intro v275 w9 ho hb hg hat; rw [← Ny274.out] at ho; have n0_ := Aside0.mk (hb); have n1_ := Aside0.mk (Kept.of_grown (S := (fun k_ => P0_ k_)) hg (by repeat (first | (with_reducible first | exact HK.out | apply Kept.alloc | apply Kept.drewN | apply Kept.drew) | exact HK.out)) (fun k_ e_ => (HO_0.out.1 k_ e_))); have n2_ := Aside0.mk (ho); clear HB; clear HK; clear HO_0; have HB := n0_; have HK := n1_; have HO276 := n2_; clear n0_ n1_ n2_; clear ho hb hg hat))
         go_roundg k1
         case measure => have := HK1.out; omega
         case rel => exact ⟨(y274), (wrap64 (x7_1 - 1)), (by first | rfl | (simp; done) | (simp [*]; done)), (by first | exact H' | (simp only [hji5, hji7]; exact H')), ⟨by have := HK1.out; omega⟩, ⟨by (with_reducible repeat (first | apply Kd.R_alloc | apply Kd.R_drewN | apply Kd.R_drew)); exact HO276.out⟩, ⟨by repeat (first | (with_reducible first | exact HK.out | apply Kept.alloc | apply Kept.drewN | apply Kept.drew) | exact HK.out)⟩, ⟨by repeat (first | (with_reducible first | exact HB.out | apply below_alloc | apply pw_below_drewN | apply below_drew1) | exact HB.out)⟩⟩
       · rw [if_neg c8] at H
         exact absurd H (by simp)
     · rw [if_neg c6] at H
       exact absurd H (by simp)
   · rw [if_neg c4] at H
     have c4b0 : decide (0 ≤ x7_1) = false := decide_eq_false c4
     clear c4
     obtain rfl := Option.some.inj H
     go_wp2
     go_ret
     exact ⟨_, by first | rfl | (simp [errW_none, errW_some] <;> rfl) | (simp [*, errW_none, errW_some] <;> rfl), by (with_reducible repeat (first | apply Kd.R_alloc | apply Kd.R_drewN | apply Kd.R_drew)); exact HO_0.out, by repeat (first | (with_reducible first | exact HB.out | apply below_alloc | apply pw_below_drewN | apply below_drew1) | exact HB.out), by repeat (first | (with_reducible first | exact HK.out | apply Kept.alloc | apply Kept.drewN | apply Kept.drew) | exact HK.out)⟩
end Go.Proofs.Ytgjeahgagciagaa.Print
namespace Go.Proofs.Ytgjeahgagciagaa.Print
open Go.RowKit Go.Proofs.YtgjeahgagciagaaW.PrintWords Go.Proofs.YtgjeahgagciagaaW.PrintLast Go.Proofs.YtgjeahgagciagaaW.PrintMore
attribute [local go_sem] max2_int min2_int max_two min_two max_three min_three max_four min_four
set_option linter.unusedVariables false
set_option linter.unusedSimpArgs false
def ctl_Put.f (k : Nat) (a0 : Int) (a1 : Int) (l2 : List Int) : Option (List Int × Int) := if (wrap64 ((l2.length : Int) + 4)) > 65535 then (some (([] : List Int), 3)) else ((wire_Put.f k (([a0, a1] : List Int)) (IntKind.u64.wrap (wrap64 ((l2.length : Int) + 4))) 2).bind fun t280 => (if t280.length + l2.length < 140737488355328 then (some ((t280 ++ l2), 0)) else (none)))
set_option maxHeartbeats 8000000 in
set_option maxRecDepth 100000 in
theorem ctl_Put.calls (k : Nat) (a0 : Int) (a1 : Int) (A2 : Option Addr) (c2 : Nat) (l2 : List Int) (r1 : List Int) (r2 : Int) (w : World) (hr2 : Kd.C (Kd.int .u8) w A2 l2.length l2) (hc2 : l2.length ≤ c2) (h : ctl_Put.f k a0 a1 l2 = some (r1, r2)) :
 Calls Try.prog 51 #[.int .u8 a0, .int .u8 a1, .slice A2 l2.length c2] w fun e w' => ∃ v0_ : Value, e = .returned (.tuple #[v0_, .int .i64 r2]) ∧ Kd.R (Kd.int .u8) 5 w' w.heap.size (fun _ => True) v0_ r1 ∧ Below w.heap.size w w' := by
 have HR2 := Aside0.mk hr2
 have HC2 := Aside0.mk hc2
 clear hr2 hc2
 have HB := Aside0.mk (Below.refl w.heap.size w)
 have H : (if (wrap64 ((l2.length : Int) + 4)) > 65535 then (some (([] : List Int), 3)) else ((wire_Put.f k (([a0, a1] : List Int)) (IntKind.u64.wrap (wrap64 ((l2.length : Int) + 4))) 2).bind fun t280 => (if t280.length + l2.length < 140737488355328 then (some ((t280 ++ l2), 0)) else (none)))) = some (r1, r2) := h
 clear h
 by_cases c4 : (wrap64 ((l2.length : Int) + 4)) > 65535
 · rw [if_pos c4] at H
   have c4b0 : decide (65535 < (wrap64 ((l2.length : Int) + 4))) = true := decide_eq_true c4
   clear c4
   simp only [Option.some.injEq, Prod.mk.injEq] at H
   obtain ⟨rfl, rfl⟩ := H
   go_enter Try.func51, Try.ntmps51
   go_wp2
   go_ret2
   exact ⟨_, by first | rfl | (simp [errW_none, errW_some] <;> rfl) | (simp [*, errW_none, errW_some] <;> rfl), by first | exact Kd.R_nil _ _ _ _ _ | exact Kd.N_nil _ _ _ _ _ | exact Kd.V_nil _ _ _ _ _ | exact Kd.Q_nil _ _ _ _ _ | exact Kd.S_nil _ _ _ _ _, by repeat (first | (with_reducible first | exact HB.out | apply below_alloc | apply pw_below_drewN | apply below_drew1) | exact HB.out)⟩
 · rw [if_neg c4] at H
   have c4b0 : decide (65535 < (wrap64 ((l2.length : Int) + 4))) = false := decide_eq_false c4
   clear c4
   obtain ⟨y277, hy277⟩ : ∃ y_ : List Int, y_ = (([a0, a1] : List Int)) := ⟨_, rfl⟩
   replace H : ((wire_Put.f k y277 (IntKind.u64.wrap (wrap64 ((l2.length : Int) + 4))) 2).bind fun t280 => (if t280.length + l2.length < 140737488355328 then (some ((t280 ++ l2), 0)) else (none))) = some (r1, r2) := by first | (rw [hy277]; with_reducible exact H) | (have H2_ := (Option.bind_some _ _).symm.trans H; rw [hy277]; with_reducible exact H2_) | (have H2_ := (Option.bind_some _ _).symm.trans H; with_reducible exact H2_) | with_reducible exact H | (rw [hy277]; exact H) | exact H
   have Ny277 := Aside0.mk hy277
   clear hy277
   replace H := Option.bind_eq_some_iff.mp H
   obtain ⟨t280, A50, H⟩ := H
   replace H : (if t280.length + l2.length < 140737488355328 then (some ((t280 ++ l2), 0)) else (none)) = some (r1, r2) := H
   have A5 := Aside0.mk A50
   clear A50
   by_cases c6 : t280.length + l2.length < 140737488355328
   · rw [if_pos c6] at H
     have LMc6 := Aside0.mk c6
     clear c6
     obtain ⟨y283, hy283⟩ : ∃ y_ : List Int, y_ = (t280 ++ l2) := ⟨_, rfl⟩
     replace H : (some (y283, 0)) = some (r1, r2) := by first | (rw [hy283]; with_reducible exact H) | (have H2_ := (Option.bind_some _ _).symm.trans H; rw [hy283]; with_reducible exact H2_) | (have H2_ := (Option.bind_some _ _).symm.trans H; with_reducible exact H2_) | with_reducible exact H | (rw [hy283]; exact H) | exact H
     have Ny283 := Aside0.mk hy283
     clear hy283
     simp only [Option.some.injEq, Prod.mk.injEq] at H
     obtain ⟨rfl, rfl⟩ := H
     go_enter Try.func51, Try.ntmps51
     go_wp2_with (first | ((with_reducible refine gate_dst (N := 16) rfl ?_); refine Kd.R_lit (Kd.int .u8) _ 5 ?hg (N := 16) ?hd (xs := ([a0, a1] : List Int)) (inner := [.int .u8 a0, .int .u8 a1]) (ok := fun _ => True) (okp := fun _ => True) ?hr ?hp (fun _ hk => hk) trivial (Below.refl _ _) (Nat.le_refl _) (by simp) ?_; (case hd => rfl); (case hg => rfl); (case hr => first | (go_simp; done) | (go_simp; simp only [IntKind.wrap_u8, IntKind.wrap_u16, IntKind.wrap_u32, IntKind.wrap_u64]; done) | (go_simp; rfl)); (case hp => exact (Reps.one (show Kd.M (Kd.int .u8) _ _ _ a0 [.int .u8 a0] from rfl) (Reps.one (show Kd.M (Kd.int .u8) _ _ _ a1 [.int .u8 a1] from rfl) (Reps.none _ _)))); intro v278 w7 ho8 hb hg_ hnew_; clear hg_ hnew_; (first | rw [← Ny277.out] at ho8 | (simp only [Int.reduceToNat] at ho8; rw [← Ny277.out] at ho8)); have n0_ := Aside0.mk (Kd.R_lower ho8 (below_size (by repeat (first | (with_reducible first | exact HB.out | apply below_alloc | apply pw_below_drewN | apply below_drew1) | exact HB.out)))); have n1_ := Aside0.mk (below_step (by repeat (first | (with_reducible first | exact HB.out | apply below_alloc | apply pw_below_drewN | apply below_drew1) | exact HB.out)) hb); clear HB; have HO279 := n0_; have HB := n1_; clear n0_ n1_; clear hb ho8; obtain ⟨Ao9, co9, eo9⟩ := Kd.R_slice HO279.out; subst eo9) | ((with_reducible refine gate_callee (f := 59) rfl ?_); refine goesL_ (some 19) rfl rfl Try.func59 (by kernel_rfl) rfl #[.slice Ao9 y277.length co9, .int .u64 (IntKind.u64.wrap (wrap64 ((l2.length : Int) + 4))), .int .i64 2] rfl (by (try simp only [List.map_toArray, List.map_cons, List.map_nil]); first | done | rfl | (simp only [List.length_drop, List.length_take]; rfl)) ?_; (with_reducible refine (wire_Put.calls k (fun k_ => some k_ = (.slice Ao9 y277.length co9 : Value).ownBlock) (.slice Ao9 y277.length co9) y277 (IntKind.u64.wrap (wrap64 ((l2.length : Int) + 4))) 2 t280 w _ ?side1 ?side2 A5.out).mono ?_); (case side1 => repeat (first | (with_reducible first | exact HB.out | apply below_alloc | apply pw_below_drewN | apply below_drew1) | exact HB.out)); (case side2 => exact Kd.R_tight rfl HO279.out); rintro e w10 ⟨v281, rfl, ho0, hb, hkp⟩; refine ⟨_, rfl, ?_⟩; have n0_ := Aside0.mk (Kd.R_mono (ok' := fun k_ => True) ho0 (fun k_ hk_ => trivial)); have n1_ := Aside0.mk (hb); clear HB; clear HO279; have HO282 := n0_; have HB := n1_; clear n0_ n1_; (try clear hb); (try clear hkp); (try clear ho0)) | ((with_reducible refine gate_builtin (b := .append) (xs := #[.tmp 19, .tmp 20]) rfl ?_); at_builtin; refine Kd.R_append_rows (Kd.int .u8) (w0 := w) w.heap.size rfl (.tmp 19) (.tmp 20) 23 5 (.int .u8 0) 1 rfl Try.underlying23 info5 rfl (by decide) (by omega) v281 t280 l2 _ _ _ (fun _ => True) (fun _ => False) rfl rfl ?aO ?aR (fun _ _ h => h) (fun _ h => h.elim) ?aF ?aB ?aS ?aL ?_; (case aR => repeat (first | exact (Kd.C_below HR2.out HB.out) | (with_reducible refine Kd.C_alloc ?_ _) | (with_reducible refine Kd.C_drewN ?_ _) | (with_reducible refine Kd.C_drew ?_))); (case aB => exact (by repeat (first | (with_reducible first | exact HB.out | apply below_alloc | apply pw_below_drewN | apply below_drew1) | exact HB.out))); (case aF => exact (fun _ _ => trivial)); (case aO => exact (by (with_reducible repeat (first | apply Kd.R_alloc | apply Kd.R_drewN | apply Kd.R_drew)); exact HO282.out)); (case aS => exact (below_size (by repeat (first | (with_reducible first | exact HB.out | apply below_alloc | apply pw_below_drewN | apply below_drew1) | exact HB.out)))); (case aL => have := LMc6.out; omega); intro v284 w11 ho hb hg hat; rw [← Ny283.out] at ho; have n0_ := Aside0.mk (hb); have n1_ := Aside0.mk (ho); clear HB; clear HO282; have HB := n0_; have HO285 := n1_; clear n0_ n1_; clear ho hb hg hat))
     go_ret2
     exact ⟨_, by first | rfl | (simp [errW_none, errW_some] <;> rfl) | (simp [*, errW_none, errW_some] <;> rfl), by (with_reducible repeat (first | apply Kd.R_alloc | apply Kd.R_drewN | apply Kd.R_drew)); exact HO285.out, by repeat (first | (with_reducible first | exact HB.out | apply below_alloc | apply pw_below_drewN | apply below_drew1) | exact HB.out)⟩
   · rw [if_neg c6] at H
     exact absurd H (by simp)
end Go.Proofs.Ytgjeahgagciagaa.Print
namespace Go.Proofs.Ytgjeahgagciagaa.Print
open Go.RowKit Go.Proofs.YtgjeahgagciagaaW.PrintWords Go.Proofs.YtgjeahgagciagaaW.PrintLast Go.Proofs.YtgjeahgagciagaaW.PrintMore
attribute [local go_sem] max2_int min2_int max_two min_two max_three min_three max_four min_four
set_option linter.unusedVariables false
set_option linter.unusedSimpArgs false
def slices_Grow_byte_byte.f (l0 : List Int) (a1 : Int) : Option (List Int) := if 0 ≤ a1 then (if a1 < 140737488355328 then some [] else none) else none
set_option maxHeartbeats 8000000 in
set_option maxRecDepth 100000 in
theorem slices_Grow_byte_byte.calls (A0 : Option Addr) (c0 : Nat) (l0 : List Int) (a1 : Int) (r : List Int) (w : World) (hr0 : Kd.C (Kd.int .u8) w A0 l0.length l0) (hc0 : l0.length ≤ c0) (h : slices_Grow_byte_byte.f l0 a1 = some r) (hA : A0 = none := by rfl) (hc : c0 = 0 := by rfl) :
 Calls Try.prog 61 #[.slice A0 l0.length c0, .int .i64 a1] w fun e w' => ∃ v0_ : Value, e = .returned (v0_) ∧ Kd.R (Kd.int .u8) 5 w' w.heap.size (fun _ => True) v0_ r ∧ Below w.heap.size w w' := by
 subst hA
 subst hc
 obtain rfl : l0 = [] := List.eq_nil_of_length_eq_zero (by omega)
 clear hr0 hc0
 unfold slices_Grow_byte_byte.f at h
 by_cases h0 : 0 ≤ a1
 · rw [if_pos h0] at h
   by_cases h1 : a1 < 140737488355328
   · rw [if_pos h1] at h
     obtain rfl := Option.some.inj h
     clear h
     have L1 := Aside0.mk h0
     have L2 := Aside0.mk h1
     have HB := Aside0.mk (Below.refl w.heap.size w)
     have d0 : decide (a1 < 0) = false := decide_eq_false (by omega)
     have e1 : wrap64 a1 = a1 := by unfold wrap64; omega
     clear h0 h1
     by_cases h2 : 0 < a1
     · have d1 : decide (0 < a1) = true := decide_eq_true h2
       clear h2
       go_enter Try.func61, Try.ntmps61
       go_wp2_with (first | ((with_reducible refine gate_builtin (b := .append) (xs := #[.tmp 20, .tmp 21]) rfl ?_); at_builtin; refine Kd.R_append_zeros (Kd.int .u8) (w0 := w) w.heap.size rfl (.tmp 20) (.tmp 21) 23 3 5 (.int .u8 0) 1 rfl Try.underlying23 Try.underlying3 info5 rfl (by decide) (by omega) (.slice none 0 0) [] (0 : Int) (wrap64 a1) (fun _ => True) rfl rfl rfl (fun _ _ => trivial) (Kd.R_nil _ _ _ _ _) (by rw [e1]; exact L1.out) ?aB ?aS ?aL ?_; (case aB => exact (by repeat (first | (with_reducible first | exact HB.out | apply below_alloc | apply pw_below_drewN | apply below_drew1) | exact HB.out))); (case aS => exact (below_size (by repeat (first | (with_reducible first | exact HB.out | apply below_alloc | apply pw_below_drewN | apply below_drew1) | exact HB.out)))); (case aL => have h1_ := L1.out; have h2_ := L2.out; rw [e1]; simp only [List.length_nil]; omega); intro v2 w2 ho hb hg hat; have n0_ := Aside0.mk hb; have n1_ := Aside0.mk ho; clear HB hg hat ho hb; have HB := n0_; have HO := n1_; clear n0_ n1_; obtain ⟨A2, c2, eo2⟩ := Kd.R_slice HO.out; subst eo2))
       go_ret
       exact ⟨_, rfl, by have h3 := Kd.R_take HO.out (m := 0) (Nat.zero_le _); exact h3, HB.out⟩
     · have d1 : decide (0 < a1) = false := decide_eq_false h2
       clear h2
       go_enter Try.func61, Try.ntmps61
       go_wp2
       go_ret
       exact ⟨_, rfl, Kd.R_nil _ _ _ _ _, HB.out⟩
   · rw [if_neg h1] at h
     cases h
 · rw [if_neg h0] at h
   cases h
end Go.Proofs.Ytgjeahgagciagaa.Print
