/- Texts of this claim, several in one, told shortly by a program of this claim (wip/x/shrink.py): what Go functions come to, and plain words on it. -/
import Derived.Test.YtgjeahgagciagaaProg
import Derived.WalkSpells
import Derived.Lib.SlBytesConst
import Derived.Below
import Derived.Deep.Draws
import Derived.Deep.AppendLies
import Derived.Maps.AppendAt
import Derived.OwnWalk
import Derived.Laws.BytesArg
import Derived.Laws.MakeOwn
import Derived.Laws.OwnMore
import Derived.Deep.OwnRows
import Derived.Tactics
import Derived.Lib.ConvBytes
import Derived.Laws.Slices
import Derived.WalkKit
import Derived.KernelRfl
import Derived.RowKit3
import Derived.Deep.LoopGhost
import Derived.Deep.QuietTactic
import Derived.BigQuiet
import Derived.WideLaws
import Derived.Deep.DeepCutAuto
import Derived.Deep.CutBlock
import Derived.Deep.RegionHeld3
import Derived.Laws.Rows
import Derived.Lib.AppendStr
import Derived.ArgAppend
import Derived.Laws.IdiomCopy
import Derived.OrdersHeld
import Derived.Laws.BitsLemmas
import Derived.RowKit
import Derived.Test.YtgjeahgagciagaaShChapBack1
namespace Go.Proofs.Ytgjeahgagciagaa.Print
open Go.RowKit Go.Proofs.YtgjeahgagciagaaW.PrintWords Go.Proofs.YtgjeahgagciagaaW.PrintLast Go.Proofs.YtgjeahgagciagaaW.PrintMore
attribute [local go_sem] max2_int min2_int max_two min_two max_three min_three max_four min_four
set_option linter.unusedVariables false
set_option linter.unusedSimpArgs false
def errW : Option Int → Value
 | none => .nilIface
 | some c => .iface 0 (.int .i64 c)
theorem errW_none : errW none = .nilIface := rfl
theorem errW_some (c : Int) : errW (some c) = .iface 0 (.int .i64 c) := rfl
namespace XRow
variable {H : Type} {enc : TypeId × Value → H} {P : Program} {w : World} {α : Type}
def Opens (enc : TypeId × Value → H) (P : Program) (w : World) (t : TypeId) (d : Kd α) (wf : α → Prop) : Prop :=
 ∀ fuel cs x, DataW.trod enc P w 0 (fun _ => true) true fuel t cs = some x → (∀ n ∈ x.1.weights P t, n ≤ reachBytes) → ∃ a, d.K w a cs ∧ wf a
theorem opens_int {t : TypeId} {k : IntKind} (ht : P.underlying t = some (.int k)) : Opens enc P w t (Kd.int k) (fun n => (Lit.int k n).wf = true) := by
 intro fuel cs x hx _
 obtain ⟨n, rfl, _, hw⟩ := DataW.trod_int ht hx
 exact ⟨n, rfl, hw⟩
theorem cells_at {a : Addr} {n : Nat} {cs : List Value} (h : w.cells? 0 a n = some cs) : cs.length = n ∧ ∀ i u, cs[i]? = some u → w.cell? (a.add i) = some u := by
 obtain ⟨_, hlen, hc⟩ := World.cells?_some h
 refine ⟨hlen, fun i u hu => ?_⟩
 have hi : i < n := by rw [← hlen]; exact (List.getElem?_eq_some_iff.1 hu).1
 rw [← hu]
 exact hc i hi
theorem weights_all {e : TypeId} : ∀ {ds : List (DataW H)} {d : DataW H}, d ∈ ds → ∀ n ∈ d.weights P e, n ∈ DataW.weightsAll P e ds
 | [], _, h, _, _ => by simp at h
 | _ :: ds, d, h, n, hn => by
  simp only [DataW.weightsAll, List.mem_append]
  rcases List.mem_cons.1 h with rfl | h
  · exact Or.inl hn
  · exact Or.inr (weights_all h n hn)
theorem opens_slice {t e : TypeId} {d : Kd α} {wf : α → Prop} (ht : P.underlying t = some (.slice e)) (hC : P.cellsOf e = d.sz) {B : Nat} (hB : P.bytesOf e = B) (hE : Opens enc P w e d wf) :
 Opens enc P w t (Kd.slice e d) (fun l => (l.length ≤ 9223372036854775807 ∧ l.length * B ≤ 140737488351232) ∧ ∀ y ∈ l, wf y) := by
 intro fuel cs x hx hz
 rcases DataW.trod_slice ht hx with ⟨rfl, _⟩ | ⟨a, len, cap, elems, rest, n, _, rfl, he, _, hl, hm, hlen, hel, _, _⟩
 · exact ⟨[], ⟨none, 0, rfl, Nat.le_refl _, Kd.C_nil d w⟩, by simp, by simp⟩
 have hm' : cap ≤ 9223372036854775807 := by simpa [maxLen] using hm
 subst he
 simp only [DataW.weights, ht, List.mem_cons, List.mem_append] at hz
 have hB' : len * B ≤ 140737488351232 := by
  have h1 := hz _ (Or.inl rfl)
  rw [hB, List.length_map, hlen] at h1
  exact Nat.le_trans (Nat.mul_le_mul_right _ (Nat.le_add_right _ _)) h1
 have key : ∀ i, i < len → ∃ y, ∃ c, w.cells? 0 (a.add (i * d.sz)) d.sz = some c ∧ d.K w y c ∧ wf y := by
  intro i hi
  have h := hel i hi
  rw [hC, List.getElem?_eq_getElem (by omega)] at h
  obtain ⟨c, hc, ht⟩ := Option.bind_eq_some_iff.1 h
  obtain ⟨y, hk, hw⟩ := hE n c _ ht (fun m hm => hz m (Or.inr (Or.inl (weights_all (List.mem_map.2 ⟨_, List.getElem_mem _, rfl⟩) m hm))))
  exact ⟨y, c, hc, hk, hw⟩
 have hf : ∃ f : (i : Nat) → i < len → α, ∀ i (hi : i < len), ∃ c, w.cells? 0 (a.add (i * d.sz)) d.sz = some c ∧ d.K w (f i hi) c ∧ wf (f i hi) :=
  ⟨fun i hi => Classical.choose (key i hi), fun i hi => Classical.choose_spec (key i hi)⟩
 obtain ⟨f, hf⟩ := hf
 have hll : (List.ofFn (fun i : Fin len => f i.1 i.2)).length = len := by simp
 refine ⟨List.ofFn (fun i : Fin len => f i.1 i.2), ⟨some a, cap, by rw [hll], by rw [hll]; exact hl, rfl, by rw [hll]; omega, fun _ => ⟨a, rfl, fun j p hj => ?_⟩⟩, ⟨by rw [hll]; omega, by rw [hll]; exact hB'⟩, fun y hy => ?_⟩
 · obtain ⟨hj1, hj2⟩ := List.getElem?_eq_some_iff.1 hj
   rw [hll] at hj1
   have e : f j hj1 = p := by rw [← hj2]; simp
   obtain ⟨c, hc, hk, _⟩ := hf j hj1
   obtain ⟨hcl, hcc⟩ := cells_at hc
   refine ⟨c, hcl, e ▸ hk, fun i u hu => ?_⟩
   have h := hcc i u hu
   rwa [add_add] at h
 · obtain ⟨⟨i, hi⟩, rfl⟩ := List.mem_ofFn.1 hy
   obtain ⟨_, _, _, hw⟩ := hf i hi
   exact hw
theorem field_weights {t : TypeId} {fs : Array Field} {xs : List (DataW H × List MemPlace)} (ht : P.underlying t = some (.struct fs)) (hz : ∀ n ∈ (DataW.agg (xs.map (·.1))).weights P t, n ≤ reachBytes) {j : Nat} {f : Field} {x : DataW H × List MemPlace} (hf : fs[j]? = some f) (hx : xs[j]? = some x) : ∀ n ∈ x.1.weights P f.type, n ≤ reachBytes := by
 intro n hn
 refine hz n ?_
 simp only [DataW.weights, ht]
 exact DataW.weights_mem_each (j := j) (by simp [hf]) (by simp [hx]) n hn
theorem arg_weights {ts : List TypeId} {ds : List (DataW H)} (hsz : (DataW.weightsEach P ts ds).all (· ≤ reachBytes) = true) {j : Nat} {t : TypeId} {d : DataW H} (ht : ts[j]? = some t) (hd : ds[j]? = some d) : ∀ n ∈ d.weights P t, n ≤ reachBytes :=
 fun n hn => by simpa using List.all_eq_true.1 hsz n (DataW.weights_mem_each ht hd n hn)
theorem seg (cs : List Value) (o s : Nat) : cs.drop o = (cs.drop o).take s ++ cs.drop (o + s) := by rw [← List.drop_drop, List.take_append_drop]
theorem seg_last {cs : List Value} {o s : Nat} (h : cs.length = o + s) : cs.drop o = (cs.drop o).take s := by rw [List.take_of_length_le]; rw [List.length_drop]; omega
end XRow
theorem info5 : (Try.prog.info? 5).map (fun i => (i.zero, i.size, i.bytes)) = some (some (.int .u8 0), 1, 1) := by kernel_rfl
theorem info56 : (Try.prog.info? 56).map (fun i => (i.zero, i.size, i.bytes)) = some (some (.agg #[(.int .u8 0), (.slice none 0 0)]), 2, 32) := by kernel_rfl
theorem info57 : (Try.prog.info? 57).map (fun i => (i.zero, i.size, i.bytes)) = some (some (.agg #[(.int .u8 0), (.slice none 0 0)]), 2, 32) := by kernel_rfl
def rd_L1 (xs : List (List Int)) (i : Int) : (List Int) := xs.getD i.toNat ([] : List Int)
theorem at_L1 {w : World} {A : Option Addr} {n : Nat} {xs : List (List Int)} (h : Kd.C (Kd.slice 5 (Kd.int .u8)) w A n xs) (i : Int) (h0 : 0 ≤ i) (h1 : i < n) : ∃ ad A0 c0, A = some ad ∧ w.cell? (ad.add i.toNat) = some (.slice A0 (rd_L1 xs i).length c0) ∧ (rd_L1 xs i).length ≤ c0 ∧ (Kd.int .u8).C w A0 (rd_L1 xs i).length (rd_L1 xs i) := by
 obtain ⟨ad, c, e, _, hK, hc0⟩ := Kd.C_get h ([] : List Int) i h0 h1
 have hc : ∀ j u, c[j]? = some u → w.cell? (ad.add (i.toNat * 1 + j)) = some u := hc0
 obtain ⟨A0, c0, rfl, l0, g0⟩ := hK
 exact ⟨ad, A0, c0, e, by have hq := hc 0 _ rfl; rwa [Nat.mul_one, Nat.add_zero] at hq, l0, g0⟩
structure S57 where
 f0 : Int
 f1 : (List Int)
def z57 : S57 := ⟨(0 : Int), ([] : List Int)⟩
def k57 : Kd S57 := Kd.iso (Kd.pair (Kd.int .u8) (Kd.slice 5 (Kd.int .u8))) (fun x : S57 => (x.f0, x.f1))
theorem k57_open {w : World} {x : S57} {cs : List Value} (h : k57.K w x cs) : ∃ A1 c1, cs = [.int .u8 x.f0, .slice A1 x.f1.length c1] ∧ x.f1.length ≤ c1 ∧ (Kd.int .u8).C w A1 x.f1.length x.f1 := by
 obtain ⟨_, _, rfl, rfl, ⟨A1, c1, rfl, l1, g1⟩⟩ := h
 exact ⟨A1, c1, rfl, l1, g1⟩
theorem k57_mk (w : World) (x : S57) {A1 : Option Addr} {c1 : Nat} (l1 : x.f1.length ≤ c1) (g1 : (Kd.int .u8).C w A1 x.f1.length x.f1) : k57.K w x [.int .u8 x.f0, .slice A1 x.f1.length c1] := ⟨[.int .u8 x.f0], [.slice A1 x.f1.length c1], rfl, rfl, ⟨A1, c1, rfl, l1, g1⟩⟩
theorem k57_openF {W : World} {ok : Nat → Prop} {x : S57} {cs : List Value} (h : Kd.FK k57 W ok x cs) : ∃ A1 c1, cs = [.int .u8 x.f0, .slice A1 x.f1.length c1] ∧ x.f1.length ≤ c1 ∧ Kd.F (Kd.int .u8) W ok A1 x.f1.length x.f1 := by
 obtain ⟨A1, c1, rfl, l1, _⟩ := k57_open (Kd.FK_now h)
 exact ⟨A1, c1, rfl, l1, (fun W' hW => by obtain ⟨A1_, c1_, he, l1_, g1_⟩ := k57_open (h W' hW); injection (Option.some.inj (show some (Value.slice A1 x.f1.length c1) = some (Value.slice A1_ x.f1.length c1_) from congrArg (fun l => l[1]?) he)) with ha_ _ _; rw [ha_]; exact g1_)⟩
theorem k57_mkF (W : World) (ok : Nat → Prop) (x : S57) {A1 : Option Addr} {c1 : Nat} (l1 : x.f1.length ≤ c1) (g1 : Kd.F (Kd.int .u8) W ok A1 x.f1.length x.f1) : Kd.FK k57 W ok x [.int .u8 x.f0, .slice A1 x.f1.length c1] := fun W2 hW => k57_mk W2 x l1 (g1 W2 hW)
def rd_T57 (xs : List S57) (i : Int) : S57 := xs.getD i.toNat z57
theorem at_T57 {w : World} {A : Option Addr} {n : Nat} {xs : List S57} (h : Kd.C k57 w A n xs) (i : Int) (h0 : 0 ≤ i) (h1 : i < n) : ∃ ad A1 c1, A = some ad ∧ w.cell? (ad.add (i.toNat * 2)) = some (.int .u8 (rd_T57 xs i).f0) ∧ w.cell? ⟨(ad.add (i.toNat * 2)).block, (ad.add (i.toNat * 2)).off + 1, none⟩ = some (.slice A1 (rd_T57 xs i).f1.length c1) ∧ (rd_T57 xs i).f1.length ≤ c1 ∧ (Kd.int .u8).C w A1 (rd_T57 xs i).f1.length (rd_T57 xs i).f1 := by
 obtain ⟨ad, c, e, _, hK, hc0⟩ := Kd.C_get h z57 i h0 h1
 have hc : ∀ j u, c[j]? = some u → w.cell? (ad.add (i.toNat * 2 + j)) = some u := hc0
 obtain ⟨A1, c1, rfl, l1, g1⟩ := k57_open hK
 exact ⟨ad, A1, c1, e, hc 0 _ rfl, by rw [← add_field _ _ 1 (by omega)]; exact hc 1 _ rfl, l1, g1⟩
structure S56 where
 f0 : Int
 f1 : (List Int)
def z56 : S56 := ⟨(0 : Int), ([] : List Int)⟩
def k56 : Kd S56 := Kd.iso (Kd.pair (Kd.int .u8) (Kd.slice 5 (Kd.int .u8))) (fun x : S56 => (x.f0, x.f1))
theorem k56_heap : Kd.Heap k56 := Kd.heap_iso _ (Kd.heap_pair (Kd.heap_int .u8) (Kd.heap_slice 5 (Kd.heap_int .u8)))
theorem k56_open {w : World} {x : S56} {cs : List Value} (h : k56.K w x cs) : ∃ A1 c1, cs = [.int .u8 x.f0, .slice A1 x.f1.length c1] ∧ x.f1.length ≤ c1 ∧ (Kd.int .u8).C w A1 x.f1.length x.f1 := by
 obtain ⟨_, _, rfl, rfl, ⟨A1, c1, rfl, l1, g1⟩⟩ := h
 exact ⟨A1, c1, rfl, l1, g1⟩
theorem k56_mk (w : World) (x : S56) {A1 : Option Addr} {c1 : Nat} (l1 : x.f1.length ≤ c1) (g1 : (Kd.int .u8).C w A1 x.f1.length x.f1) : k56.K w x [.int .u8 x.f0, .slice A1 x.f1.length c1] := ⟨[.int .u8 x.f0], [.slice A1 x.f1.length c1], rfl, rfl, ⟨A1, c1, rfl, l1, g1⟩⟩
theorem k56_openF {W : World} {ok : Nat → Prop} {x : S56} {cs : List Value} (h : Kd.FK k56 W ok x cs) : ∃ A1 c1, cs = [.int .u8 x.f0, .slice A1 x.f1.length c1] ∧ x.f1.length ≤ c1 ∧ Kd.F (Kd.int .u8) W ok A1 x.f1.length x.f1 := by
 obtain ⟨A1, c1, rfl, l1, _⟩ := k56_open (Kd.FK_now h)
 exact ⟨A1, c1, rfl, l1, (fun W' hW => by obtain ⟨A1_, c1_, he, l1_, g1_⟩ := k56_open (h W' hW); injection (Option.some.inj (show some (Value.slice A1 x.f1.length c1) = some (Value.slice A1_ x.f1.length c1_) from congrArg (fun l => l[1]?) he)) with ha_ _ _; rw [ha_]; exact g1_)⟩
theorem k56_mkF (W : World) (ok : Nat → Prop) (x : S56) {A1 : Option Addr} {c1 : Nat} (l1 : x.f1.length ≤ c1) (g1 : Kd.F (Kd.int .u8) W ok A1 x.f1.length x.f1) : Kd.FK k56 W ok x [.int .u8 x.f0, .slice A1 x.f1.length c1] := fun W2 hW => k56_mk W2 x l1 (g1 W2 hW)
def rd_T56 (xs : List S56) (i : Int) : S56 := xs.getD i.toNat z56
theorem at_T56 {w : World} {A : Option Addr} {n : Nat} {xs : List S56} (h : Kd.C k56 w A n xs) (i : Int) (h0 : 0 ≤ i) (h1 : i < n) : ∃ ad A1 c1, A = some ad ∧ w.cell? (ad.add (i.toNat * 2)) = some (.int .u8 (rd_T56 xs i).f0) ∧ w.cell? ⟨(ad.add (i.toNat * 2)).block, (ad.add (i.toNat * 2)).off + 1, none⟩ = some (.slice A1 (rd_T56 xs i).f1.length c1) ∧ (rd_T56 xs i).f1.length ≤ c1 ∧ (Kd.int .u8).C w A1 (rd_T56 xs i).f1.length (rd_T56 xs i).f1 := by
 obtain ⟨ad, c, e, _, hK, hc0⟩ := Kd.C_get h z56 i h0 h1
 have hc : ∀ j u, c[j]? = some u → w.cell? (ad.add (i.toNat * 2 + j)) = some u := hc0
 obtain ⟨A1, c1, rfl, l1, g1⟩ := k56_open hK
 exact ⟨ad, A1, c1, e, hc 0 _ rfl, by rw [← add_field _ _ 1 (by omega)]; exact hc 1 _ rfl, l1, g1⟩
structure S44 where
 f0 : Int
 f1 : Int
 f2 : Int
 f3 : (List S56)
 f4 : Int
 f5 : Int
 f6 : (List Int)
 f7 : (List Int)
 f8 : (List Int)
 f9 : (List Int)
def k44 : Kd S44 := Kd.iso (Kd.pair (Kd.int .u16) (Kd.pair (Kd.int .u8) (Kd.pair (Kd.int .u8) (Kd.pair (Kd.slice 56 k56) (Kd.pair (Kd.int .u16) (Kd.pair (Kd.int .u32) (Kd.pair (Kd.slice 5 (Kd.int .u8)) (Kd.pair (Kd.slice 5 (Kd.int .u8)) (Kd.pair (Kd.slice 5 (Kd.int .u8)) (Kd.slice 41 (Kd.int .u32))))))))))) (fun x : S44 => (x.f0, x.f1, x.f2, x.f3, x.f4, x.f5, x.f6, x.f7, x.f8, x.f9))
theorem k44_open {w : World} {x : S44} {cs : List Value} (h : k44.K w x cs) : ∃ A3 c3 A6 c6 A7 c7 A8 c8 A9 c9, cs = [.int .u16 x.f0, .int .u8 x.f1, .int .u8 x.f2, .slice A3 x.f3.length c3, .int .u16 x.f4, .int .u32 x.f5, .slice A6 x.f6.length c6, .slice A7 x.f7.length c7, .slice A8 x.f8.length c8, .slice A9 x.f9.length c9] ∧ x.f3.length ≤ c3 ∧ k56.C w A3 x.f3.length x.f3 ∧ x.f6.length ≤ c6 ∧ (Kd.int .u8).C w A6 x.f6.length x.f6 ∧ x.f7.length ≤ c7 ∧ (Kd.int .u8).C w A7 x.f7.length x.f7 ∧ x.f8.length ≤ c8 ∧ (Kd.int .u8).C w A8 x.f8.length x.f8 ∧ x.f9.length ≤ c9 ∧ (Kd.int .u32).C w A9 x.f9.length x.f9 := by
 obtain ⟨_, _, rfl, rfl, ⟨_, _, rfl, rfl, ⟨_, _, rfl, rfl, ⟨_, _, rfl, ⟨A3, c3, rfl, l3, g3⟩, ⟨_, _, rfl, rfl, ⟨_, _, rfl, rfl, ⟨_, _, rfl, ⟨A6, c6, rfl, l6, g6⟩, ⟨_, _, rfl, ⟨A7, c7, rfl, l7, g7⟩, ⟨_, _, rfl, ⟨A8, c8, rfl, l8, g8⟩, ⟨A9, c9, rfl, l9, g9⟩⟩⟩⟩⟩⟩⟩⟩⟩⟩ := h
 exact ⟨A3, c3, A6, c6, A7, c7, A8, c8, A9, c9, rfl, l3, g3, l6, g6, l7, g7, l8, g8, l9, g9⟩
end Go.Proofs.Ytgjeahgagciagaa.Print
namespace Go.Proofs.Ytgjeahgagciagaa.Print
open Go.RowKit Go.Proofs.YtgjeahgagciagaaW.PrintWords Go.Proofs.YtgjeahgagciagaaW.PrintLast Go.Proofs.YtgjeahgagciagaaW.PrintMore
attribute [local go_sem] max2_int min2_int max_two min_two max_three min_three max_four min_four
set_option linter.unusedVariables false
set_option linter.unusedSimpArgs false
def chap_valued.f (a0 : Int) : Option (Bool) := if a0 = 1 then (some true) else (some (a0 == 2))
set_option maxHeartbeats 8000000 in
set_option maxRecDepth 100000 in
theorem chap_valued.calls (a0 : Int) (r : Bool) (w : World) (h : chap_valued.f a0 = some r) :
 Calls Try.prog 57 #[.int .u8 a0] w fun e w' => e = .returned (.bool r) ∧ Drawn0 w w' := by
 have H : (if a0 = 1 then (some true) else (some (a0 == 2))) = some r := h
 clear h
 by_cases c2 : a0 = 1
 · rw [if_pos c2] at H
   have c2b0 : (a0 == 1) = true := beq_iff_eq.mpr c2
   have c2b1 : (a0 != 1) = false := bne_eq_false_iff_eq.mpr c2
   clear c2
   obtain rfl := Option.some.inj H
   go_enter Try.func57, Try.ntmps57
   go_wp2
   go_ret
   exact ⟨by first | rfl | (simp; done) | (simp [*]; done), by repeat (first | exact Drawn0.refl _ | apply Drawn0.step)⟩
 · rw [if_neg c2] at H
   have c2b0 : (a0 == 1) = false := beq_eq_false_iff_ne.mpr c2
   have c2b1 : (a0 != 1) = true := bne_iff_ne.mpr c2
   obtain rfl := Option.some.inj H
   go_enter Try.func57, Try.ntmps57
   go_wp2
   go_ret
   exact ⟨by first | rfl | (simp; done) | (simp [*]; done), by repeat (first | exact Drawn0.refl _ | apply Drawn0.step)⟩
end Go.Proofs.Ytgjeahgagciagaa.Print
namespace Go.Proofs.Ytgjeahgagciagaa.Print
open Go.RowKit Go.Proofs.YtgjeahgagciagaaW.PrintWords Go.Proofs.YtgjeahgagciagaaW.PrintLast Go.Proofs.YtgjeahgagciagaaW.PrintMore
attribute [local go_sem] max2_int min2_int max_two min_two max_three min_three max_four min_four
set_option linter.unusedVariables false
set_option linter.unusedSimpArgs false
def wire_Get.l0 : Nat → Int → List Int → Int → Int → Option (Int)
 | 0, _, _, _, _ => none
 | k + 1, x5, x10, x11, x12 => if x12 < x11 then (if 0 ≤ x12 then (if x12 < (x10.length : Int) then (wire_Get.l0 k (Go.bits .or .u64 (IntKind.u64.wrap (x5 * 256)) (IntKind.u64.wrap (rd x10 x12))) x10 x11 (wrap64 (x12 + 1))) else (none)) else (none)) else (some x5)
def wire_Get.f (k : Nat) (l0 : List Int) (a1 : Int) : Option (Int) := if 0 ≤ a1 then (if a1 ≤ (l0.length : Int) then ((some (l0.take (a1 : Int).toNat : List Int)).bind fun y521 => (wire_Get.l0 k 0 y521 (y521.length : Int) 0)) else (none)) else (none)
set_option maxHeartbeats 8000000 in
set_option maxRecDepth 100000 in
theorem wire_Get.calls (k : Nat) (A0 : Option Addr) (c0 : Nat) (l0 : List Int) (a1 : Int) (r : Int) (w : World) (hr0 : Kd.C (Kd.int .u8) w A0 l0.length l0) (hc0 : l0.length ≤ c0) (h : wire_Get.f k l0 a1 = some r) :
 Calls Try.prog 62 #[.slice A0 l0.length c0, .int .i64 a1] w fun e w' => e = .returned (.int .u64 r) ∧ Drawn0 w w' := by
 have HR0 := Aside0.mk hr0
 have HC0 := Aside0.mk hc0
 clear hr0 hc0
 have H : (if 0 ≤ a1 then (if a1 ≤ (l0.length : Int) then ((some (l0.take (a1 : Int).toNat : List Int)).bind fun y521 => (wire_Get.l0 k 0 y521 (y521.length : Int) 0)) else (none)) else (none)) = some r := h
 clear h
 by_cases c3 : 0 ≤ a1
 · rw [if_pos c3] at H
   have c3b0 := eq_true c3
   have c3b1 : decide (0 ≤ a1) = true := decide_eq_true c3
   clear c3
   by_cases c4 : a1 ≤ (l0.length : Int)
   · rw [if_pos c4] at H
     have c4b0 := eq_true c4
     have c4b1 : decide (a1 ≤ (l0.length : Int)) = true := decide_eq_true c4
     clear c4
     obtain ⟨y521, hy521⟩ : ∃ y_ : List Int, y_ = (l0.take (a1 : Int).toNat) := ⟨_, rfl⟩
     replace H : (wire_Get.l0 k 0 y521 (y521.length : Int) 0) = some r := by first | (rw [hy521]; with_reducible exact H) | (have H2_ := (Option.bind_some _ _).symm.trans H; rw [hy521]; with_reducible exact H2_) | (have H2_ := (Option.bind_some _ _).symm.trans H; with_reducible exact H2_) | with_reducible exact H | (rw [hy521]; exact H) | exact H
     have Ny521 := Aside0.mk hy521
     clear hy521
     have H' := Aside0.mk H
     clear H
     have q5 : (a1 : Int) ≤ ((l0.length : Int) : Int) := of_decide_eq_true (by first | (with_reducible assumption) | assumption)
     obtain ⟨i05, hi05, _, hsz5, _⟩ := info_parts info5
     have hroom5 : l0.length ≤ c0 := HC0.out
     have hC5 : Kd.C (Kd.int .u8) _ A0 l0.length l0 := HR0.out
     have hcut5 := cut_to (P := Try.prog) 23 5 .i64 Try.underlying23 hi05 A0 l0.length c0 a1 (of_decide_eq_true (by first | (with_reducible assumption) | assumption)) q5 hroom5
     have hr5 := Kd.C_take (m := (a1 : Int).toNat) hC5 (by omega)
     have hy5 : y521.length = (a1 : Int).toNat := (by rw [Ny521.out, List.length_take]; omega)
     rw [← Ny521.out] at hr5
     rw [← hy5] at hcut5
     have HR524 := Aside0.mk hr5
     have HC524 := Aside0.mk (show y521.length ≤ c0 from by omega)
     clear hr5 hC5 hroom5 hi05 hsz5
     have KY5 := Aside0.mk hy5
     clear hy5
     replace q5 := eq_true q5
     go_enter Try.func62, Try.ntmps62
     go_wp2
     go_loopg [5, 12] k (fun kq v5 v12 w' => ∃ (x5_1 : Int) (x12_1 : Int), v5 = .int .u64 x5_1 ∧ v12 = .int .i64 x12_1 ∧ Aside0 (wire_Get.l0 kq x5_1 y521 (y521.length : Int) x12_1 = some r) ∧ Aside0 (kq ≤ k) ∧ Drawn0 w w')
     case atStart => exact ⟨(0), (0), (by first | rfl | (simp; done) | (simp [*]; done)), (by first | rfl | (simp; done) | (simp [*]; done)), H', ⟨Nat.le_refl _⟩, by repeat (first | exact Drawn0.refl _ | apply Drawn0.step)⟩
     case round =>
      clear H'
      try clear p2
      try clear c3
      try clear c3b0
      try clear c3b1
      try clear c4
      try clear c4b0
      try clear c4b1
      try clear q5
      try clear q5
      obtain ⟨x5_1, x12_1, rfl, rfl, HA, HK1, ⟨m1, rfl⟩⟩ := hrel
      cases gk with
      | zero => exact absurd HA.out (by simp [wire_Get.l0])
      | succ k1 =>
       have H := HA.out
       clear HA
       simp only [wire_Get.l0] at H
       by_cases c6 : x12_1 < (y521.length : Int)
       · rw [if_pos c6] at H
         have c6b0 : decide (x12_1 < (y521.length : Int)) = true := decide_eq_true c6
         clear c6
         by_cases c7 : 0 ≤ x12_1
         · rw [if_pos c7] at H
           have c7b0 : decide (0 ≤ x12_1) = true := decide_eq_true c7
           clear c7
           by_cases c8 : x12_1 < (y521.length : Int)
           · rw [if_pos c8] at H
             have c8b0 : decide (x12_1 < (y521.length : Int)) = true := decide_eq_true c8
             clear c8
             have H' := Aside0.mk H
             clear H
             have p525 : 0 ≤ (x12_1 : Int) := of_decide_eq_true (by first | (with_reducible assumption) | assumption)
             have q525 : x12_1 < (y521.length : Int) := of_decide_eq_true (by first | (with_reducible assumption) | assumption)
             obtain ⟨ad525, e525, hx525_0⟩ := Kd.at_int HR524.out x12_1 p525 q525
             cases e525
             replace p525 := eq_true p525
             replace q525 := eq_true q525
             go_wp2
             go_roundg k1
             case measure => have := HK1.out; omega
             case rel => exact ⟨(Go.bits .or .u64 (IntKind.u64.wrap (x5_1 * 256)) (IntKind.u64.wrap (rd y521 x12_1))), (wrap64 (x12_1 + 1)), (by first | rfl | (simp; done) | (simp [*]; done)), (by first | rfl | (simp; done) | (simp [*]; done)), H', ⟨by have := HK1.out; omega⟩, by repeat (first | exact Drawn0.refl _ | apply Drawn0.step)⟩
           · rw [if_neg c8] at H
             exact absurd H (by simp)
         · rw [if_neg c7] at H
           exact absurd H (by simp)
       · rw [if_neg c6] at H
         have c6b0 : decide (x12_1 < (y521.length : Int)) = false := decide_eq_false c6
         clear c6
         obtain rfl := Option.some.inj H
         go_wp2
         go_ret
         exact ⟨by first | rfl | (simp; done) | (simp [*]; done), by repeat (first | exact Drawn0.refl _ | apply Drawn0.step)⟩
   · rw [if_neg c4] at H
     exact absurd H (by simp)
 · rw [if_neg c3] at H
   exact absurd H (by simp)
end Go.Proofs.Ytgjeahgagciagaa.Print
namespace Go.Proofs.Ytgjeahgagciagaa.Print
open Go.RowKit Go.Proofs.YtgjeahgagciagaaW.PrintWords Go.Proofs.YtgjeahgagciagaaW.PrintLast Go.Proofs.YtgjeahgagciagaaW.PrintMore
attribute [local go_sem] max2_int min2_int max_two min_two max_three min_three max_four min_four
set_option linter.unusedVariables false
set_option linter.unusedSimpArgs false
def ctl_size.f (k : Nat) (l0 : List Int) : Option (Int × Int) := if (l0.length : Int) < 4 then (some (0, 2)) else (if 2 ≤ (l0.length : Int) then ((wire_Get.f k (l0.drop 2) 2).bind fun t530 => (if (wrap64 (t530)) < 4 then (some (0, 4)) else (if (wrap64 (t530)) > (l0.length : Int) then (some (0, 2)) else (some (wrap64 (t530), 0))))) else (none))
set_option maxHeartbeats 8000000 in
set_option maxRecDepth 100000 in
theorem ctl_size.calls (k : Nat) (A0 : Option Addr) (c0 : Nat) (l0 : List Int) (r1 : Int) (r2 : Int) (w : World) (hr0 : Kd.C (Kd.int .u8) w A0 l0.length l0) (hc0 : l0.length ≤ c0) (h : ctl_size.f k l0 = some (r1, r2)) :
 Calls Try.prog 60 #[.slice A0 l0.length c0] w fun e w' => e = .returned (.tuple #[.int .i64 r1, .int .i64 r2]) ∧ Drawn0 w w' := by
 have HR0 := Aside0.mk hr0
 have HC0 := Aside0.mk hc0
 clear hr0 hc0
 have H : (if (l0.length : Int) < 4 then (some (0, 2)) else (if 2 ≤ (l0.length : Int) then ((wire_Get.f k (l0.drop 2) 2).bind fun t530 => (if (wrap64 (t530)) < 4 then (some (0, 4)) else (if (wrap64 (t530)) > (l0.length : Int) then (some (0, 2)) else (some (wrap64 (t530), 0))))) else (none))) = some (r1, r2) := h
 clear h
 by_cases c2 : (l0.length : Int) < 4
 · rw [if_pos c2] at H
   have c2b0 : decide ((l0.length : Int) < 4) = true := decide_eq_true c2
   have c2b1 : decide (l0.length < 4) = true := decide_eq_true (by omega)
   clear c2
   simp only [Option.some.injEq, Prod.mk.injEq] at H
   obtain ⟨rfl, rfl⟩ := H
   go_enter Try.func60, Try.ntmps60
   go_wp2
   go_ret2
   exact ⟨by first | rfl | (simp; done) | (simp [*]; done), by repeat (first | exact Drawn0.refl _ | apply Drawn0.step)⟩
 · rw [if_neg c2] at H
   have c2b0 : decide ((l0.length : Int) < 4) = false := decide_eq_false c2
   have c2b1 : decide (l0.length < 4) = false := decide_eq_false (by omega)
   clear c2
   by_cases c3 : 2 ≤ (l0.length : Int)
   · rw [if_pos c3] at H
     have c3b0 := eq_true c3
     have c3b1 : decide (2 ≤ (l0.length : Int)) = true := decide_eq_true c3
     clear c3
     obtain ⟨y526, hy526⟩ : ∃ y_ : List Int, y_ = (l0.drop 2) := ⟨_, rfl⟩
     replace H : ((wire_Get.f k y526 2).bind fun t530 => (if (wrap64 (t530)) < 4 then (some (0, 4)) else (if (wrap64 (t530)) > (l0.length : Int) then (some (0, 2)) else (some (wrap64 (t530), 0))))) = some (r1, r2) := by first | (rw [hy526]; with_reducible exact H) | (have H2_ := (Option.bind_some _ _).symm.trans H; rw [hy526]; with_reducible exact H2_) | (have H2_ := (Option.bind_some _ _).symm.trans H; with_reducible exact H2_) | with_reducible exact H | (rw [hy526]; exact H) | exact H
     have Ny526 := Aside0.mk hy526
     clear hy526
     replace H := Option.bind_eq_some_iff.mp H
     obtain ⟨t530, A40, H⟩ := H
     replace H : (if (wrap64 (t530)) < 4 then (some (0, 4)) else (if (wrap64 (t530)) > (l0.length : Int) then (some (0, 2)) else (some (wrap64 (t530), 0)))) = some (r1, r2) := H
     have A4 := Aside0.mk A40
     clear A40
     by_cases c5 : (wrap64 (t530)) < 4
     · rw [if_pos c5] at H
       have c5b0 : decide ((wrap64 (t530)) < 4) = true := decide_eq_true c5
       clear c5
       simp only [Option.some.injEq, Prod.mk.injEq] at H
       obtain ⟨rfl, rfl⟩ := H
       have q6 : (2 : Int) ≤ ((l0.length : Int) : Int) := of_decide_eq_true (by first | (with_reducible assumption) | assumption)
       obtain ⟨i06, hi06, _, hsz6, _⟩ := info_parts info5
       have hroom6 : l0.length ≤ c0 := HC0.out
       have hC6 : Kd.C (Kd.int .u8) _ A0 l0.length l0 := HR0.out
       have hcut6 := cut_from (P := Try.prog) 23 5 .i64 Try.underlying23 hi06 1 hsz6 A0 l0.length c0 2 (by omega) q6
       have hr6 := Kd.C_drop (m := (2 : Int).toNat) (c := c0) hC6 (by omega) hroom6
       obtain ⟨A6, hA6⟩ : ∃ A1, A1 = (if c0 = (2 : Int).toNat then A0 else (A0 : Option Addr).map (·.add ((2 : Int).toNat * 1))) := ⟨_, rfl⟩
       obtain ⟨c6, hc6⟩ : ∃ c1, c1 = c0 - (2 : Int).toNat := ⟨_, rfl⟩
       have hy6 : y526.length = l0.length - (2 : Int).toNat := (by rw [Ny526.out, List.length_drop] <;> omega)
       rw [show (l0).drop (2 : Int).toNat = y526 from Ny526.out.symm] at hr6
       replace hr6 : Kd.C (Kd.int .u8) _ A6 y526.length y526 := (by rw [hA6]; exact hr6)
       rw [← hy6, ← hA6, ← hc6] at hcut6
       have HR529 := Aside0.mk hr6
       have HC529 := Aside0.mk (show y526.length ≤ c6 from by rw [hy6, hc6]; exact Nat.sub_le_sub_right hroom6 _)
       clear hr6 hC6 hroom6 hi06 hsz6 hc6
       have KY6 := Aside0.mk hy6
       have KA6 := Aside0.mk hA6
       clear hy6 hA6
       replace q6 := eq_true q6
       go_enter Try.func60, Try.ntmps60
       go_wp2_with (first | ((with_reducible refine gate_callee (f := 62) rfl ?_); refine goesL_ (some 10) rfl rfl Try.func62 (by kernel_rfl) rfl #[.slice A6 y526.length c6, .int .i64 2] rfl (by (try simp only [List.map_toArray, List.map_cons, List.map_nil]); first | done | rfl | (simp only [List.length_drop, List.length_take]; rfl)) ?_; (with_reducible refine (wire_Get.calls k _ _ y526 2 t530 _ ?side1 ?side2 A4.out).mono ?_); (case side1 => repeat (first | exact HR529.out | (with_reducible refine Kd.C_alloc ?_ _) | (with_reducible refine Kd.C_drewN ?_ _) | (with_reducible refine Kd.C_drew ?_))); (case side2 => exact HC529.out); rintro e w' ⟨rfl, ⟨nd, rfl⟩⟩; refine ⟨_, rfl, ?_⟩))
       go_ret2
       exact ⟨by first | rfl | (simp; done) | (simp [*]; done), by repeat (first | exact Drawn0.refl _ | apply Drawn0.step)⟩
     · rw [if_neg c5] at H
       have c5b0 : decide ((wrap64 (t530)) < 4) = false := decide_eq_false c5
       clear c5
       by_cases c7 : (wrap64 (t530)) > (l0.length : Int)
       · rw [if_pos c7] at H
         have c7b0 : decide ((l0.length : Int) < (wrap64 (t530))) = true := decide_eq_true c7
         clear c7
         simp only [Option.some.injEq, Prod.mk.injEq] at H
         obtain ⟨rfl, rfl⟩ := H
         have q8 : (2 : Int) ≤ ((l0.length : Int) : Int) := of_decide_eq_true (by first | (with_reducible assumption) | assumption)
         obtain ⟨i08, hi08, _, hsz8, _⟩ := info_parts info5
         have hroom8 : l0.length ≤ c0 := HC0.out
         have hC8 : Kd.C (Kd.int .u8) _ A0 l0.length l0 := HR0.out
         have hcut8 := cut_from (P := Try.prog) 23 5 .i64 Try.underlying23 hi08 1 hsz8 A0 l0.length c0 2 (by omega) q8
         have hr8 := Kd.C_drop (m := (2 : Int).toNat) (c := c0) hC8 (by omega) hroom8
         obtain ⟨A8, hA8⟩ : ∃ A1, A1 = (if c0 = (2 : Int).toNat then A0 else (A0 : Option Addr).map (·.add ((2 : Int).toNat * 1))) := ⟨_, rfl⟩
         obtain ⟨c8, hc8⟩ : ∃ c1, c1 = c0 - (2 : Int).toNat := ⟨_, rfl⟩
         have hy8 : y526.length = l0.length - (2 : Int).toNat := (by rw [Ny526.out, List.length_drop] <;> omega)
         rw [show (l0).drop (2 : Int).toNat = y526 from Ny526.out.symm] at hr8
         replace hr8 : Kd.C (Kd.int .u8) _ A8 y526.length y526 := (by rw [hA8]; exact hr8)
         rw [← hy8, ← hA8, ← hc8] at hcut8
         have HR529 := Aside0.mk hr8
         have HC529 := Aside0.mk (show y526.length ≤ c8 from by rw [hy8, hc8]; exact Nat.sub_le_sub_right hroom8 _)
         clear hr8 hC8 hroom8 hi08 hsz8 hc8
         have KY8 := Aside0.mk hy8
         have KA8 := Aside0.mk hA8
         clear hy8 hA8
         replace q8 := eq_true q8
         go_enter Try.func60, Try.ntmps60
         go_wp2_with (first | ((with_reducible refine gate_callee (f := 62) rfl ?_); refine goesL_ (some 10) rfl rfl Try.func62 (by kernel_rfl) rfl #[.slice A8 y526.length c8, .int .i64 2] rfl (by (try simp only [List.map_toArray, List.map_cons, List.map_nil]); first | done | rfl | (simp only [List.length_drop, List.length_take]; rfl)) ?_; (with_reducible refine (wire_Get.calls k _ _ y526 2 t530 _ ?side1 ?side2 A4.out).mono ?_); (case side1 => repeat (first | exact HR529.out | (with_reducible refine Kd.C_alloc ?_ _) | (with_reducible refine Kd.C_drewN ?_ _) | (with_reducible refine Kd.C_drew ?_))); (case side2 => exact HC529.out); rintro e w' ⟨rfl, ⟨nd, rfl⟩⟩; refine ⟨_, rfl, ?_⟩))
         go_ret2
         exact ⟨by first | rfl | (simp; done) | (simp [*]; done), by repeat (first | exact Drawn0.refl _ | apply Drawn0.step)⟩
       · rw [if_neg c7] at H
         have c7b0 : decide ((l0.length : Int) < (wrap64 (t530))) = false := decide_eq_false c7
         clear c7
         simp only [Option.some.injEq, Prod.mk.injEq] at H
         obtain ⟨rfl, rfl⟩ := H
         have q9 : (2 : Int) ≤ ((l0.length : Int) : Int) := of_decide_eq_true (by first | (with_reducible assumption) | assumption)
         obtain ⟨i09, hi09, _, hsz9, _⟩ := info_parts info5
         have hroom9 : l0.length ≤ c0 := HC0.out
         have hC9 : Kd.C (Kd.int .u8) _ A0 l0.length l0 := HR0.out
         have hcut9 := cut_from (P := Try.prog) 23 5 .i64 Try.underlying23 hi09 1 hsz9 A0 l0.length c0 2 (by omega) q9
         have hr9 := Kd.C_drop (m := (2 : Int).toNat) (c := c0) hC9 (by omega) hroom9
         obtain ⟨A9, hA9⟩ : ∃ A1, A1 = (if c0 = (2 : Int).toNat then A0 else (A0 : Option Addr).map (·.add ((2 : Int).toNat * 1))) := ⟨_, rfl⟩
         obtain ⟨c9, hc9⟩ : ∃ c1, c1 = c0 - (2 : Int).toNat := ⟨_, rfl⟩
         have hy9 : y526.length = l0.length - (2 : Int).toNat := (by rw [Ny526.out, List.length_drop] <;> omega)
         rw [show (l0).drop (2 : Int).toNat = y526 from Ny526.out.symm] at hr9
         replace hr9 : Kd.C (Kd.int .u8) _ A9 y526.length y526 := (by rw [hA9]; exact hr9)
         rw [← hy9, ← hA9, ← hc9] at hcut9
         have HR529 := Aside0.mk hr9
         have HC529 := Aside0.mk (show y526.length ≤ c9 from by rw [hy9, hc9]; exact Nat.sub_le_sub_right hroom9 _)
         clear hr9 hC9 hroom9 hi09 hsz9 hc9
         have KY9 := Aside0.mk hy9
         have KA9 := Aside0.mk hA9
         clear hy9 hA9
         replace q9 := eq_true q9
         go_enter Try.func60, Try.ntmps60
         go_wp2_with (first | ((with_reducible refine gate_callee (f := 62) rfl ?_); refine goesL_ (some 10) rfl rfl Try.func62 (by kernel_rfl) rfl #[.slice A9 y526.length c9, .int .i64 2] rfl (by (try simp only [List.map_toArray, List.map_cons, List.map_nil]); first | done | rfl | (simp only [List.length_drop, List.length_take]; rfl)) ?_; (with_reducible refine (wire_Get.calls k _ _ y526 2 t530 _ ?side1 ?side2 A4.out).mono ?_); (case side1 => repeat (first | exact HR529.out | (with_reducible refine Kd.C_alloc ?_ _) | (with_reducible refine Kd.C_drewN ?_ _) | (with_reducible refine Kd.C_drew ?_))); (case side2 => exact HC529.out); rintro e w' ⟨rfl, ⟨nd, rfl⟩⟩; refine ⟨_, rfl, ?_⟩))
         go_ret2
         exact ⟨by first | rfl | (simp; done) | (simp [*]; done), by repeat (first | exact Drawn0.refl _ | apply Drawn0.step)⟩
   · rw [if_neg c3] at H
     exact absurd H (by simp)
end Go.Proofs.Ytgjeahgagciagaa.Print
namespace Go.Proofs.Ytgjeahgagciagaa.Print
open Go.RowKit Go.Proofs.YtgjeahgagciagaaW.PrintWords Go.Proofs.YtgjeahgagciagaaW.PrintLast Go.Proofs.YtgjeahgagciagaaW.PrintMore
attribute [local go_sem] max2_int min2_int max_two min_two max_three min_three max_four min_four
set_option linter.unusedVariables false
set_option linter.unusedSimpArgs false
def slices_Clone_byte_byte.f (l0 : List Int) : Option (List Int) := if l0.length < 140737488355328 then some l0 else none
set_option maxHeartbeats 8000000 in
set_option maxRecDepth 100000 in
theorem slices_Clone_byte_byte.calls (A0 : Option Addr) (c0 : Nat) (l0 : List Int) (r : List Int) (w : World) (hr0 : Kd.C (Kd.int .u8) w A0 l0.length l0) (hc0 : l0.length ≤ c0) (h : slices_Clone_byte_byte.f l0 = some r) :
 Calls Try.prog 48 #[.slice A0 l0.length c0] w fun e w' => ∃ v0_ : Value, e = .returned (v0_) ∧ Kd.R (Kd.int .u8) 5 w' w.heap.size (fun _ => True) v0_ r ∧ Below w.heap.size w w' := by
 unfold slices_Clone_byte_byte.f at h
 by_cases hlim : l0.length < 140737488355328
 · rw [if_pos hlim] at h
   obtain rfl := Option.some.inj h
   have LM := Aside0.mk hlim
   clear h hlim
   have HR0 := Aside0.mk hr0
   have HC0 := Aside0.mk hc0
   have HB := Aside0.mk (Below.refl w.heap.size w)
   rcases A0 with _ | ad
   · have hz : l0.length = 0 := by
      rcases Nat.eq_zero_or_pos l0.length with h0 | h0
      · exact h0
      · obtain ⟨ad, h, _⟩ := hr0.2.2 h0
        cases h
     obtain rfl : l0 = [] := List.eq_nil_of_length_eq_zero hz
     clear hr0 hc0
     have hq : ∀ (w : World) (n c : Nat), (Go.binOp .eql 23 (.slice none n c) (.slice none 0 0)).run Try.prog w = .ok (.bool true) w := fun w n c => Lib.run_eql_slice_nil (P := Try.prog) w 23 5 none n c 0 0 Try.underlying23
     go_enter Try.func48, Try.ntmps48
     go_wp2
     go_ret
     exact ⟨_, rfl, Kd.R_nil _ _ _ _ _, HB.out⟩
   · clear hr0 hc0
     have hq : ∀ (w : World) (n c : Nat), (Go.binOp .eql 23 (.slice (some ad) n c) (.slice none 0 0)).run Try.prog w = .ok (.bool false) w := fun w n c => Lib.run_eql_slice_nil (P := Try.prog) w 23 5 (some ad) n c 0 0 Try.underlying23
     obtain ⟨y1, hy1⟩ : ∃ y_ : List Int, y_ = ([] : List Int) := ⟨_, rfl⟩
     have Ny1 := Aside0.mk hy1
     clear hy1
     go_enter Try.func48, Try.ntmps48
     go_wp2_with (first | ((with_reducible refine gate_dst (N := 5) rfl ?_); refine Kd.R_lit (Kd.int .u8) _ 5 ?hg (N := 5) ?hd (xs := ([] : List Int)) (inner := []) (ok := fun _ => True) (okp := fun _ => True) ?hr ?hp (fun _ hk => hk) trivial (Below.refl _ _) (Nat.le_refl _) (by simp) ?_; (case hd => rfl); (case hg => rfl); (case hr => first | (go_simp; done) | (go_simp; rfl)); (case hp => exact (Reps.none _ _)); intro v1 w1 ho7 hb hg_ hnew_; clear hg_ hnew_; rw [← Ny1.out] at ho7; have n0_ := Aside0.mk (Kd.R_lower ho7 (below_size (by repeat (first | (with_reducible first | exact HB.out | apply below_alloc | apply pw_below_drewN | apply below_drew1) | exact HB.out)))); have n1_ := Aside0.mk (below_step (by repeat (first | (with_reducible first | exact HB.out | apply below_alloc | apply pw_below_drewN | apply below_drew1) | exact HB.out)) hb); clear HB; have HO1 := n0_; have HB := n1_; clear n0_ n1_; clear hb ho7) | ((with_reducible refine gate_builtin (b := .append) (xs := #[.tmp 5, .tmp 6]) rfl ?_); at_builtin; refine Kd.R_append_rows (Kd.int .u8) (w0 := w) w.heap.size rfl (.tmp 5) (.tmp 6) 23 5 (.int .u8 0) 1 rfl Try.underlying23 info5 rfl (by decide) (by omega) v1 y1 l0 _ _ _ (fun _ => True) (fun _ => False) rfl rfl ?aO ?aR (fun _ _ h => h) (fun _ h => h.elim) ?aF ?aB ?aS ?aL ?_; (case aR => repeat (first | exact (Kd.C_below HR0.out HB.out) | (with_reducible refine Kd.C_alloc ?_ _) | (with_reducible refine Kd.C_drewN ?_ _) | (with_reducible refine Kd.C_drew ?_))); (case aB => exact (by repeat (first | (with_reducible first | exact HB.out | apply below_alloc | apply pw_below_drewN | apply below_drew1) | exact HB.out))); (case aF => exact (fun _ _ => trivial)); (case aO => exact (by (with_reducible repeat (first | apply Kd.R_alloc | apply Kd.R_drewN | apply Kd.R_drew)); exact HO1.out)); (case aS => exact (below_size (by repeat (first | (with_reducible first | exact HB.out | apply below_alloc | apply pw_below_drewN | apply below_drew1) | exact HB.out)))); (case aL => have h1_ := LM.out; rw [Ny1.out, List.length_nil]; omega); intro v2 w2 ho hb hg hat; have n0_ := Aside0.mk (hb); have n1_ := Aside0.mk (ho); clear HB HO1 hg hat ho hb; have HB := n0_; have HO2 := n1_; clear n0_ n1_))
     go_ret
     have e1 : y1 ++ l0 = l0 := by rw [Ny1.out]; rfl
     exact ⟨_, by first | rfl | (simp; done) | (simp [*]; done), by rw [e1] at HO2; exact HO2.out, HB.out⟩
 · rw [if_neg hlim] at h
   exact absurd h (by simp)
end Go.Proofs.Ytgjeahgagciagaa.Print
namespace Go.Proofs.Ytgjeahgagciagaa.Print
open Go.RowKit Go.Proofs.YtgjeahgagciagaaW.PrintWords Go.Proofs.YtgjeahgagciagaaW.PrintLast Go.Proofs.YtgjeahgagciagaaW.PrintMore
attribute [local go_sem] max2_int min2_int max_two min_two max_three min_three max_four min_four
set_option linter.unusedVariables false
set_option linter.unusedSimpArgs false
def ctl_Get.f (k : Nat) (l0 : List Int) : Option (Int × Int × List Int × Int) := (ctl_size.f k l0).bind fun bt531 => (if bt531.2 = 0 then (if 0 < (l0.length : Int) then (if 1 < (l0.length : Int) then (if 4 ≤ bt531.1 then (if bt531.1 ≤ (l0.length : Int) then ((slices_Clone_byte_byte.f ((l0.take (bt531.1 : Int).toNat).drop 4)).bind fun t539 => (some (rd l0 0, rd l0 1, t539, 0))) else (none)) else (none)) else (none)) else (none)) else (some (0, 0, ([] : List Int), bt531.2)))
def ctl_Get.T4 : Bool × List (List Nat × List Nat) := (true, [([], []), ([0], [0]), ([1], [1]), ([], []), ([3], [3]), ([4], [4]), ([], []), ([], []), ([6, 7], [6, 7]), ([8], [8]), ([2, 9, 0, 1, 2], [2]), ([5, 10, 0, 1, 2, 3, 4, 5, 10], [5]), ([9, 11, 0, 1, 2, 3, 4, 5, 6, 7, 8, 9, 10, 11], [9]), ([12, 0, 1, 2, 3, 4, 5, 6, 7, 8, 9, 10, 11, 12], [])])
def ctl_Get.B4 : List Nat := [0, 1, 3, 0, 8, 24, 0, 0, 192, 448, 967, 2047, 4095, 8191]
theorem ctl_Get.tab4 : rtab .any (opsOf Try.f53 4) = ctl_Get.T4 := by kernel_rfl
theorem ctl_Get.bits4 : waitsOk ctl_Get.T4.2 ctl_Get.B4 = true := by kernel_rfl
set_option maxHeartbeats 8000000 in
set_option maxRecDepth 100000 in
theorem ctl_Get.calls (k : Nat) (A0 : Option Addr) (c0 : Nat) (l0 : List Int) (r1 : Int) (r2 : Int) (r3 : List Int) (r4 : Int) (w : World) (hr0 : Kd.C (Kd.int .u8) w A0 l0.length l0) (hc0 : l0.length ≤ c0) (h : ctl_Get.f k l0 = some (r1, r2, r3, r4)) :
 Calls Try.prog 53 #[.slice A0 l0.length c0] w fun e w' => ∃ v2_ : Value, e = .returned (.tuple #[.int .u8 r1, .int .u8 r2, v2_, .int .i64 r4]) ∧ Kd.R (Kd.int .u8) 5 w' w.heap.size (fun _ => True) v2_ r3 ∧ Below w.heap.size w w' := by
 have HR0 := Aside0.mk hr0
 have HC0 := Aside0.mk hc0
 clear hr0 hc0
 have HB := Aside0.mk (Below.refl w.heap.size w)
 have H : ((ctl_size.f k l0).bind fun bt531 => (if bt531.2 = 0 then (if 0 < (l0.length : Int) then (if 1 < (l0.length : Int) then (if 4 ≤ bt531.1 then (if bt531.1 ≤ (l0.length : Int) then ((slices_Clone_byte_byte.f ((l0.take (bt531.1 : Int).toNat).drop 4)).bind fun t539 => (some (rd l0 0, rd l0 1, t539, 0))) else (none)) else (none)) else (none)) else (none)) else (some (0, 0, ([] : List Int), bt531.2)))) = some (r1, r2, r3, r4) := h
 clear h
 replace H := Option.bind_eq_some_iff.mp H
 obtain ⟨⟨t531, t532⟩, A20, H⟩ := H
 replace H : (if t532 = 0 then (if 0 < (l0.length : Int) then (if 1 < (l0.length : Int) then (if 4 ≤ t531 then (if t531 ≤ (l0.length : Int) then ((slices_Clone_byte_byte.f ((l0.take (t531 : Int).toNat).drop 4)).bind fun t539 => (some (rd l0 0, rd l0 1, t539, 0))) else (none)) else (none)) else (none)) else (none)) else (some (0, 0, ([] : List Int), t532))) = some (r1, r2, r3, r4) := H
 have A2 := Aside0.mk A20
 clear A20
 by_cases c3 : t532 = 0
 · rw [if_pos c3] at H
   have c3b0 : (t532 == 0) = true := beq_iff_eq.mpr c3
   have c3b1 : (t532 != 0) = false := bne_eq_false_iff_eq.mpr c3
   clear c3
   by_cases c4 : 0 < (l0.length : Int)
   · rw [if_pos c4] at H
     have c4b0 : decide (0 < (l0.length : Int)) = true := decide_eq_true c4
     have c4b1 : decide (0 < l0.length) = true := decide_eq_true (by omega)
     clear c4
     by_cases c5 : 1 < (l0.length : Int)
     · rw [if_pos c5] at H
       have c5b0 : decide (1 < (l0.length : Int)) = true := decide_eq_true c5
       have c5b1 : decide (1 < l0.length) = true := decide_eq_true (by omega)
       clear c5
       by_cases c6 : 4 ≤ t531
       · rw [if_pos c6] at H
         have c6b0 := eq_true c6
         have c6b1 : decide (4 ≤ t531) = true := decide_eq_true c6
         clear c6
         by_cases c7 : t531 ≤ (l0.length : Int)
         · rw [if_pos c7] at H
           have c7b0 := eq_true c7
           have c7b1 : decide (t531 ≤ (l0.length : Int)) = true := decide_eq_true c7
           clear c7
           obtain ⟨y535, hy535⟩ : ∃ y_ : List Int, y_ = ((l0.take (t531 : Int).toNat).drop 4) := ⟨_, rfl⟩
           replace H : ((slices_Clone_byte_byte.f y535).bind fun t539 => (some (rd l0 0, rd l0 1, t539, 0))) = some (r1, r2, r3, r4) := by first | (rw [hy535]; with_reducible exact H) | (have H2_ := (Option.bind_some _ _).symm.trans H; rw [hy535]; with_reducible exact H2_) | (have H2_ := (Option.bind_some _ _).symm.trans H; with_reducible exact H2_) | with_reducible exact H | (rw [hy535]; exact H) | exact H
           have Ny535 := Aside0.mk hy535
           clear hy535
           replace H := Option.bind_eq_some_iff.mp H
           obtain ⟨t539, A80, H⟩ := H
           replace H : (some (rd l0 0, rd l0 1, t539, 0)) = some (r1, r2, r3, r4) := H
           have A8 := Aside0.mk A80
           clear A80
           simp only [Option.some.injEq, Prod.mk.injEq] at H
           obtain ⟨rfl, rfl, rfl, rfl⟩ := H
           go_enter Try.func53, Try.ntmps53
           try go_wp2_with (first | ((with_reducible refine gate_callee (f := 60) rfl ?_); refine goesL_ (some 9) rfl rfl Try.func60 (by kernel_rfl) rfl #[.slice A0 l0.length c0] rfl (by (try simp only [List.map_toArray, List.map_cons, List.map_nil]); first | done | rfl | (simp only [List.length_drop, List.length_take]; rfl)) ?_; (with_reducible refine (ctl_size.calls k _ _ l0 t531 t532 _ ?side1 ?side2 A2.out).mono ?_); (case side1 => repeat (first | exact HR0.out | (with_reducible refine Kd.C_alloc ?_ _) | (with_reducible refine Kd.C_drewN ?_ _) | (with_reducible refine Kd.C_drew ?_))); (case side2 => exact HC0.out); rintro e w' ⟨rfl, ⟨nd, rfl⟩⟩; refine ⟨_, rfl, ?_⟩))
           rw [drewN_self w]
           generalize hq_ : World.drewN w _ = w9
           have n0_ := Aside0.mk (show Below w.heap.size w w9 from by rw [← hq_]; exact pw_below_drewN HB.out _)
           clear HB hq_
           have HB := n0_
           clear n0_
           have n0_ := Aside0.mk (below_drew1 HB.out)
           clear HB
           have HB := n0_
           clear n0_
           have p533 : 0 ≤ (0 : Int) := (by omega)
           have q533 : 0 < (l0.length : Int) := of_decide_eq_true (by first | (with_reducible assumption) | assumption)
           obtain ⟨ad533, e533, hx533_0⟩ := Kd.at_int HR0.out 0 p533 q533
           have hw533_0 := hx533_0
           (try rw [show ((0 : Int)).toNat = 0 from rfl] at hw533_0)
           (try rw [show 0 * 1 = 0 from rfl] at hw533_0)
           (try rw [Addr.add_zero'] at hw533_0)
           cases e533
           have qi533 : (0 < l0.length) = True := eq_true (by omega)
           (try rw [show ((0 : Int)).toNat = 0 from rfl] at hx533_0)
           (try rw [Addr.add_zero'] at hx533_0)
           replace hx533_0 := (HB.out.cell (World.block_lt_of_cell? w _ hx533_0)).trans hx533_0
           replace p533 := eq_true p533
           replace q533 := eq_true q533
           have p534 : 0 ≤ (1 : Int) := (by omega)
           have q534 : 1 < (l0.length : Int) := of_decide_eq_true (by first | (with_reducible assumption) | assumption)
           obtain ⟨ad534, e534, hx534_0⟩ := Kd.at_int HR0.out 1 p534 q534
           have hw534_0 := hx534_0
           (try rw [show ((1 : Int)).toNat = 1 from rfl] at hw534_0)
           (try rw [show 1 * 1 = 1 from rfl] at hw534_0)
           (try simp only [Nat.reduceMul, Nat.reduceEqDiff, Go.Addr.add, ↓reduceIte] at hw534_0)
           obtain rfl : ad533 = ad534 := (by injection e534)
           (try simp only [show (1 : Int).toNat = 1 from rfl, Nat.reduceMul, Nat.reduceEqDiff, Go.Addr.add, ↓reduceIte] at hx534_0)
           have qi534 : (1 < l0.length) = True := eq_true (by omega)
           (try rw [show ((1 : Int)).toNat = 1 from rfl] at hx534_0)
           replace hx534_0 := (HB.out.cell (World.block_lt_of_cell? w _ hx534_0)).trans hx534_0
           replace p534 := eq_true p534
           replace q534 := eq_true q534
           have q11 : (t531 : Int) ≤ ((l0.length : Int) : Int) := of_decide_eq_true (by first | (with_reducible assumption) | assumption)
           obtain ⟨i011, hi011, _, hsz11, _⟩ := info_parts info5
           have hroom11 : l0.length ≤ c0 := HC0.out
           have hC11 : Kd.C (Kd.int .u8) _ (some ad533) l0.length l0 := HR0.out
           have ql11 : (4 : Int) ≤ (t531 : Int) := of_decide_eq_true (by first | (with_reducible assumption) | assumption)
           have hcut11 := cut_mid (P := Try.prog) 23 5 .i64 .i64 Try.underlying23 hi011 1 hsz11 (some ad533) l0.length c0 4 t531 (by omega) ql11 q11 hroom11
           have hr11 := Kd.C_mid (lo := (4 : Int).toNat) (hi := (t531 : Int).toNat) (c := c0) hC11 (by omega) (by omega) hroom11
           obtain ⟨A11, hA11⟩ : ∃ A1, A1 = (if c0 = (4 : Int).toNat then (some ad533) else ((some ad533) : Option Addr).map (·.add ((4 : Int).toNat * 1))) := ⟨_, rfl⟩
           obtain ⟨c11, hc11⟩ : ∃ c1, c1 = c0 - (4 : Int).toNat := ⟨_, rfl⟩
           have hy11 : y535.length = (t531 : Int).toNat - (4 : Int).toNat := (by rw [Ny535.out, List.length_drop, List.length_take] <;> omega)
           rw [show ((l0).take (t531 : Int).toNat).drop (4 : Int).toNat = y535 from Ny535.out.symm] at hr11
           replace hr11 : Kd.C (Kd.int .u8) _ A11 y535.length y535 := (by rw [hA11]; exact hr11)
           rw [← hy11, ← hA11, ← hc11] at hcut11
           have HR538 := Aside0.mk hr11
           have HC538 := Aside0.mk (show y535.length ≤ c11 from by rw [hy11, hc11]; exact Nat.sub_le_sub_right (Nat.le_trans (by omega) hroom11) _)
           clear hr11 hC11 hroom11 hi011 hsz11 hc11
           have KY11 := Aside0.mk hy11
           have KA11 := Aside0.mk hA11
           clear hy11 hA11
           replace q11 := eq_true q11
           refine start_ (n := 14) (S := fun w' => w'.cell? ad533 = some (.int .u8 (rd l0 0)) ∧ w'.cell? ⟨ad533.block, ad533.off + 1, none⟩ = some (.int .u8 (rd l0 1))) (ds := []) #[false, false, false, false, false, false, false, false, false, false, false, false, false, false] (by kernel_rfl) rfl rfl ⟨((HB.out.cell (World.block_lt_of_cell? w _ hw533_0)).trans hw533_0), ((HB.out.cell (World.block_lt_of_cell? w _ hw534_0)).trans hw534_0)⟩ (fun hHeld => ?_); refine with_tabW ctl_Get.tab4 ctl_Get.bits4 (fun HT_ HW_ => ?_)
           generalize w9.drew = w10 at HB HR538 hx533_0 hx534_0 hHeld ⊢
           refine pure_ (i := 0) (N := some 15) (v := ?_) (a' := ?_) #[true, false, false, false, false, false, false, false, false, false, false, false, false, false] rfl rfl (any_of HT_.out (by kernel_rfl)) (fun _ _ _ h => h) (Or.inl ⟨by rfl, ?_⟩) ?_ ?_
           rotate_left
           · intro w'
             go_simp
             with_reducible rfl
           rotate_left
           · simp only [Act.put, List.setIfInBounds_toArray, List.set_cons_zero, List.set_cons_succ, i64_w, i32_w]
             rfl
           refine pure_ (i := 1) (N := some 16) (v := ?_) (a' := ?_) #[true, true, false, false, false, false, false, false, false, false, false, false, false, false] rfl rfl (any_of HT_.out (by kernel_rfl)) (fun _ _ _ h => h) (Or.inl ⟨by rfl, ?_⟩) ?_ ?_
           rotate_left
           · intro w'
             go_simp
             with_reducible rfl
           rotate_left
           · simp only [Act.put, List.setIfInBounds_toArray, List.set_cons_zero, List.set_cons_succ, i64_w, i32_w]
             rfl
           refine pure_ (i := 3) (N := some 18) (v := ?_) (a' := ?_) #[true, true, false, true, false, false, false, false, false, false, false, false, false, false] rfl rfl (any_of HT_.out (by kernel_rfl)) (fun _ _ _ h => h) (Or.inl ⟨by rfl, ?_⟩) ?_ ?_
           rotate_left
           · intro w'
             go_simp
             with_reducible rfl
           rotate_left
           · simp only [Act.put, List.setIfInBounds_toArray, List.set_cons_zero, List.set_cons_succ, i64_w, i32_w]
             rfl
           refine pure_ (i := 4) (N := some 19) (v := ?_) (a' := ?_) #[true, true, false, true, true, false, false, false, false, false, false, false, false, false] rfl rfl (any_of HT_.out (by kernel_rfl)) (fun _ _ _ h => h) (Or.inl ⟨by rfl, ?_⟩) ?_ ?_
           rotate_left
           · intro w'
             go_simp
             with_reducible rfl
           rotate_left
           · simp only [Act.put, List.setIfInBounds_toArray, List.set_cons_zero, List.set_cons_succ, i64_w, i32_w]
             rfl
           refine pure_ (i := 6) (N := some 21) (v := ?_) (a' := ?_) #[true, true, false, true, true, false, true, false, false, false, false, false, false, false] rfl rfl (any_of HT_.out (by kernel_rfl)) (fun _ _ _ h => h) (Or.inl ⟨by rfl, ?_⟩) ?_ ?_
           rotate_left
           · intro w'
             go_simp
             with_reducible rfl
           rotate_left
           · simp only [Act.put, List.setIfInBounds_toArray, List.set_cons_zero, List.set_cons_succ, i64_w, i32_w]
             rfl
           refine pure_ (i := 7) (N := some 22) (v := ?_) (a' := ?_) #[true, true, false, true, true, false, true, true, false, false, false, false, false, false] rfl rfl (any_of HT_.out (by kernel_rfl)) (fun _ _ _ h => h) (Or.inl ⟨by rfl, ?_⟩) ?_ ?_
           rotate_left
           · intro w'
             go_simp
             with_reducible rfl
           rotate_left
           · simp only [Act.put, List.setIfInBounds_toArray, List.set_cons_zero, List.set_cons_succ, i64_w, i32_w]
             rfl
           refine pure_ (i := 8) (N := some 23) (v := ?_) (a' := ?_) #[true, true, false, true, true, false, true, true, true, false, false, false, false, false] rfl rfl (any_of HT_.out (by kernel_rfl)) (fun _ _ _ h => h) (Or.inl ⟨by rfl, ?_⟩) ?_ ?_
           rotate_left
           · intro w'
             go_simp
             with_reducible rfl
           rotate_left
           · simp only [Act.put, List.setIfInBounds_toArray, List.set_cons_zero, List.set_cons_succ, i64_w, i32_w]
             rfl
           refine take_ (i := 2) (N := some 17) (v := ?_) (a' := ?_) #[true, true, true, true, true, false, true, true, true, false, false, false, false, false] rfl rfl (take_ofW HT_.out HW_.out (by kernel_rfl)) (fun _ _ _ h => h) (Or.inl ⟨by rfl, ?_⟩) hHeld ?_ ?_
           rotate_left
           · rintro w' ⟨s0, s1⟩
             go_simp
             with_reducible rfl
           rotate_left
           · simp only [Act.put, List.setIfInBounds_toArray, List.set_cons_zero, List.set_cons_succ, i64_w, i32_w]
             rfl
           refine take_ (i := 5) (N := some 20) (v := ?_) (a' := ?_) #[true, true, true, true, true, true, true, true, true, false, false, false, false, false] rfl rfl (take_ofW HT_.out HW_.out (by kernel_rfl)) (fun _ _ _ h => h) (Or.inl ⟨by rfl, ?_⟩) hHeld ?_ ?_
           rotate_left
           · rintro w' ⟨s0, s1⟩
             go_simp
             with_reducible rfl
           rotate_left
           · simp only [Act.put, List.setIfInBounds_toArray, List.set_cons_zero, List.set_cons_succ, i64_w, i32_w]
             rfl
           refine one_ (i := 9) (N := some 24) #[true, true, true, true, true, true, true, true, true, true, false, false, false, false] rfl rfl (one_of HT_.out (by kernel_rfl)) (by decide) (fun K hK => ?_)
           refine goes_ Try.func48 (by kernel_rfl) rfl #[.slice A11 y535.length c11] (by rfl) rfl rfl (by (try simp only [List.map_toArray, List.map_cons, List.map_nil]); first | done | rfl | (simp only [List.length_drop, List.length_take]; rfl)) ?_
           with_reducible refine (slices_Clone_byte_byte.calls _ _ y535 t539 _ ?side1 ?side2 A8.out).mono ?_
           (case side1 => repeat (first | exact (Kd.C_below HR538.out HB.out) | (with_reducible refine Kd.C_alloc ?_ _) | (with_reducible refine Kd.C_drewN ?_ _) | (with_reducible refine Kd.C_drew ?_)))
           (case side2 => exact HC538.out)
           rintro e w12 ⟨v540, rfl, ho0, hb⟩
           refine ⟨_, rfl, ?_⟩
           have n0_ := Aside0.mk (Kd.R_lower ho0 (below_size (by repeat (first | (with_reducible first | exact HB.out | apply below_alloc | apply pw_below_drewN | apply below_drew1) | exact HB.out))))
           have n1_ := Aside0.mk (below_step (by repeat (first | (with_reducible first | exact HB.out | apply below_alloc | apply pw_below_drewN | apply below_drew1) | exact HB.out)) hb)
           clear HB
           have HO541 := n0_
           have HB := n1_
           clear n0_ n1_
           (try clear hb)
           (try clear hb2)
           (try clear hk)
           (try clear hi)
           (try clear ho0)
           refine hK.out _ _ ⟨((HB.out.cell (World.block_lt_of_cell? w _ hw533_0)).trans hw533_0), ((HB.out.cell (World.block_lt_of_cell? w _ hw534_0)).trans hw534_0)⟩ (fun hHeld => ?_)
           clear hK K
           refine norm_ (a' := ?_) ?_ ?_
           rotate_left
           · show Act.put _ (some 24) _ = _
             simp only [Act.put, List.setIfInBounds_toArray, List.set_cons_zero, List.set_cons_succ, i64_w, i32_w]
             rfl
           refine pure_ (i := 10) (N := some 2) (v := ?_) (a' := ?_) #[true, true, true, true, true, true, true, true, true, true, true, false, false, false] rfl rfl (any_of HT_.out (by kernel_rfl)) (fun _ _ _ h => h) (Or.inl ⟨by rfl, ?_⟩) ?_ ?_
           rotate_left
           · intro w'
             go_simp
             with_reducible rfl
           rotate_left
           · simp only [Act.put, List.setIfInBounds_toArray, List.set_cons_zero, List.set_cons_succ, i64_w, i32_w]
             rfl
           refine pure_ (i := 11) (N := some 3) (v := ?_) (a' := ?_) #[true, true, true, true, true, true, true, true, true, true, true, true, false, false] rfl rfl (any_of HT_.out (by kernel_rfl)) (fun _ _ _ h => h) (Or.inl ⟨by rfl, ?_⟩) ?_ ?_
           rotate_left
           · intro w'
             go_simp
             with_reducible rfl
           rotate_left
           · simp only [Act.put, List.setIfInBounds_toArray, List.set_cons_zero, List.set_cons_succ, i64_w, i32_w]
             rfl
           refine pure_ (i := 12) (N := some 4) (v := ?_) (a' := ?_) #[true, true, true, true, true, true, true, true, true, true, true, true, true, false] rfl rfl (any_of HT_.out (by kernel_rfl)) (fun _ _ _ h => h) (Or.inl ⟨by rfl, ?_⟩) ?_ ?_
           rotate_left
           · intro w'
             go_simp
             with_reducible rfl
           rotate_left
           · simp only [Act.put, List.setIfInBounds_toArray, List.set_cons_zero, List.set_cons_succ, i64_w, i32_w]
             rfl
           refine pure_ (i := 13) (N := some 5) (v := ?_) (a' := ?_) #[true, true, true, true, true, true, true, true, true, true, true, true, true, true] rfl rfl (any_of HT_.out (by kernel_rfl)) (fun _ _ _ h => h) (Or.inl ⟨by rfl, ?_⟩) ?_ ?_
           rotate_left
           · intro w'
             go_simp
             with_reducible rfl
           rotate_left
           · simp only [Act.put, List.setIfInBounds_toArray, List.set_cons_zero, List.set_cons_succ, i64_w, i32_w]
             rfl
           refine done_ (done_of HT_.out (by kernel_rfl)) ?_
           try go_wp2
           refine bodyPost_ret (results_list (rs := [.tmp 2, .tmp 3, .tmp 4, .tmp 5]) rfl (by simp) (.tmp (.tmp (.tmp (.tmp .nil))))) rfl ?_
           exact ⟨_, by first | rfl | (simp [errW_none, errW_some] <;> rfl) | (simp [*, errW_none, errW_some] <;> rfl), by (with_reducible repeat (first | apply Kd.R_alloc | apply Kd.R_drewN | apply Kd.R_drew)); exact HO541.out, by repeat (first | (with_reducible first | exact HB.out | apply below_alloc | apply pw_below_drewN | apply below_drew1) | exact HB.out)⟩
         · rw [if_neg c7] at H
           exact absurd H (by simp)
       · rw [if_neg c6] at H
         exact absurd H (by simp)
     · rw [if_neg c5] at H
       exact absurd H (by simp)
   · rw [if_neg c4] at H
     exact absurd H (by simp)
 · rw [if_neg c3] at H
   have c3b0 : (t532 == 0) = false := beq_eq_false_iff_ne.mpr c3
   have c3b1 : (t532 != 0) = true := bne_iff_ne.mpr c3
   simp only [Option.some.injEq, Prod.mk.injEq] at H
   obtain ⟨rfl, rfl, rfl, rfl⟩ := H
   go_enter Try.func53, Try.ntmps53
   go_wp2_with (first | ((with_reducible refine gate_callee (f := 60) rfl ?_); refine goesL_ (some 9) rfl rfl Try.func60 (by kernel_rfl) rfl #[.slice A0 l0.length c0] rfl (by (try simp only [List.map_toArray, List.map_cons, List.map_nil]); first | done | rfl | (simp only [List.length_drop, List.length_take]; rfl)) ?_; (with_reducible refine (ctl_size.calls k _ _ l0 t531 t532 _ ?side1 ?side2 A2.out).mono ?_); (case side1 => repeat (first | exact HR0.out | (with_reducible refine Kd.C_alloc ?_ _) | (with_reducible refine Kd.C_drewN ?_ _) | (with_reducible refine Kd.C_drew ?_))); (case side2 => exact HC0.out); rintro e w' ⟨rfl, ⟨nd, rfl⟩⟩; refine ⟨_, rfl, ?_⟩))
   refine bodyPost_ret (results_list (rs := [.tmp 2, .tmp 3, .tmp 4, .tmp 5]) rfl (by simp) (.tmp (.tmp (.tmp (.tmp .nil))))) rfl ?_
   exact ⟨_, by first | rfl | (simp [errW_none, errW_some] <;> rfl) | (simp [*, errW_none, errW_some] <;> rfl), by first | exact Kd.R_nil _ _ _ _ _ | exact Kd.N_nil _ _ _ _ _ | exact Kd.V_nil _ _ _ _ _ | exact Kd.Q_nil _ _ _ _ _ | exact Kd.S_nil _ _ _ _ _, by repeat (first | (with_reducible first | exact HB.out | apply below_alloc | apply pw_below_drewN | apply below_drew1) | exact HB.out)⟩
end Go.Proofs.Ytgjeahgagciagaa.Print
namespace Go.Proofs.Ytgjeahgagciagaa.Print
open Go.RowKit Go.Proofs.YtgjeahgagciagaaW.PrintWords Go.Proofs.YtgjeahgagciagaaW.PrintLast Go.Proofs.YtgjeahgagciagaaW.PrintMore
attribute [local go_sem] max2_int min2_int max_two min_two max_three min_three max_four min_four
set_option linter.unusedVariables false
set_option linter.unusedSimpArgs false
def chap_Get.f (k : Nat) (l0 : List Int) : Option (Int × Int × Int × (List (S57)) × Int × Int × List Int × List Int × List Int × List Int × Int) := (ctl_Get.f k l0).bind fun bt615 => (if bt615.2.2.2 = 0 then ((chap_valued.f bt615.1).bind fun t622 => (if t622 = true then (if (bt615.2.2.1.length : Int) = 0 then (some (0, 0, 0, ([] : List (S57)), 0, 0, ([] : List Int), ([] : List Int), ([] : List Int), ([] : List Int), 2)) else (if 0 < (bt615.2.2.1.length : Int) then (if (rd bt615.2.2.1 0) = 0 then (some (0, 0, 0, ([] : List (S57)), 0, 0, ([] : List Int), ([] : List Int), ([] : List Int), ([] : List Int), 4)) else (if (wrap64 (1 + (wrap64 (rd bt615.2.2.1 0)))) > (bt615.2.2.1.length : Int) then (some (0, 0, 0, ([] : List (S57)), 0, 0, ([] : List Int), ([] : List Int), ([] : List Int), ([] : List Int), 2)) else (if 1 ≤ (wrap64 (1 + (wrap64 (rd bt615.2.2.1 0)))) then (if (wrap64 (1 + (wrap64 (rd bt615.2.2.1 0)))) ≤ (bt615.2.2.1.length : Int) then ((slices_Clone_byte_byte.f ((bt615.2.2.1.take ((wrap64 (1 + (wrap64 (rd bt615.2.2.1 0)))) : Int).toNat).drop 1)).bind fun t629 => (if 0 ≤ (wrap64 (1 + (wrap64 (rd bt615.2.2.1 0)))) then ((slices_Clone_byte_byte.f (bt615.2.2.1.drop ((wrap64 (1 + (wrap64 (rd bt615.2.2.1 0)))) : Int).toNat)).bind fun t636 => (some (49699, bt615.1, bt615.2.1, ([] : List (S57)), 0, 0, t629, t636, ([] : List Int), ([] : List Int), 0))) else (none))) else (none)) else (none)))) else (none))) else (some (49699, bt615.1, bt615.2.1, ([] : List (S57)), 0, 0, ([] : List Int), ([] : List Int), bt615.2.2.1, ([] : List Int), 0)))) else (some (0, 0, 0, ([] : List (S57)), 0, 0, ([] : List Int), ([] : List Int), ([] : List Int), ([] : List Int), bt615.2.2.2)))
def chap_Get.T15 : Bool × List (List Nat × List Nat) := (true, [([], []), ([], []), ([0, 1], [0, 1]), ([2], [2]), ([], []), ([], []), ([4, 5], [4, 5]), ([6, 3], [6]), ([0, 1, 2, 3], []), ([8, 3, 7, 0, 1, 2, 3], [3, 8]), ([0, 1, 2, 3, 4, 5, 6, 7, 8, 9], []), ([10, 7, 9, 0, 1, 2, 3, 4, 5, 6, 7, 8, 9], [7, 10])])
def chap_Get.B15 : List Nat := [0, 0, 3, 7, 0, 0, 48, 127, 15, 511, 1023, 2047]
theorem chap_Get.tab15 : rtab .any (opsOf Try.f38 15) = chap_Get.T15 := by kernel_rfl
theorem chap_Get.bits15 : waitsOk chap_Get.T15.2 chap_Get.B15 = true := by kernel_rfl
set_option maxHeartbeats 8000000 in
set_option maxRecDepth 100000 in
theorem chap_Get.calls (k : Nat) (A0 : Option Addr) (c0 : Nat) (l0 : List Int) (r1 : Int) (r2 : Int) (r3 : Int) (r4 : List (S57)) (r5 : Int) (r6 : Int) (r7 : List Int) (r8 : List Int) (r9 : List Int) (r10 : List Int) (r11 : Int) (w : World) (hr0 : Kd.C (Kd.int .u8) w A0 l0.length l0) (hc0 : l0.length ≤ c0) (h : chap_Get.f k l0 = some (r1, r2, r3, r4, r5, r6, r7, r8, r9, r10, r11)) :
 Calls Try.prog 38 #[.slice A0 l0.length c0] w fun e w' => ∃ v3_ v6_ v7_ v8_ v9_ : Value, e = .returned (.tuple #[.agg #[.int .u16 r1, .int .u8 r2, .int .u8 r3, v3_, .int .u16 r5, .int .u32 r6, v6_, v7_, v8_, v9_], .int .i64 r11]) ∧ Kd.S k57 57 w' w.heap.size (fun k_ => some k_ ≠ (v6_ : Value).ownBlock ∧ some k_ ≠ (v7_ : Value).ownBlock ∧ some k_ ≠ (v8_ : Value).ownBlock) v3_ r4 ∧ Kd.R (Kd.int .u8) 5 w' w.heap.size (fun k_ => some k_ ≠ (v7_ : Value).ownBlock ∧ some k_ ≠ (v8_ : Value).ownBlock) v6_ r7 ∧ Kd.R (Kd.int .u8) 5 w' w.heap.size (fun k_ => some k_ ≠ (v6_ : Value).ownBlock ∧ some k_ ≠ (v8_ : Value).ownBlock) v7_ r8 ∧ Kd.R (Kd.int .u8) 5 w' w.heap.size (fun k_ => some k_ ≠ (v6_ : Value).ownBlock ∧ some k_ ≠ (v7_ : Value).ownBlock) v8_ r9 ∧ Kd.R (Kd.int .u32) 41 w' w.heap.size (fun _ => True) v9_ r10 ∧ Below w.heap.size w w' := by
 have hu47 := Try.underlying47
 have HR0 := Aside0.mk hr0
 have HC0 := Aside0.mk hc0
 clear hr0 hc0
 have HB := Aside0.mk (Below.refl w.heap.size w)
 have H : ((ctl_Get.f k l0).bind fun bt615 => (if bt615.2.2.2 = 0 then ((chap_valued.f bt615.1).bind fun t622 => (if t622 = true then (if (bt615.2.2.1.length : Int) = 0 then (some (0, 0, 0, ([] : List (S57)), 0, 0, ([] : List Int), ([] : List Int), ([] : List Int), ([] : List Int), 2)) else (if 0 < (bt615.2.2.1.length : Int) then (if (rd bt615.2.2.1 0) = 0 then (some (0, 0, 0, ([] : List (S57)), 0, 0, ([] : List Int), ([] : List Int), ([] : List Int), ([] : List Int), 4)) else (if (wrap64 (1 + (wrap64 (rd bt615.2.2.1 0)))) > (bt615.2.2.1.length : Int) then (some (0, 0, 0, ([] : List (S57)), 0, 0, ([] : List Int), ([] : List Int), ([] : List Int), ([] : List Int), 2)) else (if 1 ≤ (wrap64 (1 + (wrap64 (rd bt615.2.2.1 0)))) then (if (wrap64 (1 + (wrap64 (rd bt615.2.2.1 0)))) ≤ (bt615.2.2.1.length : Int) then ((slices_Clone_byte_byte.f ((bt615.2.2.1.take ((wrap64 (1 + (wrap64 (rd bt615.2.2.1 0)))) : Int).toNat).drop 1)).bind fun t629 => (if 0 ≤ (wrap64 (1 + (wrap64 (rd bt615.2.2.1 0)))) then ((slices_Clone_byte_byte.f (bt615.2.2.1.drop ((wrap64 (1 + (wrap64 (rd bt615.2.2.1 0)))) : Int).toNat)).bind fun t636 => (some (49699, bt615.1, bt615.2.1, ([] : List (S57)), 0, 0, t629, t636, ([] : List Int), ([] : List Int), 0))) else (none))) else (none)) else (none)))) else (none))) else (some (49699, bt615.1, bt615.2.1, ([] : List (S57)), 0, 0, ([] : List Int), ([] : List Int), bt615.2.2.1, ([] : List Int), 0)))) else (some (0, 0, 0, ([] : List (S57)), 0, 0, ([] : List Int), ([] : List Int), ([] : List Int), ([] : List Int), bt615.2.2.2)))) = some (r1, r2, r3, r4, r5, r6, r7, r8, r9, r10, r11) := h
 clear h
 replace H := Option.bind_eq_some_iff.mp H
 obtain ⟨⟨t615, t616, t617, t618⟩, A20, H⟩ := H
 replace H : (if t618 = 0 then ((chap_valued.f t615).bind fun t622 => (if t622 = true then (if (t617.length : Int) = 0 then (some (0, 0, 0, ([] : List (S57)), 0, 0, ([] : List Int), ([] : List Int), ([] : List Int), ([] : List Int), 2)) else (if 0 < (t617.length : Int) then (if (rd t617 0) = 0 then (some (0, 0, 0, ([] : List (S57)), 0, 0, ([] : List Int), ([] : List Int), ([] : List Int), ([] : List Int), 4)) else (if (wrap64 (1 + (wrap64 (rd t617 0)))) > (t617.length : Int) then (some (0, 0, 0, ([] : List (S57)), 0, 0, ([] : List Int), ([] : List Int), ([] : List Int), ([] : List Int), 2)) else (if 1 ≤ (wrap64 (1 + (wrap64 (rd t617 0)))) then (if (wrap64 (1 + (wrap64 (rd t617 0)))) ≤ (t617.length : Int) then ((slices_Clone_byte_byte.f ((t617.take ((wrap64 (1 + (wrap64 (rd t617 0)))) : Int).toNat).drop 1)).bind fun t629 => (if 0 ≤ (wrap64 (1 + (wrap64 (rd t617 0)))) then ((slices_Clone_byte_byte.f (t617.drop ((wrap64 (1 + (wrap64 (rd t617 0)))) : Int).toNat)).bind fun t636 => (some (49699, t615, t616, ([] : List (S57)), 0, 0, t629, t636, ([] : List Int), ([] : List Int), 0))) else (none))) else (none)) else (none)))) else (none))) else (some (49699, t615, t616, ([] : List (S57)), 0, 0, ([] : List Int), ([] : List Int), t617, ([] : List Int), 0)))) else (some (0, 0, 0, ([] : List (S57)), 0, 0, ([] : List Int), ([] : List Int), ([] : List Int), ([] : List Int), t618))) = some (r1, r2, r3, r4, r5, r6, r7, r8, r9, r10, r11) := H
 have A2 := Aside0.mk A20
 clear A20
 by_cases c3 : t618 = 0
 · rw [if_pos c3] at H
   have c3b0 : (t618 == 0) = true := beq_iff_eq.mpr c3
   have c3b1 : (t618 != 0) = false := bne_eq_false_iff_eq.mpr c3
   clear c3
   replace H := Option.bind_eq_some_iff.mp H
   obtain ⟨t622, A40, H⟩ := H
   replace H : (if t622 = true then (if (t617.length : Int) = 0 then (some (0, 0, 0, ([] : List (S57)), 0, 0, ([] : List Int), ([] : List Int), ([] : List Int), ([] : List Int), 2)) else (if 0 < (t617.length : Int) then (if (rd t617 0) = 0 then (some (0, 0, 0, ([] : List (S57)), 0, 0, ([] : List Int), ([] : List Int), ([] : List Int), ([] : List Int), 4)) else (if (wrap64 (1 + (wrap64 (rd t617 0)))) > (t617.length : Int) then (some (0, 0, 0, ([] : List (S57)), 0, 0, ([] : List Int), ([] : List Int), ([] : List Int), ([] : List Int), 2)) else (if 1 ≤ (wrap64 (1 + (wrap64 (rd t617 0)))) then (if (wrap64 (1 + (wrap64 (rd t617 0)))) ≤ (t617.length : Int) then ((slices_Clone_byte_byte.f ((t617.take ((wrap64 (1 + (wrap64 (rd t617 0)))) : Int).toNat).drop 1)).bind fun t629 => (if 0 ≤ (wrap64 (1 + (wrap64 (rd t617 0)))) then ((slices_Clone_byte_byte.f (t617.drop ((wrap64 (1 + (wrap64 (rd t617 0)))) : Int).toNat)).bind fun t636 => (some (49699, t615, t616, ([] : List (S57)), 0, 0, t629, t636, ([] : List Int), ([] : List Int), 0))) else (none))) else (none)) else (none)))) else (none))) else (some (49699, t615, t616, ([] : List (S57)), 0, 0, ([] : List Int), ([] : List Int), t617, ([] : List Int), 0))) = some (r1, r2, r3, r4, r5, r6, r7, r8, r9, r10, r11) := H
   have A4 := Aside0.mk A40
   clear A40
   by_cases c5 : t622 = true
   · subst c5
     have H1 : (if (t617.length : Int) = 0 then (some (0, 0, 0, ([] : List (S57)), 0, 0, ([] : List Int), ([] : List Int), ([] : List Int), ([] : List Int), 2)) else (if 0 < (t617.length : Int) then (if (rd t617 0) = 0 then (some (0, 0, 0, ([] : List (S57)), 0, 0, ([] : List Int), ([] : List Int), ([] : List Int), ([] : List Int), 4)) else (if (wrap64 (1 + (wrap64 (rd t617 0)))) > (t617.length : Int) then (some (0, 0, 0, ([] : List (S57)), 0, 0, ([] : List Int), ([] : List Int), ([] : List Int), ([] : List Int), 2)) else (if 1 ≤ (wrap64 (1 + (wrap64 (rd t617 0)))) then (if (wrap64 (1 + (wrap64 (rd t617 0)))) ≤ (t617.length : Int) then ((slices_Clone_byte_byte.f ((t617.take ((wrap64 (1 + (wrap64 (rd t617 0)))) : Int).toNat).drop 1)).bind fun t629 => (if 0 ≤ (wrap64 (1 + (wrap64 (rd t617 0)))) then ((slices_Clone_byte_byte.f (t617.drop ((wrap64 (1 + (wrap64 (rd t617 0)))) : Int).toNat)).bind fun t636 => (some (49699, t615, t616, ([] : List (S57)), 0, 0, t629, t636, ([] : List Int), ([] : List Int), 0))) else (none))) else (none)) else (none)))) else (none))) = some (r1, r2, r3, r4, r5, r6, r7, r8, r9, r10, r11) := by rw [if_pos rfl] at H; exact H
     clear H
     have H := H1
     clear H1
     by_cases c6 : (t617.length : Int) = 0
     · rw [if_pos c6] at H
       have c6b0 : ((t617.length : Int) == 0) = true := beq_iff_eq.mpr c6
       have c6b1 : ((t617.length : Int) != 0) = false := bne_eq_false_iff_eq.mpr c6
       clear c6
       simp only [Option.some.injEq, Prod.mk.injEq] at H
       obtain ⟨rfl, rfl, rfl, rfl, rfl, rfl, rfl, rfl, rfl, rfl, rfl⟩ := H
       go_enter Try.func38, Try.ntmps38
       go_wp2_with (first | ((with_reducible refine gate_dst (N := 2) rfl ?_); refine box_event ?hg (N := 2) ?hd (cs := #[.int .u16 0, .int .u8 0, .int .u8 0, .slice none 0 0, .int .u16 0, .int .u32 0, .slice none 0 0, .slice none 0 0, .slice none 0 0, .slice none 0 0]) (t := 47) ?hr ?_; (case hd => rfl); (case hg => rfl); (case hr => first | (go_simp; done) | (go_simp; simp only [IntKind.wrap_u8, IntKind.wrap_u16, IntKind.wrap_u32, IntKind.wrap_u64]; done) | (go_simp; rfl)); intro gb614 hg w7 hbox hb; have n0_ := Aside0.mk (below_step (by repeat (first | (with_reducible first | exact HB.out | apply below_alloc | apply pw_below_drewN | apply below_drew1) | exact HB.out)) hb); have n1_ := Aside0.mk (hbox); have n2_ := Aside0.mk ((by rw [hg]; exact (below_size (by repeat (first | (with_reducible first | exact HB.out | apply below_alloc | apply pw_below_drewN | apply below_drew1) | exact HB.out))) : w.heap.size ≤ gb614)); have n3_ := Aside0.mk ((by rw [hg]; exact (below_size (by repeat (first | (with_reducible first | exact HB.out | apply below_alloc | apply pw_below_drewN | apply below_drew1) | exact HB.out))) : w.heap.size ≤ gb614)); clear HB; have HB := n0_; have BK614 := n1_; have GW614 := n2_; have GE614 := n3_; clear n0_ n1_ n2_ n3_; clear hb hbox hg) | ((with_reducible refine gate_callee (f := 53) rfl ?_); refine goesL_ (some 12) rfl rfl Try.func53 (by kernel_rfl) rfl #[.slice A0 l0.length c0] rfl (by (try simp only [List.map_toArray, List.map_cons, List.map_nil]); first | done | rfl | (simp only [List.length_drop, List.length_take]; rfl)) ?_; (with_reducible refine (ctl_Get.calls k _ _ l0 t615 t616 t617 t618 _ ?side1 ?side2 A2.out).mono ?_); (case side1 => repeat (first | exact (Kd.C_below HR0.out HB.out) | (with_reducible refine Kd.C_alloc ?_ _) | (with_reducible refine Kd.C_drewN ?_ _) | (with_reducible refine Kd.C_drew ?_))); (case side2 => exact HC0.out); rintro e w8 ⟨v619, rfl, ho0, hb⟩; refine ⟨_, rfl, ?_⟩; have n0_ := Aside0.mk (Kd.R_lower ho0 (below_size (by repeat (first | (with_reducible first | exact HB.out | apply below_alloc | apply pw_below_drewN | apply below_drew1 | refine below_set ?_ GE614.out) | exact HB.out)))); have n1_ := Aside0.mk (blk_below (g := gb614) (o := .cells #[.int .u16 0, .int .u8 0, .int .u8 0, .slice none 0 0, .int .u16 0, .int .u32 0, .slice none 0 0, .slice none 0 0, .slice none 0 0, .slice none 0 0] 47 (0, 0)) (by (with_reducible repeat (first | refine blk_drewN ?_ _ | refine blk_drew ?_ | refine blk_alloc ?_ _)); exact BK614.out) hb); have n2_ := Aside0.mk (below_step (by repeat (first | (with_reducible first | exact HB.out | apply below_alloc | apply pw_below_drewN | apply below_drew1 | refine below_set ?_ GE614.out) | exact HB.out)) hb); clear BK614; clear HB; have HO620 := n0_; have BK614 := n1_; have HB := n2_; clear n0_ n1_ n2_; (try clear hb); (try clear hb2); (try clear hk); (try clear hi); (try clear ho0)) | ((with_reducible refine gate_dst (N := 8) rfl ?_); refine box_event ?hg (N := 8) ?hd (cs := #[.int .u16 0, .int .u8 0, .int .u8 0, .slice none 0 0, .int .u16 0, .int .u32 0, .slice none 0 0, .slice none 0 0, .slice none 0 0, .slice none 0 0]) (t := 47) ?hr ?_; (case hd => rfl); (case hg => rfl); (case hr => first | (go_simp; done) | (go_simp; simp only [IntKind.wrap_u8, IntKind.wrap_u16, IntKind.wrap_u32, IntKind.wrap_u64]; done) | (go_simp; rfl)); intro gb621 hg w9 hbox hb; have n0_ := Aside0.mk (Kd.R_below (by (with_reducible repeat (first | apply Kd.R_alloc | apply Kd.R_drewN | apply Kd.R_drew)); exact HO620.out) hb); have n1_ := Aside0.mk (blk_below (g := gb614) (o := .cells #[.int .u16 0, .int .u8 0, .int .u8 0, .slice none 0 0, .int .u16 0, .int .u32 0, .slice none 0 0, .slice none 0 0, .slice none 0 0, .slice none 0 0] 47 (0, 0)) (by (with_reducible repeat (first | refine blk_drewN ?_ _ | refine blk_drew ?_ | refine blk_alloc ?_ _)); exact BK614.out) hb); have n2_ := Aside0.mk (below_step (by repeat (first | (with_reducible first | exact HB.out | apply below_alloc | apply pw_below_drewN | apply below_drew1 | refine below_set ?_ GE614.out) | exact HB.out)) hb); have n3_ := Aside0.mk (hbox); have n4_ := Aside0.mk ((by rw [hg]; exact (below_size (by repeat (first | (with_reducible first | exact HB.out | apply below_alloc | apply pw_below_drewN | apply below_drew1 | refine below_set ?_ GE614.out) | exact HB.out))) : w.heap.size ≤ gb621)); have n5_ := Aside0.mk ((by rw [hg]; exact (below_size (by repeat (first | (with_reducible first | exact HB.out | apply below_alloc | apply pw_below_drewN | apply below_drew1 | refine below_set ?_ GE614.out) | exact HB.out))) : w.heap.size ≤ gb621)); have n6_ := Aside0.mk ((by rw [hg]; exact Nat.ne_of_lt (blk_lt (g := gb614) (o := .cells #[.int .u16 0, .int .u8 0, .int .u8 0, .slice none 0 0, .int .u16 0, .int .u32 0, .slice none 0 0, .slice none 0 0, .slice none 0 0, .slice none 0 0] 47 (0, 0)) (by (with_reducible repeat (first | refine blk_drewN ?_ _ | refine blk_drew ?_ | refine blk_alloc ?_ _)); exact BK614.out)) : gb614 ≠ gb621)); have n7_ := Aside0.mk ((by rw [hg]; exact Nat.ne_of_gt (blk_lt (g := gb614) (o := .cells #[.int .u16 0, .int .u8 0, .int .u8 0, .slice none 0 0, .int .u16 0, .int .u32 0, .slice none 0 0, .slice none 0 0, .slice none 0 0, .slice none 0 0] 47 (0, 0)) (by (with_reducible repeat (first | refine blk_drewN ?_ _ | refine blk_drew ?_ | refine blk_alloc ?_ _)); exact BK614.out)) : gb621 ≠ gb614)); clear HO620; clear BK614; clear HB; have HO620 := n0_; have BK614 := n1_; have HB := n2_; have BK621 := n3_; have GW621 := n4_; have GE621 := n5_; have NB614_621 := n6_; have NB621_614 := n7_; clear n0_ n1_ n2_ n3_ n4_ n5_ n6_ n7_; clear hb hbox hg; have hnb10 := NB621_614.out; have hnc10 := NB614_621.out; have hcz11_0 : w9.cell? ⟨gb621, 0, none⟩ = some (.int .u16 0) := (blk_cell BK621.out 0).trans rfl; have hcz11_1 : w9.cell? ⟨gb621, 1, none⟩ = some (.int .u8 0) := (blk_cell BK621.out 1).trans rfl; have hcz11_2 : w9.cell? ⟨gb621, 2, none⟩ = some (.int .u8 0) := (blk_cell BK621.out 2).trans rfl; have hcz11_3 : w9.cell? ⟨gb621, 3, none⟩ = some (.slice none 0 0) := (blk_cell BK621.out 3).trans rfl; have hcz11_4 : w9.cell? ⟨gb621, 4, none⟩ = some (.int .u16 0) := (blk_cell BK621.out 4).trans rfl; have hcz11_5 : w9.cell? ⟨gb621, 5, none⟩ = some (.int .u32 0) := (blk_cell BK621.out 5).trans rfl; have hcz11_6 : w9.cell? ⟨gb621, 6, none⟩ = some (.slice none 0 0) := (blk_cell BK621.out 6).trans rfl; have hcz11_7 : w9.cell? ⟨gb621, 7, none⟩ = some (.slice none 0 0) := (blk_cell BK621.out 7).trans rfl; have hcz11_8 : w9.cell? ⟨gb621, 8, none⟩ = some (.slice none 0 0) := (blk_cell BK621.out 8).trans rfl; have hcz11_9 : w9.cell? ⟨gb621, 9, none⟩ = some (.slice none 0 0) := (blk_cell BK621.out 9).trans rfl; have hfz11_0 := blk_frozen BK621.out 0; have hfz11_1 := blk_frozen BK621.out 1; have hfz11_2 := blk_frozen BK621.out 2; have hfz11_3 := blk_frozen BK621.out 3; have hfz11_4 := blk_frozen BK621.out 4; have hfz11_5 := blk_frozen BK621.out 5; have hfz11_6 := blk_frozen BK621.out 6; have hfz11_7 := blk_frozen BK621.out 7; have hfz11_8 := blk_frozen BK621.out 8; have hfz11_9 := blk_frozen BK621.out 9) | ((with_reducible refine gate_callee (f := 57) rfl ?_); have n0_ : Aside0 (Kd.R (Kd.int .u8) 5 ((((((((((w9.setCell ⟨gb621, 0, none⟩ (.int .u16 49699)).setCell ⟨gb621, 1, none⟩ (.int .u8 t615)).setCell ⟨gb621, 2, none⟩ (.int .u8 t616)).setCell ⟨gb621, 3, none⟩ (.slice none 0 0)).setCell ⟨gb621, 4, none⟩ (.int .u16 0)).setCell ⟨gb621, 5, none⟩ (.int .u32 0)).setCell ⟨gb621, 6, none⟩ (.slice none 0 0)).setCell ⟨gb621, 7, none⟩ (.slice none 0 0)).setCell ⟨gb621, 8, none⟩ (.slice none 0 0)).setCell ⟨gb621, 9, none⟩ (.slice none 0 0)) w.heap.size (fun _ => True) v619 t617) := ⟨by (with_reducible repeat (first | apply Kd.R_alloc | apply Kd.R_drewN | apply Kd.R_drew)); exact Kd.R_mono (Kd.R_far (p := ⟨gb621, 9, none⟩) (Kd.R_far (p := ⟨gb621, 8, none⟩) (Kd.R_far (p := ⟨gb621, 7, none⟩) (Kd.R_far (p := ⟨gb621, 6, none⟩) (Kd.R_far (p := ⟨gb621, 5, none⟩) (Kd.R_far (p := ⟨gb621, 4, none⟩) (Kd.R_far (p := ⟨gb621, 3, none⟩) (Kd.R_far (p := ⟨gb621, 2, none⟩) (Kd.R_far (p := ⟨gb621, 1, none⟩) (Kd.R_far (p := ⟨gb621, 0, none⟩) (Kd.R_types HO620.out BK621.out (by decide)) (fun _ hk => hk.2) (.int .u16 49699)) (fun _ hk => hk.2) (.int .u8 t615)) (fun _ hk => hk.2) (.int .u8 t616)) (fun _ hk => hk.2) (.slice none 0 0)) (fun _ hk => hk.2) (.int .u16 0)) (fun _ hk => hk.2) (.int .u32 0)) (fun _ hk => hk.2) (.slice none 0 0)) (fun _ hk => hk.2) (.slice none 0 0)) (fun _ hk => hk.2) (.slice none 0 0)) (fun _ hk => hk.2) (.slice none 0 0)) (fun _ hk => trivial)⟩; have n1_ : Aside0 (((((((((((w9.setCell ⟨gb621, 0, none⟩ (.int .u16 49699)).setCell ⟨gb621, 1, none⟩ (.int .u8 t615)).setCell ⟨gb621, 2, none⟩ (.int .u8 t616)).setCell ⟨gb621, 3, none⟩ (.slice none 0 0)).setCell ⟨gb621, 4, none⟩ (.int .u16 0)).setCell ⟨gb621, 5, none⟩ (.int .u32 0)).setCell ⟨gb621, 6, none⟩ (.slice none 0 0)).setCell ⟨gb621, 7, none⟩ (.slice none 0 0)).setCell ⟨gb621, 8, none⟩ (.slice none 0 0)).setCell ⟨gb621, 9, none⟩ (.slice none 0 0)).heap[gb614]? = some (.cells #[.int .u16 0, .int .u8 0, .int .u8 0, .slice none 0 0, .int .u16 0, .int .u32 0, .slice none 0 0, .slice none 0 0, .slice none 0 0, .slice none 0 0] 47 (0, 0))) := ⟨by (with_reducible repeat (first | refine blk_drewN ?_ _ | refine blk_drew ?_ | refine blk_alloc ?_ _)); refine blk_far ?_ NB614_621.out _; (with_reducible repeat (first | refine blk_drewN ?_ _ | refine blk_drew ?_ | refine blk_alloc ?_ _)); refine blk_far ?_ NB614_621.out _; (with_reducible repeat (first | refine blk_drewN ?_ _ | refine blk_drew ?_ | refine blk_alloc ?_ _)); refine blk_far ?_ NB614_621.out _; (with_reducible repeat (first | refine blk_drewN ?_ _ | refine blk_drew ?_ | refine blk_alloc ?_ _)); refine blk_far ?_ NB614_621.out _; (with_reducible repeat (first | refine blk_drewN ?_ _ | refine blk_drew ?_ | refine blk_alloc ?_ _)); refine blk_far ?_ NB614_621.out _; (with_reducible repeat (first | refine blk_drewN ?_ _ | refine blk_drew ?_ | refine blk_alloc ?_ _)); refine blk_far ?_ NB614_621.out _; (with_reducible repeat (first | refine blk_drewN ?_ _ | refine blk_drew ?_ | refine blk_alloc ?_ _)); refine blk_far ?_ NB614_621.out _; (with_reducible repeat (first | refine blk_drewN ?_ _ | refine blk_drew ?_ | refine blk_alloc ?_ _)); refine blk_far ?_ NB614_621.out _; (with_reducible repeat (first | refine blk_drewN ?_ _ | refine blk_drew ?_ | refine blk_alloc ?_ _)); refine blk_far ?_ NB614_621.out _; (with_reducible repeat (first | refine blk_drewN ?_ _ | refine blk_drew ?_ | refine blk_alloc ?_ _)); refine blk_far ?_ NB614_621.out _; (with_reducible repeat (first | refine blk_drewN ?_ _ | refine blk_drew ?_ | refine blk_alloc ?_ _)); exact BK614.out⟩; have n2_ : Aside0 (((((((((((w9.setCell ⟨gb621, 0, none⟩ (.int .u16 49699)).setCell ⟨gb621, 1, none⟩ (.int .u8 t615)).setCell ⟨gb621, 2, none⟩ (.int .u8 t616)).setCell ⟨gb621, 3, none⟩ (.slice none 0 0)).setCell ⟨gb621, 4, none⟩ (.int .u16 0)).setCell ⟨gb621, 5, none⟩ (.int .u32 0)).setCell ⟨gb621, 6, none⟩ (.slice none 0 0)).setCell ⟨gb621, 7, none⟩ (.slice none 0 0)).setCell ⟨gb621, 8, none⟩ (.slice none 0 0)).setCell ⟨gb621, 9, none⟩ (.slice none 0 0)).heap[gb621]? = some (.cells #[.int .u16 49699, .int .u8 t615, .int .u8 t616, .slice none 0 0, .int .u16 0, .int .u32 0, .slice none 0 0, .slice none 0 0, .slice none 0 0, .slice none 0 0] 47 (0, 0))) := ⟨by (with_reducible repeat (first | refine blk_drewN ?_ _ | refine blk_drew ?_ | refine blk_alloc ?_ _)); refine blk_put (cs := #[.int .u16 49699, .int .u8 t615, .int .u8 t616, .slice none 0 0, .int .u16 0, .int .u32 0, .slice none 0 0, .slice none 0 0, .slice none 0 0, .slice none 0 0]) ?_ 9 _ rfl; (with_reducible repeat (first | refine blk_drewN ?_ _ | refine blk_drew ?_ | refine blk_alloc ?_ _)); refine blk_put (cs := #[.int .u16 49699, .int .u8 t615, .int .u8 t616, .slice none 0 0, .int .u16 0, .int .u32 0, .slice none 0 0, .slice none 0 0, .slice none 0 0, .slice none 0 0]) ?_ 8 _ rfl; (with_reducible repeat (first | refine blk_drewN ?_ _ | refine blk_drew ?_ | refine blk_alloc ?_ _)); refine blk_put (cs := #[.int .u16 49699, .int .u8 t615, .int .u8 t616, .slice none 0 0, .int .u16 0, .int .u32 0, .slice none 0 0, .slice none 0 0, .slice none 0 0, .slice none 0 0]) ?_ 7 _ rfl; (with_reducible repeat (first | refine blk_drewN ?_ _ | refine blk_drew ?_ | refine blk_alloc ?_ _)); refine blk_put (cs := #[.int .u16 49699, .int .u8 t615, .int .u8 t616, .slice none 0 0, .int .u16 0, .int .u32 0, .slice none 0 0, .slice none 0 0, .slice none 0 0, .slice none 0 0]) ?_ 6 _ rfl; (with_reducible repeat (first | refine blk_drewN ?_ _ | refine blk_drew ?_ | refine blk_alloc ?_ _)); refine blk_put (cs := #[.int .u16 49699, .int .u8 t615, .int .u8 t616, .slice none 0 0, .int .u16 0, .int .u32 0, .slice none 0 0, .slice none 0 0, .slice none 0 0, .slice none 0 0]) ?_ 5 _ rfl; (with_reducible repeat (first | refine blk_drewN ?_ _ | refine blk_drew ?_ | refine blk_alloc ?_ _)); refine blk_put (cs := #[.int .u16 49699, .int .u8 t615, .int .u8 t616, .slice none 0 0, .int .u16 0, .int .u32 0, .slice none 0 0, .slice none 0 0, .slice none 0 0, .slice none 0 0]) ?_ 4 _ rfl; (with_reducible repeat (first | refine blk_drewN ?_ _ | refine blk_drew ?_ | refine blk_alloc ?_ _)); refine blk_put (cs := #[.int .u16 49699, .int .u8 t615, .int .u8 t616, .slice none 0 0, .int .u16 0, .int .u32 0, .slice none 0 0, .slice none 0 0, .slice none 0 0, .slice none 0 0]) ?_ 3 _ rfl; (with_reducible repeat (first | refine blk_drewN ?_ _ | refine blk_drew ?_ | refine blk_alloc ?_ _)); refine blk_put (cs := #[.int .u16 49699, .int .u8 t615, .int .u8 0, .slice none 0 0, .int .u16 0, .int .u32 0, .slice none 0 0, .slice none 0 0, .slice none 0 0, .slice none 0 0]) ?_ 2 _ rfl; (with_reducible repeat (first | refine blk_drewN ?_ _ | refine blk_drew ?_ | refine blk_alloc ?_ _)); refine blk_put (cs := #[.int .u16 49699, .int .u8 0, .int .u8 0, .slice none 0 0, .int .u16 0, .int .u32 0, .slice none 0 0, .slice none 0 0, .slice none 0 0, .slice none 0 0]) ?_ 1 _ rfl; (with_reducible repeat (first | refine blk_drewN ?_ _ | refine blk_drew ?_ | refine blk_alloc ?_ _)); refine blk_put (cs := #[.int .u16 0, .int .u8 0, .int .u8 0, .slice none 0 0, .int .u16 0, .int .u32 0, .slice none 0 0, .slice none 0 0, .slice none 0 0, .slice none 0 0]) ?_ 0 _ rfl; (with_reducible repeat (first | refine blk_drewN ?_ _ | refine blk_drew ?_ | refine blk_alloc ?_ _)); exact BK621.out⟩; have n3_ : Aside0 (Below w.heap.size w ((((((((((w9.setCell ⟨gb621, 0, none⟩ (.int .u16 49699)).setCell ⟨gb621, 1, none⟩ (.int .u8 t615)).setCell ⟨gb621, 2, none⟩ (.int .u8 t616)).setCell ⟨gb621, 3, none⟩ (.slice none 0 0)).setCell ⟨gb621, 4, none⟩ (.int .u16 0)).setCell ⟨gb621, 5, none⟩ (.int .u32 0)).setCell ⟨gb621, 6, none⟩ (.slice none 0 0)).setCell ⟨gb621, 7, none⟩ (.slice none 0 0)).setCell ⟨gb621, 8, none⟩ (.slice none 0 0)).setCell ⟨gb621, 9, none⟩ (.slice none 0 0))) := ⟨by repeat (first | (with_reducible first | exact HB.out | apply below_alloc | apply pw_below_drewN | apply below_drew1 | refine below_set ?_ GE614.out | refine below_set ?_ GE621.out) | exact HB.out)⟩; (try clear HO620); (try clear BK614); (try clear BK621); (try clear HB); generalize ((((((((((w9.setCell ⟨gb621, 0, none⟩ (.int .u16 49699)).setCell ⟨gb621, 1, none⟩ (.int .u8 t615)).setCell ⟨gb621, 2, none⟩ (.int .u8 t616)).setCell ⟨gb621, 3, none⟩ (.slice none 0 0)).setCell ⟨gb621, 4, none⟩ (.int .u16 0)).setCell ⟨gb621, 5, none⟩ (.int .u32 0)).setCell ⟨gb621, 6, none⟩ (.slice none 0 0)).setCell ⟨gb621, 7, none⟩ (.slice none 0 0)).setCell ⟨gb621, 8, none⟩ (.slice none 0 0)).setCell ⟨gb621, 9, none⟩ (.slice none 0 0)) = w12 at n0_ n1_ n2_ n3_ ⊢; have HO620 := n0_; have BK614 := n1_; have BK621 := n2_; have HB := n3_; clear n0_ n1_ n2_ n3_; refine goesL_ (some 27) rfl rfl Try.func57 (by kernel_rfl) rfl #[.int .u8 t615] rfl (by (try simp only [List.map_toArray, List.map_cons, List.map_nil]); first | done | rfl | (simp only [List.length_drop, List.length_take]; rfl)) ?_; (with_reducible refine (chap_valued.calls t615 true _ A4.out).mono ?_); rintro e w' ⟨rfl, ⟨nd, rfl⟩⟩; refine ⟨_, rfl, ?_⟩; (try (rw [drewN_self w12]; generalize hq_ : World.drewN w12 _ = w12; have n0_ : Aside0 (Kd.R (Kd.int .u8) 5 w12 w.heap.size (fun _ => True) v619 t617) := ⟨by rw [← hq_]; exact (by (with_reducible repeat (first | apply Kd.R_alloc | apply Kd.R_drewN | apply Kd.R_drew)); exact HO620.out)⟩; have n1_ : Aside0 (w12.heap[gb614]? = some (.cells #[.int .u16 0, .int .u8 0, .int .u8 0, .slice none 0 0, .int .u16 0, .int .u32 0, .slice none 0 0, .slice none 0 0, .slice none 0 0, .slice none 0 0] 47 (0, 0))) := ⟨by rw [← hq_]; exact (by (with_reducible repeat (first | refine blk_drewN ?_ _ | refine blk_drew ?_ | refine blk_alloc ?_ _)); exact BK614.out)⟩; have n2_ : Aside0 (w12.heap[gb621]? = some (.cells #[.int .u16 49699, .int .u8 t615, .int .u8 t616, .slice none 0 0, .int .u16 0, .int .u32 0, .slice none 0 0, .slice none 0 0, .slice none 0 0, .slice none 0 0] 47 (0, 0))) := ⟨by rw [← hq_]; exact (by (with_reducible repeat (first | refine blk_drewN ?_ _ | refine blk_drew ?_ | refine blk_alloc ?_ _)); exact BK621.out)⟩; have n3_ : Aside0 (Below w.heap.size w w12) := ⟨by rw [← hq_]; exact (by repeat (first | (with_reducible first | exact HB.out | apply below_alloc | apply pw_below_drewN | apply below_drew1 | refine below_set ?_ GE614.out | refine below_set ?_ GE621.out) | exact HB.out))⟩; clear HO620 BK614 BK621 HB hq_; have HO620 := n0_; have BK614 := n1_; have BK621 := n2_; have HB := n3_; clear n0_ n1_ n2_ n3_)); obtain ⟨Ao13, co13, eo13⟩ := Kd.R_slice HO620.out; subst eo13; have hcz14_0 : w12.cell? ⟨gb614, 0, none⟩ = some (.int .u16 0) := (blk_cell BK614.out 0).trans rfl; have hcz14_1 : w12.cell? ⟨gb614, 1, none⟩ = some (.int .u8 0) := (blk_cell BK614.out 1).trans rfl; have hcz14_2 : w12.cell? ⟨gb614, 2, none⟩ = some (.int .u8 0) := (blk_cell BK614.out 2).trans rfl; have hcz14_3 : w12.cell? ⟨gb614, 3, none⟩ = some (.slice none 0 0) := (blk_cell BK614.out 3).trans rfl; have hcz14_4 : w12.cell? ⟨gb614, 4, none⟩ = some (.int .u16 0) := (blk_cell BK614.out 4).trans rfl; have hcz14_5 : w12.cell? ⟨gb614, 5, none⟩ = some (.int .u32 0) := (blk_cell BK614.out 5).trans rfl; have hcz14_6 : w12.cell? ⟨gb614, 6, none⟩ = some (.slice none 0 0) := (blk_cell BK614.out 6).trans rfl; have hcz14_7 : w12.cell? ⟨gb614, 7, none⟩ = some (.slice none 0 0) := (blk_cell BK614.out 7).trans rfl; have hcz14_8 : w12.cell? ⟨gb614, 8, none⟩ = some (.slice none 0 0) := (blk_cell BK614.out 8).trans rfl; have hcz14_9 : w12.cell? ⟨gb614, 9, none⟩ = some (.slice none 0 0) := (blk_cell BK614.out 9).trans rfl; have hfz14_0 := blk_frozen BK614.out 0; have hfz14_1 := blk_frozen BK614.out 1; have hfz14_2 := blk_frozen BK614.out 2; have hfz14_3 := blk_frozen BK614.out 3; have hfz14_4 := blk_frozen BK614.out 4; have hfz14_5 := blk_frozen BK614.out 5; have hfz14_6 := blk_frozen BK614.out 6; have hfz14_7 := blk_frozen BK614.out 7; have hfz14_8 := blk_frozen BK614.out 8; have hfz14_9 := blk_frozen BK614.out 9))
       refine bodyPost_ret (results_ct rfl _ _ gb614 47 #[.int .u16 0, .int .u8 0, .int .u8 0, .slice none 0 0, .int .u16 0, .int .u32 0, .slice none 0 0, .slice none 0 0, .slice none 0 0, .slice none 0 0] (0, 0) _ rfl (by (with_reducible repeat (first | refine blk_drewN ?_ _ | refine blk_drew ?_ | refine blk_alloc ?_ _)); refine blk_put (cs := #[.int .u16 0, .int .u8 0, .int .u8 0, .slice none 0 0, .int .u16 0, .int .u32 0, .slice none 0 0, .slice none 0 0, .slice none 0 0, .slice none 0 0]) ?_ 9 _ rfl; (with_reducible repeat (first | refine blk_drewN ?_ _ | refine blk_drew ?_ | refine blk_alloc ?_ _)); refine blk_put (cs := #[.int .u16 0, .int .u8 0, .int .u8 0, .slice none 0 0, .int .u16 0, .int .u32 0, .slice none 0 0, .slice none 0 0, .slice none 0 0, .slice none 0 0]) ?_ 8 _ rfl; (with_reducible repeat (first | refine blk_drewN ?_ _ | refine blk_drew ?_ | refine blk_alloc ?_ _)); refine blk_put (cs := #[.int .u16 0, .int .u8 0, .int .u8 0, .slice none 0 0, .int .u16 0, .int .u32 0, .slice none 0 0, .slice none 0 0, .slice none 0 0, .slice none 0 0]) ?_ 7 _ rfl; (with_reducible repeat (first | refine blk_drewN ?_ _ | refine blk_drew ?_ | refine blk_alloc ?_ _)); refine blk_put (cs := #[.int .u16 0, .int .u8 0, .int .u8 0, .slice none 0 0, .int .u16 0, .int .u32 0, .slice none 0 0, .slice none 0 0, .slice none 0 0, .slice none 0 0]) ?_ 6 _ rfl; (with_reducible repeat (first | refine blk_drewN ?_ _ | refine blk_drew ?_ | refine blk_alloc ?_ _)); refine blk_put (cs := #[.int .u16 0, .int .u8 0, .int .u8 0, .slice none 0 0, .int .u16 0, .int .u32 0, .slice none 0 0, .slice none 0 0, .slice none 0 0, .slice none 0 0]) ?_ 5 _ rfl; (with_reducible repeat (first | refine blk_drewN ?_ _ | refine blk_drew ?_ | refine blk_alloc ?_ _)); refine blk_put (cs := #[.int .u16 0, .int .u8 0, .int .u8 0, .slice none 0 0, .int .u16 0, .int .u32 0, .slice none 0 0, .slice none 0 0, .slice none 0 0, .slice none 0 0]) ?_ 4 _ rfl; (with_reducible repeat (first | refine blk_drewN ?_ _ | refine blk_drew ?_ | refine blk_alloc ?_ _)); refine blk_put (cs := #[.int .u16 0, .int .u8 0, .int .u8 0, .slice none 0 0, .int .u16 0, .int .u32 0, .slice none 0 0, .slice none 0 0, .slice none 0 0, .slice none 0 0]) ?_ 3 _ rfl; (with_reducible repeat (first | refine blk_drewN ?_ _ | refine blk_drew ?_ | refine blk_alloc ?_ _)); refine blk_put (cs := #[.int .u16 0, .int .u8 0, .int .u8 0, .slice none 0 0, .int .u16 0, .int .u32 0, .slice none 0 0, .slice none 0 0, .slice none 0 0, .slice none 0 0]) ?_ 2 _ rfl; (with_reducible repeat (first | refine blk_drewN ?_ _ | refine blk_drew ?_ | refine blk_alloc ?_ _)); refine blk_put (cs := #[.int .u16 0, .int .u8 0, .int .u8 0, .slice none 0 0, .int .u16 0, .int .u32 0, .slice none 0 0, .slice none 0 0, .slice none 0 0, .slice none 0 0]) ?_ 1 _ rfl; (with_reducible repeat (first | refine blk_drewN ?_ _ | refine blk_drew ?_ | refine blk_alloc ?_ _)); refine blk_put (cs := #[.int .u16 0, .int .u8 0, .int .u8 0, .slice none 0 0, .int .u16 0, .int .u32 0, .slice none 0 0, .slice none 0 0, .slice none 0 0, .slice none 0 0]) ?_ 0 _ rfl; (with_reducible repeat (first | refine blk_drewN ?_ _ | refine blk_drew ?_ | refine blk_alloc ?_ _)); exact BK614.out) Try.underlying47 rfl (by kernel_rfl)) rfl ?_
       exact ⟨_, _, _, _, _, by first | rfl | (simp [errW_none, errW_some] <;> rfl) | (simp [*, errW_none, errW_some] <;> rfl), by first | exact Kd.S_nil _ _ _ _ _ | exact Kd.N_nil _ _ _ _ _ | exact Kd.V_nil _ _ _ _ _ | exact Kd.Q_nil _ _ _ _ _ | exact Kd.R_nil _ _ _ _ _, by first | exact Kd.R_nil _ _ _ _ _ | exact Kd.N_nil _ _ _ _ _ | exact Kd.V_nil _ _ _ _ _ | exact Kd.Q_nil _ _ _ _ _ | exact Kd.S_nil _ _ _ _ _, by first | exact Kd.R_nil _ _ _ _ _ | exact Kd.N_nil _ _ _ _ _ | exact Kd.V_nil _ _ _ _ _ | exact Kd.Q_nil _ _ _ _ _ | exact Kd.S_nil _ _ _ _ _, by first | exact Kd.R_nil _ _ _ _ _ | exact Kd.N_nil _ _ _ _ _ | exact Kd.V_nil _ _ _ _ _ | exact Kd.Q_nil _ _ _ _ _ | exact Kd.S_nil _ _ _ _ _, by first | exact Kd.R_nil _ _ _ _ _ | exact Kd.N_nil _ _ _ _ _ | exact Kd.V_nil _ _ _ _ _ | exact Kd.Q_nil _ _ _ _ _ | exact Kd.S_nil _ _ _ _ _, by repeat (first | (with_reducible first | exact HB.out | apply below_alloc | apply pw_below_drewN | apply below_drew1 | refine below_set ?_ GE614.out | refine below_set ?_ GE621.out) | exact HB.out)⟩
     · rw [if_neg c6] at H
       have c6b0 : ((t617.length : Int) == 0) = false := beq_eq_false_iff_ne.mpr c6
       have c6b1 : ((t617.length : Int) != 0) = true := bne_iff_ne.mpr c6
       have c6b2 : ¬ (t617 = []) := fun h_ => c6 (by rw [h_]; rfl)
       by_cases c15 : 0 < (t617.length : Int)
       · rw [if_pos c15] at H
         have c15b0 : decide (0 < (t617.length : Int)) = true := decide_eq_true c15
         have c15b1 : decide (0 < t617.length) = true := decide_eq_true (by omega)
         clear c15
         by_cases c16 : (rd t617 0) = 0
         · rw [if_pos c16] at H
           have c16b0 : ((rd t617 0) == 0) = true := beq_iff_eq.mpr c16
           have c16b1 : ((rd t617 0) != 0) = false := bne_eq_false_iff_eq.mpr c16
           clear c16
           simp only [Option.some.injEq, Prod.mk.injEq] at H
           obtain ⟨rfl, rfl, rfl, rfl, rfl, rfl, rfl, rfl, rfl, rfl, rfl⟩ := H
           go_enter Try.func38, Try.ntmps38
           go_wp2_with (first | ((with_reducible refine gate_dst (N := 2) rfl ?_); refine box_event ?hg (N := 2) ?hd (cs := #[.int .u16 0, .int .u8 0, .int .u8 0, .slice none 0 0, .int .u16 0, .int .u32 0, .slice none 0 0, .slice none 0 0, .slice none 0 0, .slice none 0 0]) (t := 47) ?hr ?_; (case hd => rfl); (case hg => rfl); (case hr => first | (go_simp; done) | (go_simp; simp only [IntKind.wrap_u8, IntKind.wrap_u16, IntKind.wrap_u32, IntKind.wrap_u64]; done) | (go_simp; rfl)); intro gb614 hg w17 hbox hb; have n0_ := Aside0.mk (below_step (by repeat (first | (with_reducible first | exact HB.out | apply below_alloc | apply pw_below_drewN | apply below_drew1) | exact HB.out)) hb); have n1_ := Aside0.mk (hbox); have n2_ := Aside0.mk ((by rw [hg]; exact (below_size (by repeat (first | (with_reducible first | exact HB.out | apply below_alloc | apply pw_below_drewN | apply below_drew1) | exact HB.out))) : w.heap.size ≤ gb614)); have n3_ := Aside0.mk ((by rw [hg]; exact (below_size (by repeat (first | (with_reducible first | exact HB.out | apply below_alloc | apply pw_below_drewN | apply below_drew1) | exact HB.out))) : w.heap.size ≤ gb614)); clear HB; have HB := n0_; have BK614 := n1_; have GW614 := n2_; have GE614 := n3_; clear n0_ n1_ n2_ n3_; clear hb hbox hg) | ((with_reducible refine gate_callee (f := 53) rfl ?_); refine goesL_ (some 12) rfl rfl Try.func53 (by kernel_rfl) rfl #[.slice A0 l0.length c0] rfl (by (try simp only [List.map_toArray, List.map_cons, List.map_nil]); first | done | rfl | (simp only [List.length_drop, List.length_take]; rfl)) ?_; (with_reducible refine (ctl_Get.calls k _ _ l0 t615 t616 t617 t618 _ ?side1 ?side2 A2.out).mono ?_); (case side1 => repeat (first | exact (Kd.C_below HR0.out HB.out) | (with_reducible refine Kd.C_alloc ?_ _) | (with_reducible refine Kd.C_drewN ?_ _) | (with_reducible refine Kd.C_drew ?_))); (case side2 => exact HC0.out); rintro e w18 ⟨v619, rfl, ho0, hb⟩; refine ⟨_, rfl, ?_⟩; have n0_ := Aside0.mk (Kd.R_lower ho0 (below_size (by repeat (first | (with_reducible first | exact HB.out | apply below_alloc | apply pw_below_drewN | apply below_drew1 | refine below_set ?_ GE614.out) | exact HB.out)))); have n1_ := Aside0.mk (blk_below (g := gb614) (o := .cells #[.int .u16 0, .int .u8 0, .int .u8 0, .slice none 0 0, .int .u16 0, .int .u32 0, .slice none 0 0, .slice none 0 0, .slice none 0 0, .slice none 0 0] 47 (0, 0)) (by (with_reducible repeat (first | refine blk_drewN ?_ _ | refine blk_drew ?_ | refine blk_alloc ?_ _)); exact BK614.out) hb); have n2_ := Aside0.mk (below_step (by repeat (first | (with_reducible first | exact HB.out | apply below_alloc | apply pw_below_drewN | apply below_drew1 | refine below_set ?_ GE614.out) | exact HB.out)) hb); clear BK614; clear HB; have HO620 := n0_; have BK614 := n1_; have HB := n2_; clear n0_ n1_ n2_; (try clear hb); (try clear hb2); (try clear hk); (try clear hi); (try clear ho0)) | ((with_reducible refine gate_dst (N := 8) rfl ?_); refine box_event ?hg (N := 8) ?hd (cs := #[.int .u16 0, .int .u8 0, .int .u8 0, .slice none 0 0, .int .u16 0, .int .u32 0, .slice none 0 0, .slice none 0 0, .slice none 0 0, .slice none 0 0]) (t := 47) ?hr ?_; (case hd => rfl); (case hg => rfl); (case hr => first | (go_simp; done) | (go_simp; simp only [IntKind.wrap_u8, IntKind.wrap_u16, IntKind.wrap_u32, IntKind.wrap_u64]; done) | (go_simp; rfl)); intro gb621 hg w19 hbox hb; have n0_ := Aside0.mk (Kd.R_below (by (with_reducible repeat (first | apply Kd.R_alloc | apply Kd.R_drewN | apply Kd.R_drew)); exact HO620.out) hb); have n1_ := Aside0.mk (blk_below (g := gb614) (o := .cells #[.int .u16 0, .int .u8 0, .int .u8 0, .slice none 0 0, .int .u16 0, .int .u32 0, .slice none 0 0, .slice none 0 0, .slice none 0 0, .slice none 0 0] 47 (0, 0)) (by (with_reducible repeat (first | refine blk_drewN ?_ _ | refine blk_drew ?_ | refine blk_alloc ?_ _)); exact BK614.out) hb); have n2_ := Aside0.mk (below_step (by repeat (first | (with_reducible first | exact HB.out | apply below_alloc | apply pw_below_drewN | apply below_drew1 | refine below_set ?_ GE614.out) | exact HB.out)) hb); have n3_ := Aside0.mk (hbox); have n4_ := Aside0.mk ((by rw [hg]; exact (below_size (by repeat (first | (with_reducible first | exact HB.out | apply below_alloc | apply pw_below_drewN | apply below_drew1 | refine below_set ?_ GE614.out) | exact HB.out))) : w.heap.size ≤ gb621)); have n5_ := Aside0.mk ((by rw [hg]; exact (below_size (by repeat (first | (with_reducible first | exact HB.out | apply below_alloc | apply pw_below_drewN | apply below_drew1 | refine below_set ?_ GE614.out) | exact HB.out))) : w.heap.size ≤ gb621)); have n6_ := Aside0.mk ((by rw [hg]; exact Nat.ne_of_lt (blk_lt (g := gb614) (o := .cells #[.int .u16 0, .int .u8 0, .int .u8 0, .slice none 0 0, .int .u16 0, .int .u32 0, .slice none 0 0, .slice none 0 0, .slice none 0 0, .slice none 0 0] 47 (0, 0)) (by (with_reducible repeat (first | refine blk_drewN ?_ _ | refine blk_drew ?_ | refine blk_alloc ?_ _)); exact BK614.out)) : gb614 ≠ gb621)); have n7_ := Aside0.mk ((by rw [hg]; exact Nat.ne_of_gt (blk_lt (g := gb614) (o := .cells #[.int .u16 0, .int .u8 0, .int .u8 0, .slice none 0 0, .int .u16 0, .int .u32 0, .slice none 0 0, .slice none 0 0, .slice none 0 0, .slice none 0 0] 47 (0, 0)) (by (with_reducible repeat (first | refine blk_drewN ?_ _ | refine blk_drew ?_ | refine blk_alloc ?_ _)); exact BK614.out)) : gb621 ≠ gb614)); clear HO620; clear BK614; clear HB; have HO620 := n0_; have BK614 := n1_; have HB := n2_; have BK621 := n3_; have GW621 := n4_; have GE621 := n5_; have NB614_621 := n6_; have NB621_614 := n7_; clear n0_ n1_ n2_ n3_ n4_ n5_ n6_ n7_; clear hb hbox hg; have hnb20 := NB621_614.out; have hnc20 := NB614_621.out; have hcz21_0 : w19.cell? ⟨gb621, 0, none⟩ = some (.int .u16 0) := (blk_cell BK621.out 0).trans rfl; have hcz21_1 : w19.cell? ⟨gb621, 1, none⟩ = some (.int .u8 0) := (blk_cell BK621.out 1).trans rfl; have hcz21_2 : w19.cell? ⟨gb621, 2, none⟩ = some (.int .u8 0) := (blk_cell BK621.out 2).trans rfl; have hcz21_3 : w19.cell? ⟨gb621, 3, none⟩ = some (.slice none 0 0) := (blk_cell BK621.out 3).trans rfl; have hcz21_4 : w19.cell? ⟨gb621, 4, none⟩ = some (.int .u16 0) := (blk_cell BK621.out 4).trans rfl; have hcz21_5 : w19.cell? ⟨gb621, 5, none⟩ = some (.int .u32 0) := (blk_cell BK621.out 5).trans rfl; have hcz21_6 : w19.cell? ⟨gb621, 6, none⟩ = some (.slice none 0 0) := (blk_cell BK621.out 6).trans rfl; have hcz21_7 : w19.cell? ⟨gb621, 7, none⟩ = some (.slice none 0 0) := (blk_cell BK621.out 7).trans rfl; have hcz21_8 : w19.cell? ⟨gb621, 8, none⟩ = some (.slice none 0 0) := (blk_cell BK621.out 8).trans rfl; have hcz21_9 : w19.cell? ⟨gb621, 9, none⟩ = some (.slice none 0 0) := (blk_cell BK621.out 9).trans rfl; have hfz21_0 := blk_frozen BK621.out 0; have hfz21_1 := blk_frozen BK621.out 1; have hfz21_2 := blk_frozen BK621.out 2; have hfz21_3 := blk_frozen BK621.out 3; have hfz21_4 := blk_frozen BK621.out 4; have hfz21_5 := blk_frozen BK621.out 5; have hfz21_6 := blk_frozen BK621.out 6; have hfz21_7 := blk_frozen BK621.out 7; have hfz21_8 := blk_frozen BK621.out 8; have hfz21_9 := blk_frozen BK621.out 9) | ((with_reducible refine gate_callee (f := 57) rfl ?_); have n0_ : Aside0 (Kd.R (Kd.int .u8) 5 ((((((((((w19.setCell ⟨gb621, 0, none⟩ (.int .u16 49699)).setCell ⟨gb621, 1, none⟩ (.int .u8 t615)).setCell ⟨gb621, 2, none⟩ (.int .u8 t616)).setCell ⟨gb621, 3, none⟩ (.slice none 0 0)).setCell ⟨gb621, 4, none⟩ (.int .u16 0)).setCell ⟨gb621, 5, none⟩ (.int .u32 0)).setCell ⟨gb621, 6, none⟩ (.slice none 0 0)).setCell ⟨gb621, 7, none⟩ (.slice none 0 0)).setCell ⟨gb621, 8, none⟩ (.slice none 0 0)).setCell ⟨gb621, 9, none⟩ (.slice none 0 0)) w.heap.size (fun _ => True) v619 t617) := ⟨by (with_reducible repeat (first | apply Kd.R_alloc | apply Kd.R_drewN | apply Kd.R_drew)); exact Kd.R_mono (Kd.R_far (p := ⟨gb621, 9, none⟩) (Kd.R_far (p := ⟨gb621, 8, none⟩) (Kd.R_far (p := ⟨gb621, 7, none⟩) (Kd.R_far (p := ⟨gb621, 6, none⟩) (Kd.R_far (p := ⟨gb621, 5, none⟩) (Kd.R_far (p := ⟨gb621, 4, none⟩) (Kd.R_far (p := ⟨gb621, 3, none⟩) (Kd.R_far (p := ⟨gb621, 2, none⟩) (Kd.R_far (p := ⟨gb621, 1, none⟩) (Kd.R_far (p := ⟨gb621, 0, none⟩) (Kd.R_types HO620.out BK621.out (by decide)) (fun _ hk => hk.2) (.int .u16 49699)) (fun _ hk => hk.2) (.int .u8 t615)) (fun _ hk => hk.2) (.int .u8 t616)) (fun _ hk => hk.2) (.slice none 0 0)) (fun _ hk => hk.2) (.int .u16 0)) (fun _ hk => hk.2) (.int .u32 0)) (fun _ hk => hk.2) (.slice none 0 0)) (fun _ hk => hk.2) (.slice none 0 0)) (fun _ hk => hk.2) (.slice none 0 0)) (fun _ hk => hk.2) (.slice none 0 0)) (fun _ hk => trivial)⟩; have n1_ : Aside0 (((((((((((w19.setCell ⟨gb621, 0, none⟩ (.int .u16 49699)).setCell ⟨gb621, 1, none⟩ (.int .u8 t615)).setCell ⟨gb621, 2, none⟩ (.int .u8 t616)).setCell ⟨gb621, 3, none⟩ (.slice none 0 0)).setCell ⟨gb621, 4, none⟩ (.int .u16 0)).setCell ⟨gb621, 5, none⟩ (.int .u32 0)).setCell ⟨gb621, 6, none⟩ (.slice none 0 0)).setCell ⟨gb621, 7, none⟩ (.slice none 0 0)).setCell ⟨gb621, 8, none⟩ (.slice none 0 0)).setCell ⟨gb621, 9, none⟩ (.slice none 0 0)).heap[gb614]? = some (.cells #[.int .u16 0, .int .u8 0, .int .u8 0, .slice none 0 0, .int .u16 0, .int .u32 0, .slice none 0 0, .slice none 0 0, .slice none 0 0, .slice none 0 0] 47 (0, 0))) := ⟨by (with_reducible repeat (first | refine blk_drewN ?_ _ | refine blk_drew ?_ | refine blk_alloc ?_ _)); refine blk_far ?_ NB614_621.out _; (with_reducible repeat (first | refine blk_drewN ?_ _ | refine blk_drew ?_ | refine blk_alloc ?_ _)); refine blk_far ?_ NB614_621.out _; (with_reducible repeat (first | refine blk_drewN ?_ _ | refine blk_drew ?_ | refine blk_alloc ?_ _)); refine blk_far ?_ NB614_621.out _; (with_reducible repeat (first | refine blk_drewN ?_ _ | refine blk_drew ?_ | refine blk_alloc ?_ _)); refine blk_far ?_ NB614_621.out _; (with_reducible repeat (first | refine blk_drewN ?_ _ | refine blk_drew ?_ | refine blk_alloc ?_ _)); refine blk_far ?_ NB614_621.out _; (with_reducible repeat (first | refine blk_drewN ?_ _ | refine blk_drew ?_ | refine blk_alloc ?_ _)); refine blk_far ?_ NB614_621.out _; (with_reducible repeat (first | refine blk_drewN ?_ _ | refine blk_drew ?_ | refine blk_alloc ?_ _)); refine blk_far ?_ NB614_621.out _; (with_reducible repeat (first | refine blk_drewN ?_ _ | refine blk_drew ?_ | refine blk_alloc ?_ _)); refine blk_far ?_ NB614_621.out _; (with_reducible repeat (first | refine blk_drewN ?_ _ | refine blk_drew ?_ | refine blk_alloc ?_ _)); refine blk_far ?_ NB614_621.out _; (with_reducible repeat (first | refine blk_drewN ?_ _ | refine blk_drew ?_ | refine blk_alloc ?_ _)); refine blk_far ?_ NB614_621.out _; (with_reducible repeat (first | refine blk_drewN ?_ _ | refine blk_drew ?_ | refine blk_alloc ?_ _)); exact BK614.out⟩; have n2_ : Aside0 (((((((((((w19.setCell ⟨gb621, 0, none⟩ (.int .u16 49699)).setCell ⟨gb621, 1, none⟩ (.int .u8 t615)).setCell ⟨gb621, 2, none⟩ (.int .u8 t616)).setCell ⟨gb621, 3, none⟩ (.slice none 0 0)).setCell ⟨gb621, 4, none⟩ (.int .u16 0)).setCell ⟨gb621, 5, none⟩ (.int .u32 0)).setCell ⟨gb621, 6, none⟩ (.slice none 0 0)).setCell ⟨gb621, 7, none⟩ (.slice none 0 0)).setCell ⟨gb621, 8, none⟩ (.slice none 0 0)).setCell ⟨gb621, 9, none⟩ (.slice none 0 0)).heap[gb621]? = some (.cells #[.int .u16 49699, .int .u8 t615, .int .u8 t616, .slice none 0 0, .int .u16 0, .int .u32 0, .slice none 0 0, .slice none 0 0, .slice none 0 0, .slice none 0 0] 47 (0, 0))) := ⟨by (with_reducible repeat (first | refine blk_drewN ?_ _ | refine blk_drew ?_ | refine blk_alloc ?_ _)); refine blk_put (cs := #[.int .u16 49699, .int .u8 t615, .int .u8 t616, .slice none 0 0, .int .u16 0, .int .u32 0, .slice none 0 0, .slice none 0 0, .slice none 0 0, .slice none 0 0]) ?_ 9 _ rfl; (with_reducible repeat (first | refine blk_drewN ?_ _ | refine blk_drew ?_ | refine blk_alloc ?_ _)); refine blk_put (cs := #[.int .u16 49699, .int .u8 t615, .int .u8 t616, .slice none 0 0, .int .u16 0, .int .u32 0, .slice none 0 0, .slice none 0 0, .slice none 0 0, .slice none 0 0]) ?_ 8 _ rfl; (with_reducible repeat (first | refine blk_drewN ?_ _ | refine blk_drew ?_ | refine blk_alloc ?_ _)); refine blk_put (cs := #[.int .u16 49699, .int .u8 t615, .int .u8 t616, .slice none 0 0, .int .u16 0, .int .u32 0, .slice none 0 0, .slice none 0 0, .slice none 0 0, .slice none 0 0]) ?_ 7 _ rfl; (with_reducible repeat (first | refine blk_drewN ?_ _ | refine blk_drew ?_ | refine blk_alloc ?_ _)); refine blk_put (cs := #[.int .u16 49699, .int .u8 t615, .int .u8 t616, .slice none 0 0, .int .u16 0, .int .u32 0, .slice none 0 0, .slice none 0 0, .slice none 0 0, .slice none 0 0]) ?_ 6 _ rfl; (with_reducible repeat (first | refine blk_drewN ?_ _ | refine blk_drew ?_ | refine blk_alloc ?_ _)); refine blk_put (cs := #[.int .u16 49699, .int .u8 t615, .int .u8 t616, .slice none 0 0, .int .u16 0, .int .u32 0, .slice none 0 0, .slice none 0 0, .slice none 0 0, .slice none 0 0]) ?_ 5 _ rfl; (with_reducible repeat (first | refine blk_drewN ?_ _ | refine blk_drew ?_ | refine blk_alloc ?_ _)); refine blk_put (cs := #[.int .u16 49699, .int .u8 t615, .int .u8 t616, .slice none 0 0, .int .u16 0, .int .u32 0, .slice none 0 0, .slice none 0 0, .slice none 0 0, .slice none 0 0]) ?_ 4 _ rfl; (with_reducible repeat (first | refine blk_drewN ?_ _ | refine blk_drew ?_ | refine blk_alloc ?_ _)); refine blk_put (cs := #[.int .u16 49699, .int .u8 t615, .int .u8 t616, .slice none 0 0, .int .u16 0, .int .u32 0, .slice none 0 0, .slice none 0 0, .slice none 0 0, .slice none 0 0]) ?_ 3 _ rfl; (with_reducible repeat (first | refine blk_drewN ?_ _ | refine blk_drew ?_ | refine blk_alloc ?_ _)); refine blk_put (cs := #[.int .u16 49699, .int .u8 t615, .int .u8 0, .slice none 0 0, .int .u16 0, .int .u32 0, .slice none 0 0, .slice none 0 0, .slice none 0 0, .slice none 0 0]) ?_ 2 _ rfl; (with_reducible repeat (first | refine blk_drewN ?_ _ | refine blk_drew ?_ | refine blk_alloc ?_ _)); refine blk_put (cs := #[.int .u16 49699, .int .u8 0, .int .u8 0, .slice none 0 0, .int .u16 0, .int .u32 0, .slice none 0 0, .slice none 0 0, .slice none 0 0, .slice none 0 0]) ?_ 1 _ rfl; (with_reducible repeat (first | refine blk_drewN ?_ _ | refine blk_drew ?_ | refine blk_alloc ?_ _)); refine blk_put (cs := #[.int .u16 0, .int .u8 0, .int .u8 0, .slice none 0 0, .int .u16 0, .int .u32 0, .slice none 0 0, .slice none 0 0, .slice none 0 0, .slice none 0 0]) ?_ 0 _ rfl; (with_reducible repeat (first | refine blk_drewN ?_ _ | refine blk_drew ?_ | refine blk_alloc ?_ _)); exact BK621.out⟩; have n3_ : Aside0 (Below w.heap.size w ((((((((((w19.setCell ⟨gb621, 0, none⟩ (.int .u16 49699)).setCell ⟨gb621, 1, none⟩ (.int .u8 t615)).setCell ⟨gb621, 2, none⟩ (.int .u8 t616)).setCell ⟨gb621, 3, none⟩ (.slice none 0 0)).setCell ⟨gb621, 4, none⟩ (.int .u16 0)).setCell ⟨gb621, 5, none⟩ (.int .u32 0)).setCell ⟨gb621, 6, none⟩ (.slice none 0 0)).setCell ⟨gb621, 7, none⟩ (.slice none 0 0)).setCell ⟨gb621, 8, none⟩ (.slice none 0 0)).setCell ⟨gb621, 9, none⟩ (.slice none 0 0))) := ⟨by repeat (first | (with_reducible first | exact HB.out | apply below_alloc | apply pw_below_drewN | apply below_drew1 | refine below_set ?_ GE614.out | refine below_set ?_ GE621.out) | exact HB.out)⟩; (try clear HO620); (try clear BK614); (try clear BK621); (try clear HB); generalize ((((((((((w19.setCell ⟨gb621, 0, none⟩ (.int .u16 49699)).setCell ⟨gb621, 1, none⟩ (.int .u8 t615)).setCell ⟨gb621, 2, none⟩ (.int .u8 t616)).setCell ⟨gb621, 3, none⟩ (.slice none 0 0)).setCell ⟨gb621, 4, none⟩ (.int .u16 0)).setCell ⟨gb621, 5, none⟩ (.int .u32 0)).setCell ⟨gb621, 6, none⟩ (.slice none 0 0)).setCell ⟨gb621, 7, none⟩ (.slice none 0 0)).setCell ⟨gb621, 8, none⟩ (.slice none 0 0)).setCell ⟨gb621, 9, none⟩ (.slice none 0 0)) = w22 at n0_ n1_ n2_ n3_ ⊢; have HO620 := n0_; have BK614 := n1_; have BK621 := n2_; have HB := n3_; clear n0_ n1_ n2_ n3_; refine goesL_ (some 27) rfl rfl Try.func57 (by kernel_rfl) rfl #[.int .u8 t615] rfl (by (try simp only [List.map_toArray, List.map_cons, List.map_nil]); first | done | rfl | (simp only [List.length_drop, List.length_take]; rfl)) ?_; (with_reducible refine (chap_valued.calls t615 true _ A4.out).mono ?_); rintro e w' ⟨rfl, ⟨nd, rfl⟩⟩; refine ⟨_, rfl, ?_⟩; (try (rw [drewN_self w22]; generalize hq_ : World.drewN w22 _ = w22; have n0_ : Aside0 (Kd.R (Kd.int .u8) 5 w22 w.heap.size (fun _ => True) v619 t617) := ⟨by rw [← hq_]; exact (by (with_reducible repeat (first | apply Kd.R_alloc | apply Kd.R_drewN | apply Kd.R_drew)); exact HO620.out)⟩; have n1_ : Aside0 (w22.heap[gb614]? = some (.cells #[.int .u16 0, .int .u8 0, .int .u8 0, .slice none 0 0, .int .u16 0, .int .u32 0, .slice none 0 0, .slice none 0 0, .slice none 0 0, .slice none 0 0] 47 (0, 0))) := ⟨by rw [← hq_]; exact (by (with_reducible repeat (first | refine blk_drewN ?_ _ | refine blk_drew ?_ | refine blk_alloc ?_ _)); exact BK614.out)⟩; have n2_ : Aside0 (w22.heap[gb621]? = some (.cells #[.int .u16 49699, .int .u8 t615, .int .u8 t616, .slice none 0 0, .int .u16 0, .int .u32 0, .slice none 0 0, .slice none 0 0, .slice none 0 0, .slice none 0 0] 47 (0, 0))) := ⟨by rw [← hq_]; exact (by (with_reducible repeat (first | refine blk_drewN ?_ _ | refine blk_drew ?_ | refine blk_alloc ?_ _)); exact BK621.out)⟩; have n3_ : Aside0 (Below w.heap.size w w22) := ⟨by rw [← hq_]; exact (by repeat (first | (with_reducible first | exact HB.out | apply below_alloc | apply pw_below_drewN | apply below_drew1 | refine below_set ?_ GE614.out | refine below_set ?_ GE621.out) | exact HB.out))⟩; clear HO620 BK614 BK621 HB hq_; have HO620 := n0_; have BK614 := n1_; have BK621 := n2_; have HB := n3_; clear n0_ n1_ n2_ n3_)); obtain ⟨Ao23, co23, eo23⟩ := Kd.R_slice HO620.out; subst eo23; have p623 : 0 ≤ (0 : Int) := (by omega); have q623 : 0 < (t617.length : Int) := of_decide_eq_true (by first | (with_reducible assumption) | assumption); obtain ⟨ad623, e623, hx623_0⟩ := Kd.at_int (Kd.R_reads' HO620.out).2.2 0 p623 q623; cases e623; have qi623 : (0 < t617.length) = True := eq_true (by omega); (try rw [show ((0 : Int)).toNat = 0 from rfl] at hx623_0); (try rw [Addr.add_zero'] at hx623_0); replace p623 := eq_true p623; replace q623 := eq_true q623; have hcz24_0 : w22.cell? ⟨gb614, 0, none⟩ = some (.int .u16 0) := (blk_cell BK614.out 0).trans rfl; have hcz24_1 : w22.cell? ⟨gb614, 1, none⟩ = some (.int .u8 0) := (blk_cell BK614.out 1).trans rfl; have hcz24_2 : w22.cell? ⟨gb614, 2, none⟩ = some (.int .u8 0) := (blk_cell BK614.out 2).trans rfl; have hcz24_3 : w22.cell? ⟨gb614, 3, none⟩ = some (.slice none 0 0) := (blk_cell BK614.out 3).trans rfl; have hcz24_4 : w22.cell? ⟨gb614, 4, none⟩ = some (.int .u16 0) := (blk_cell BK614.out 4).trans rfl; have hcz24_5 : w22.cell? ⟨gb614, 5, none⟩ = some (.int .u32 0) := (blk_cell BK614.out 5).trans rfl; have hcz24_6 : w22.cell? ⟨gb614, 6, none⟩ = some (.slice none 0 0) := (blk_cell BK614.out 6).trans rfl; have hcz24_7 : w22.cell? ⟨gb614, 7, none⟩ = some (.slice none 0 0) := (blk_cell BK614.out 7).trans rfl; have hcz24_8 : w22.cell? ⟨gb614, 8, none⟩ = some (.slice none 0 0) := (blk_cell BK614.out 8).trans rfl; have hcz24_9 : w22.cell? ⟨gb614, 9, none⟩ = some (.slice none 0 0) := (blk_cell BK614.out 9).trans rfl; have hfz24_0 := blk_frozen BK614.out 0; have hfz24_1 := blk_frozen BK614.out 1; have hfz24_2 := blk_frozen BK614.out 2; have hfz24_3 := blk_frozen BK614.out 3; have hfz24_4 := blk_frozen BK614.out 4; have hfz24_5 := blk_frozen BK614.out 5; have hfz24_6 := blk_frozen BK614.out 6; have hfz24_7 := blk_frozen BK614.out 7; have hfz24_8 := blk_frozen BK614.out 8; have hfz24_9 := blk_frozen BK614.out 9))
           refine bodyPost_ret (results_ct rfl _ _ gb614 47 #[.int .u16 0, .int .u8 0, .int .u8 0, .slice none 0 0, .int .u16 0, .int .u32 0, .slice none 0 0, .slice none 0 0, .slice none 0 0, .slice none 0 0] (0, 0) _ rfl (by (with_reducible repeat (first | refine blk_drewN ?_ _ | refine blk_drew ?_ | refine blk_alloc ?_ _)); refine blk_put (cs := #[.int .u16 0, .int .u8 0, .int .u8 0, .slice none 0 0, .int .u16 0, .int .u32 0, .slice none 0 0, .slice none 0 0, .slice none 0 0, .slice none 0 0]) ?_ 9 _ rfl; (with_reducible repeat (first | refine blk_drewN ?_ _ | refine blk_drew ?_ | refine blk_alloc ?_ _)); refine blk_put (cs := #[.int .u16 0, .int .u8 0, .int .u8 0, .slice none 0 0, .int .u16 0, .int .u32 0, .slice none 0 0, .slice none 0 0, .slice none 0 0, .slice none 0 0]) ?_ 8 _ rfl; (with_reducible repeat (first | refine blk_drewN ?_ _ | refine blk_drew ?_ | refine blk_alloc ?_ _)); refine blk_put (cs := #[.int .u16 0, .int .u8 0, .int .u8 0, .slice none 0 0, .int .u16 0, .int .u32 0, .slice none 0 0, .slice none 0 0, .slice none 0 0, .slice none 0 0]) ?_ 7 _ rfl; (with_reducible repeat (first | refine blk_drewN ?_ _ | refine blk_drew ?_ | refine blk_alloc ?_ _)); refine blk_put (cs := #[.int .u16 0, .int .u8 0, .int .u8 0, .slice none 0 0, .int .u16 0, .int .u32 0, .slice none 0 0, .slice none 0 0, .slice none 0 0, .slice none 0 0]) ?_ 6 _ rfl; (with_reducible repeat (first | refine blk_drewN ?_ _ | refine blk_drew ?_ | refine blk_alloc ?_ _)); refine blk_put (cs := #[.int .u16 0, .int .u8 0, .int .u8 0, .slice none 0 0, .int .u16 0, .int .u32 0, .slice none 0 0, .slice none 0 0, .slice none 0 0, .slice none 0 0]) ?_ 5 _ rfl; (with_reducible repeat (first | refine blk_drewN ?_ _ | refine blk_drew ?_ | refine blk_alloc ?_ _)); refine blk_put (cs := #[.int .u16 0, .int .u8 0, .int .u8 0, .slice none 0 0, .int .u16 0, .int .u32 0, .slice none 0 0, .slice none 0 0, .slice none 0 0, .slice none 0 0]) ?_ 4 _ rfl; (with_reducible repeat (first | refine blk_drewN ?_ _ | refine blk_drew ?_ | refine blk_alloc ?_ _)); refine blk_put (cs := #[.int .u16 0, .int .u8 0, .int .u8 0, .slice none 0 0, .int .u16 0, .int .u32 0, .slice none 0 0, .slice none 0 0, .slice none 0 0, .slice none 0 0]) ?_ 3 _ rfl; (with_reducible repeat (first | refine blk_drewN ?_ _ | refine blk_drew ?_ | refine blk_alloc ?_ _)); refine blk_put (cs := #[.int .u16 0, .int .u8 0, .int .u8 0, .slice none 0 0, .int .u16 0, .int .u32 0, .slice none 0 0, .slice none 0 0, .slice none 0 0, .slice none 0 0]) ?_ 2 _ rfl; (with_reducible repeat (first | refine blk_drewN ?_ _ | refine blk_drew ?_ | refine blk_alloc ?_ _)); refine blk_put (cs := #[.int .u16 0, .int .u8 0, .int .u8 0, .slice none 0 0, .int .u16 0, .int .u32 0, .slice none 0 0, .slice none 0 0, .slice none 0 0, .slice none 0 0]) ?_ 1 _ rfl; (with_reducible repeat (first | refine blk_drewN ?_ _ | refine blk_drew ?_ | refine blk_alloc ?_ _)); refine blk_put (cs := #[.int .u16 0, .int .u8 0, .int .u8 0, .slice none 0 0, .int .u16 0, .int .u32 0, .slice none 0 0, .slice none 0 0, .slice none 0 0, .slice none 0 0]) ?_ 0 _ rfl; (with_reducible repeat (first | refine blk_drewN ?_ _ | refine blk_drew ?_ | refine blk_alloc ?_ _)); exact BK614.out) Try.underlying47 rfl (by kernel_rfl)) rfl ?_
           exact ⟨_, _, _, _, _, by first | rfl | (simp [errW_none, errW_some] <;> rfl) | (simp [*, errW_none, errW_some] <;> rfl), by first | exact Kd.S_nil _ _ _ _ _ | exact Kd.N_nil _ _ _ _ _ | exact Kd.V_nil _ _ _ _ _ | exact Kd.Q_nil _ _ _ _ _ | exact Kd.R_nil _ _ _ _ _, by first | exact Kd.R_nil _ _ _ _ _ | exact Kd.N_nil _ _ _ _ _ | exact Kd.V_nil _ _ _ _ _ | exact Kd.Q_nil _ _ _ _ _ | exact Kd.S_nil _ _ _ _ _, by first | exact Kd.R_nil _ _ _ _ _ | exact Kd.N_nil _ _ _ _ _ | exact Kd.V_nil _ _ _ _ _ | exact Kd.Q_nil _ _ _ _ _ | exact Kd.S_nil _ _ _ _ _, by first | exact Kd.R_nil _ _ _ _ _ | exact Kd.N_nil _ _ _ _ _ | exact Kd.V_nil _ _ _ _ _ | exact Kd.Q_nil _ _ _ _ _ | exact Kd.S_nil _ _ _ _ _, by first | exact Kd.R_nil _ _ _ _ _ | exact Kd.N_nil _ _ _ _ _ | exact Kd.V_nil _ _ _ _ _ | exact Kd.Q_nil _ _ _ _ _ | exact Kd.S_nil _ _ _ _ _, by repeat (first | (with_reducible first | exact HB.out | apply below_alloc | apply pw_below_drewN | apply below_drew1 | refine below_set ?_ GE614.out | refine below_set ?_ GE621.out) | exact HB.out)⟩
         · rw [if_neg c16] at H
           have c16b0 : ((rd t617 0) == 0) = false := beq_eq_false_iff_ne.mpr c16
           have c16b1 : ((rd t617 0) != 0) = true := bne_iff_ne.mpr c16
           by_cases c25 : (wrap64 (1 + (wrap64 (rd t617 0)))) > (t617.length : Int)
           · rw [if_pos c25] at H
             have c25b0 : decide ((t617.length : Int) < (wrap64 (1 + (wrap64 (rd t617 0))))) = true := decide_eq_true c25
             clear c25
             simp only [Option.some.injEq, Prod.mk.injEq] at H
             obtain ⟨rfl, rfl, rfl, rfl, rfl, rfl, rfl, rfl, rfl, rfl, rfl⟩ := H
             go_enter Try.func38, Try.ntmps38
             go_wp2_with (first | ((with_reducible refine gate_dst (N := 2) rfl ?_); refine box_event ?hg (N := 2) ?hd (cs := #[.int .u16 0, .int .u8 0, .int .u8 0, .slice none 0 0, .int .u16 0, .int .u32 0, .slice none 0 0, .slice none 0 0, .slice none 0 0, .slice none 0 0]) (t := 47) ?hr ?_; (case hd => rfl); (case hg => rfl); (case hr => first | (go_simp; done) | (go_simp; simp only [IntKind.wrap_u8, IntKind.wrap_u16, IntKind.wrap_u32, IntKind.wrap_u64]; done) | (go_simp; rfl)); intro gb614 hg w26 hbox hb; have n0_ := Aside0.mk (below_step (by repeat (first | (with_reducible first | exact HB.out | apply below_alloc | apply pw_below_drewN | apply below_drew1) | exact HB.out)) hb); have n1_ := Aside0.mk (hbox); have n2_ := Aside0.mk ((by rw [hg]; exact (below_size (by repeat (first | (with_reducible first | exact HB.out | apply below_alloc | apply pw_below_drewN | apply below_drew1) | exact HB.out))) : w.heap.size ≤ gb614)); have n3_ := Aside0.mk ((by rw [hg]; exact (below_size (by repeat (first | (with_reducible first | exact HB.out | apply below_alloc | apply pw_below_drewN | apply below_drew1) | exact HB.out))) : w.heap.size ≤ gb614)); clear HB; have HB := n0_; have BK614 := n1_; have GW614 := n2_; have GE614 := n3_; clear n0_ n1_ n2_ n3_; clear hb hbox hg) | ((with_reducible refine gate_callee (f := 53) rfl ?_); refine goesL_ (some 12) rfl rfl Try.func53 (by kernel_rfl) rfl #[.slice A0 l0.length c0] rfl (by (try simp only [List.map_toArray, List.map_cons, List.map_nil]); first | done | rfl | (simp only [List.length_drop, List.length_take]; rfl)) ?_; (with_reducible refine (ctl_Get.calls k _ _ l0 t615 t616 t617 t618 _ ?side1 ?side2 A2.out).mono ?_); (case side1 => repeat (first | exact (Kd.C_below HR0.out HB.out) | (with_reducible refine Kd.C_alloc ?_ _) | (with_reducible refine Kd.C_drewN ?_ _) | (with_reducible refine Kd.C_drew ?_))); (case side2 => exact HC0.out); rintro e w27 ⟨v619, rfl, ho0, hb⟩; refine ⟨_, rfl, ?_⟩; have n0_ := Aside0.mk (Kd.R_lower ho0 (below_size (by repeat (first | (with_reducible first | exact HB.out | apply below_alloc | apply pw_below_drewN | apply below_drew1 | refine below_set ?_ GE614.out) | exact HB.out)))); have n1_ := Aside0.mk (blk_below (g := gb614) (o := .cells #[.int .u16 0, .int .u8 0, .int .u8 0, .slice none 0 0, .int .u16 0, .int .u32 0, .slice none 0 0, .slice none 0 0, .slice none 0 0, .slice none 0 0] 47 (0, 0)) (by (with_reducible repeat (first | refine blk_drewN ?_ _ | refine blk_drew ?_ | refine blk_alloc ?_ _)); exact BK614.out) hb); have n2_ := Aside0.mk (below_step (by repeat (first | (with_reducible first | exact HB.out | apply below_alloc | apply pw_below_drewN | apply below_drew1 | refine below_set ?_ GE614.out) | exact HB.out)) hb); clear BK614; clear HB; have HO620 := n0_; have BK614 := n1_; have HB := n2_; clear n0_ n1_ n2_; (try clear hb); (try clear hb2); (try clear hk); (try clear hi); (try clear ho0)) | ((with_reducible refine gate_dst (N := 8) rfl ?_); refine box_event ?hg (N := 8) ?hd (cs := #[.int .u16 0, .int .u8 0, .int .u8 0, .slice none 0 0, .int .u16 0, .int .u32 0, .slice none 0 0, .slice none 0 0, .slice none 0 0, .slice none 0 0]) (t := 47) ?hr ?_; (case hd => rfl); (case hg => rfl); (case hr => first | (go_simp; done) | (go_simp; simp only [IntKind.wrap_u8, IntKind.wrap_u16, IntKind.wrap_u32, IntKind.wrap_u64]; done) | (go_simp; rfl)); intro gb621 hg w28 hbox hb; have n0_ := Aside0.mk (Kd.R_below (by (with_reducible repeat (first | apply Kd.R_alloc | apply Kd.R_drewN | apply Kd.R_drew)); exact HO620.out) hb); have n1_ := Aside0.mk (blk_below (g := gb614) (o := .cells #[.int .u16 0, .int .u8 0, .int .u8 0, .slice none 0 0, .int .u16 0, .int .u32 0, .slice none 0 0, .slice none 0 0, .slice none 0 0, .slice none 0 0] 47 (0, 0)) (by (with_reducible repeat (first | refine blk_drewN ?_ _ | refine blk_drew ?_ | refine blk_alloc ?_ _)); exact BK614.out) hb); have n2_ := Aside0.mk (below_step (by repeat (first | (with_reducible first | exact HB.out | apply below_alloc | apply pw_below_drewN | apply below_drew1 | refine below_set ?_ GE614.out) | exact HB.out)) hb); have n3_ := Aside0.mk (hbox); have n4_ := Aside0.mk ((by rw [hg]; exact (below_size (by repeat (first | (with_reducible first | exact HB.out | apply below_alloc | apply pw_below_drewN | apply below_drew1 | refine below_set ?_ GE614.out) | exact HB.out))) : w.heap.size ≤ gb621)); have n5_ := Aside0.mk ((by rw [hg]; exact (below_size (by repeat (first | (with_reducible first | exact HB.out | apply below_alloc | apply pw_below_drewN | apply below_drew1 | refine below_set ?_ GE614.out) | exact HB.out))) : w.heap.size ≤ gb621)); have n6_ := Aside0.mk ((by rw [hg]; exact Nat.ne_of_lt (blk_lt (g := gb614) (o := .cells #[.int .u16 0, .int .u8 0, .int .u8 0, .slice none 0 0, .int .u16 0, .int .u32 0, .slice none 0 0, .slice none 0 0, .slice none 0 0, .slice none 0 0] 47 (0, 0)) (by (with_reducible repeat (first | refine blk_drewN ?_ _ | refine blk_drew ?_ | refine blk_alloc ?_ _)); exact BK614.out)) : gb614 ≠ gb621)); have n7_ := Aside0.mk ((by rw [hg]; exact Nat.ne_of_gt (blk_lt (g := gb614) (o := .cells #[.int .u16 0, .int .u8 0, .int .u8 0, .slice none 0 0, .int .u16 0, .int .u32 0, .slice none 0 0, .slice none 0 0, .slice none 0 0, .slice none 0 0] 47 (0, 0)) (by (with_reducible repeat (first | refine blk_drewN ?_ _ | refine blk_drew ?_ | refine blk_alloc ?_ _)); exact BK614.out)) : gb621 ≠ gb614)); clear HO620; clear BK614; clear HB; have HO620 := n0_; have BK614 := n1_; have HB := n2_; have BK621 := n3_; have GW621 := n4_; have GE621 := n5_; have NB614_621 := n6_; have NB621_614 := n7_; clear n0_ n1_ n2_ n3_ n4_ n5_ n6_ n7_; clear hb hbox hg; have hnb29 := NB621_614.out; have hnc29 := NB614_621.out; have hcz30_0 : w28.cell? ⟨gb621, 0, none⟩ = some (.int .u16 0) := (blk_cell BK621.out 0).trans rfl; have hcz30_1 : w28.cell? ⟨gb621, 1, none⟩ = some (.int .u8 0) := (blk_cell BK621.out 1).trans rfl; have hcz30_2 : w28.cell? ⟨gb621, 2, none⟩ = some (.int .u8 0) := (blk_cell BK621.out 2).trans rfl; have hcz30_3 : w28.cell? ⟨gb621, 3, none⟩ = some (.slice none 0 0) := (blk_cell BK621.out 3).trans rfl; have hcz30_4 : w28.cell? ⟨gb621, 4, none⟩ = some (.int .u16 0) := (blk_cell BK621.out 4).trans rfl; have hcz30_5 : w28.cell? ⟨gb621, 5, none⟩ = some (.int .u32 0) := (blk_cell BK621.out 5).trans rfl; have hcz30_6 : w28.cell? ⟨gb621, 6, none⟩ = some (.slice none 0 0) := (blk_cell BK621.out 6).trans rfl; have hcz30_7 : w28.cell? ⟨gb621, 7, none⟩ = some (.slice none 0 0) := (blk_cell BK621.out 7).trans rfl; have hcz30_8 : w28.cell? ⟨gb621, 8, none⟩ = some (.slice none 0 0) := (blk_cell BK621.out 8).trans rfl; have hcz30_9 : w28.cell? ⟨gb621, 9, none⟩ = some (.slice none 0 0) := (blk_cell BK621.out 9).trans rfl; have hfz30_0 := blk_frozen BK621.out 0; have hfz30_1 := blk_frozen BK621.out 1; have hfz30_2 := blk_frozen BK621.out 2; have hfz30_3 := blk_frozen BK621.out 3; have hfz30_4 := blk_frozen BK621.out 4; have hfz30_5 := blk_frozen BK621.out 5; have hfz30_6 := blk_frozen BK621.out 6; have hfz30_7 := blk_frozen BK621.out 7; have hfz30_8 := blk_frozen BK621.out 8; have hfz30_9 := blk_frozen BK621.out 9) | ((with_reducible refine gate_callee (f := 57) rfl ?_); have n0_ : Aside0 (Kd.R (Kd.int .u8) 5 ((((((((((w28.setCell ⟨gb621, 0, none⟩ (.int .u16 49699)).setCell ⟨gb621, 1, none⟩ (.int .u8 t615)).setCell ⟨gb621, 2, none⟩ (.int .u8 t616)).setCell ⟨gb621, 3, none⟩ (.slice none 0 0)).setCell ⟨gb621, 4, none⟩ (.int .u16 0)).setCell ⟨gb621, 5, none⟩ (.int .u32 0)).setCell ⟨gb621, 6, none⟩ (.slice none 0 0)).setCell ⟨gb621, 7, none⟩ (.slice none 0 0)).setCell ⟨gb621, 8, none⟩ (.slice none 0 0)).setCell ⟨gb621, 9, none⟩ (.slice none 0 0)) w.heap.size (fun _ => True) v619 t617) := ⟨by (with_reducible repeat (first | apply Kd.R_alloc | apply Kd.R_drewN | apply Kd.R_drew)); exact Kd.R_mono (Kd.R_far (p := ⟨gb621, 9, none⟩) (Kd.R_far (p := ⟨gb621, 8, none⟩) (Kd.R_far (p := ⟨gb621, 7, none⟩) (Kd.R_far (p := ⟨gb621, 6, none⟩) (Kd.R_far (p := ⟨gb621, 5, none⟩) (Kd.R_far (p := ⟨gb621, 4, none⟩) (Kd.R_far (p := ⟨gb621, 3, none⟩) (Kd.R_far (p := ⟨gb621, 2, none⟩) (Kd.R_far (p := ⟨gb621, 1, none⟩) (Kd.R_far (p := ⟨gb621, 0, none⟩) (Kd.R_types HO620.out BK621.out (by decide)) (fun _ hk => hk.2) (.int .u16 49699)) (fun _ hk => hk.2) (.int .u8 t615)) (fun _ hk => hk.2) (.int .u8 t616)) (fun _ hk => hk.2) (.slice none 0 0)) (fun _ hk => hk.2) (.int .u16 0)) (fun _ hk => hk.2) (.int .u32 0)) (fun _ hk => hk.2) (.slice none 0 0)) (fun _ hk => hk.2) (.slice none 0 0)) (fun _ hk => hk.2) (.slice none 0 0)) (fun _ hk => hk.2) (.slice none 0 0)) (fun _ hk => trivial)⟩; have n1_ : Aside0 (((((((((((w28.setCell ⟨gb621, 0, none⟩ (.int .u16 49699)).setCell ⟨gb621, 1, none⟩ (.int .u8 t615)).setCell ⟨gb621, 2, none⟩ (.int .u8 t616)).setCell ⟨gb621, 3, none⟩ (.slice none 0 0)).setCell ⟨gb621, 4, none⟩ (.int .u16 0)).setCell ⟨gb621, 5, none⟩ (.int .u32 0)).setCell ⟨gb621, 6, none⟩ (.slice none 0 0)).setCell ⟨gb621, 7, none⟩ (.slice none 0 0)).setCell ⟨gb621, 8, none⟩ (.slice none 0 0)).setCell ⟨gb621, 9, none⟩ (.slice none 0 0)).heap[gb614]? = some (.cells #[.int .u16 0, .int .u8 0, .int .u8 0, .slice none 0 0, .int .u16 0, .int .u32 0, .slice none 0 0, .slice none 0 0, .slice none 0 0, .slice none 0 0] 47 (0, 0))) := ⟨by (with_reducible repeat (first | refine blk_drewN ?_ _ | refine blk_drew ?_ | refine blk_alloc ?_ _)); refine blk_far ?_ NB614_621.out _; (with_reducible repeat (first | refine blk_drewN ?_ _ | refine blk_drew ?_ | refine blk_alloc ?_ _)); refine blk_far ?_ NB614_621.out _; (with_reducible repeat (first | refine blk_drewN ?_ _ | refine blk_drew ?_ | refine blk_alloc ?_ _)); refine blk_far ?_ NB614_621.out _; (with_reducible repeat (first | refine blk_drewN ?_ _ | refine blk_drew ?_ | refine blk_alloc ?_ _)); refine blk_far ?_ NB614_621.out _; (with_reducible repeat (first | refine blk_drewN ?_ _ | refine blk_drew ?_ | refine blk_alloc ?_ _)); refine blk_far ?_ NB614_621.out _; (with_reducible repeat (first | refine blk_drewN ?_ _ | refine blk_drew ?_ | refine blk_alloc ?_ _)); refine blk_far ?_ NB614_621.out _; (with_reducible repeat (first | refine blk_drewN ?_ _ | refine blk_drew ?_ | refine blk_alloc ?_ _)); refine blk_far ?_ NB614_621.out _; (with_reducible repeat (first | refine blk_drewN ?_ _ | refine blk_drew ?_ | refine blk_alloc ?_ _)); refine blk_far ?_ NB614_621.out _; (with_reducible repeat (first | refine blk_drewN ?_ _ | refine blk_drew ?_ | refine blk_alloc ?_ _)); refine blk_far ?_ NB614_621.out _; (with_reducible repeat (first | refine blk_drewN ?_ _ | refine blk_drew ?_ | refine blk_alloc ?_ _)); refine blk_far ?_ NB614_621.out _; (with_reducible repeat (first | refine blk_drewN ?_ _ | refine blk_drew ?_ | refine blk_alloc ?_ _)); exact BK614.out⟩; have n2_ : Aside0 (((((((((((w28.setCell ⟨gb621, 0, none⟩ (.int .u16 49699)).setCell ⟨gb621, 1, none⟩ (.int .u8 t615)).setCell ⟨gb621, 2, none⟩ (.int .u8 t616)).setCell ⟨gb621, 3, none⟩ (.slice none 0 0)).setCell ⟨gb621, 4, none⟩ (.int .u16 0)).setCell ⟨gb621, 5, none⟩ (.int .u32 0)).setCell ⟨gb621, 6, none⟩ (.slice none 0 0)).setCell ⟨gb621, 7, none⟩ (.slice none 0 0)).setCell ⟨gb621, 8, none⟩ (.slice none 0 0)).setCell ⟨gb621, 9, none⟩ (.slice none 0 0)).heap[gb621]? = some (.cells #[.int .u16 49699, .int .u8 t615, .int .u8 t616, .slice none 0 0, .int .u16 0, .int .u32 0, .slice none 0 0, .slice none 0 0, .slice none 0 0, .slice none 0 0] 47 (0, 0))) := ⟨by (with_reducible repeat (first | refine blk_drewN ?_ _ | refine blk_drew ?_ | refine blk_alloc ?_ _)); refine blk_put (cs := #[.int .u16 49699, .int .u8 t615, .int .u8 t616, .slice none 0 0, .int .u16 0, .int .u32 0, .slice none 0 0, .slice none 0 0, .slice none 0 0, .slice none 0 0]) ?_ 9 _ rfl; (with_reducible repeat (first | refine blk_drewN ?_ _ | refine blk_drew ?_ | refine blk_alloc ?_ _)); refine blk_put (cs := #[.int .u16 49699, .int .u8 t615, .int .u8 t616, .slice none 0 0, .int .u16 0, .int .u32 0, .slice none 0 0, .slice none 0 0, .slice none 0 0, .slice none 0 0]) ?_ 8 _ rfl; (with_reducible repeat (first | refine blk_drewN ?_ _ | refine blk_drew ?_ | refine blk_alloc ?_ _)); refine blk_put (cs := #[.int .u16 49699, .int .u8 t615, .int .u8 t616, .slice none 0 0, .int .u16 0, .int .u32 0, .slice none 0 0, .slice none 0 0, .slice none 0 0, .slice none 0 0]) ?_ 7 _ rfl; (with_reducible repeat (first | refine blk_drewN ?_ _ | refine blk_drew ?_ | refine blk_alloc ?_ _)); refine blk_put (cs := #[.int .u16 49699, .int .u8 t615, .int .u8 t616, .slice none 0 0, .int .u16 0, .int .u32 0, .slice none 0 0, .slice none 0 0, .slice none 0 0, .slice none 0 0]) ?_ 6 _ rfl; (with_reducible repeat (first | refine blk_drewN ?_ _ | refine blk_drew ?_ | refine blk_alloc ?_ _)); refine blk_put (cs := #[.int .u16 49699, .int .u8 t615, .int .u8 t616, .slice none 0 0, .int .u16 0, .int .u32 0, .slice none 0 0, .slice none 0 0, .slice none 0 0, .slice none 0 0]) ?_ 5 _ rfl; (with_reducible repeat (first | refine blk_drewN ?_ _ | refine blk_drew ?_ | refine blk_alloc ?_ _)); refine blk_put (cs := #[.int .u16 49699, .int .u8 t615, .int .u8 t616, .slice none 0 0, .int .u16 0, .int .u32 0, .slice none 0 0, .slice none 0 0, .slice none 0 0, .slice none 0 0]) ?_ 4 _ rfl; (with_reducible repeat (first | refine blk_drewN ?_ _ | refine blk_drew ?_ | refine blk_alloc ?_ _)); refine blk_put (cs := #[.int .u16 49699, .int .u8 t615, .int .u8 t616, .slice none 0 0, .int .u16 0, .int .u32 0, .slice none 0 0, .slice none 0 0, .slice none 0 0, .slice none 0 0]) ?_ 3 _ rfl; (with_reducible repeat (first | refine blk_drewN ?_ _ | refine blk_drew ?_ | refine blk_alloc ?_ _)); refine blk_put (cs := #[.int .u16 49699, .int .u8 t615, .int .u8 0, .slice none 0 0, .int .u16 0, .int .u32 0, .slice none 0 0, .slice none 0 0, .slice none 0 0, .slice none 0 0]) ?_ 2 _ rfl; (with_reducible repeat (first | refine blk_drewN ?_ _ | refine blk_drew ?_ | refine blk_alloc ?_ _)); refine blk_put (cs := #[.int .u16 49699, .int .u8 0, .int .u8 0, .slice none 0 0, .int .u16 0, .int .u32 0, .slice none 0 0, .slice none 0 0, .slice none 0 0, .slice none 0 0]) ?_ 1 _ rfl; (with_reducible repeat (first | refine blk_drewN ?_ _ | refine blk_drew ?_ | refine blk_alloc ?_ _)); refine blk_put (cs := #[.int .u16 0, .int .u8 0, .int .u8 0, .slice none 0 0, .int .u16 0, .int .u32 0, .slice none 0 0, .slice none 0 0, .slice none 0 0, .slice none 0 0]) ?_ 0 _ rfl; (with_reducible repeat (first | refine blk_drewN ?_ _ | refine blk_drew ?_ | refine blk_alloc ?_ _)); exact BK621.out⟩; have n3_ : Aside0 (Below w.heap.size w ((((((((((w28.setCell ⟨gb621, 0, none⟩ (.int .u16 49699)).setCell ⟨gb621, 1, none⟩ (.int .u8 t615)).setCell ⟨gb621, 2, none⟩ (.int .u8 t616)).setCell ⟨gb621, 3, none⟩ (.slice none 0 0)).setCell ⟨gb621, 4, none⟩ (.int .u16 0)).setCell ⟨gb621, 5, none⟩ (.int .u32 0)).setCell ⟨gb621, 6, none⟩ (.slice none 0 0)).setCell ⟨gb621, 7, none⟩ (.slice none 0 0)).setCell ⟨gb621, 8, none⟩ (.slice none 0 0)).setCell ⟨gb621, 9, none⟩ (.slice none 0 0))) := ⟨by repeat (first | (with_reducible first | exact HB.out | apply below_alloc | apply pw_below_drewN | apply below_drew1 | refine below_set ?_ GE614.out | refine below_set ?_ GE621.out) | exact HB.out)⟩; (try clear HO620); (try clear BK614); (try clear BK621); (try clear HB); generalize ((((((((((w28.setCell ⟨gb621, 0, none⟩ (.int .u16 49699)).setCell ⟨gb621, 1, none⟩ (.int .u8 t615)).setCell ⟨gb621, 2, none⟩ (.int .u8 t616)).setCell ⟨gb621, 3, none⟩ (.slice none 0 0)).setCell ⟨gb621, 4, none⟩ (.int .u16 0)).setCell ⟨gb621, 5, none⟩ (.int .u32 0)).setCell ⟨gb621, 6, none⟩ (.slice none 0 0)).setCell ⟨gb621, 7, none⟩ (.slice none 0 0)).setCell ⟨gb621, 8, none⟩ (.slice none 0 0)).setCell ⟨gb621, 9, none⟩ (.slice none 0 0)) = w31 at n0_ n1_ n2_ n3_ ⊢; have HO620 := n0_; have BK614 := n1_; have BK621 := n2_; have HB := n3_; clear n0_ n1_ n2_ n3_; refine goesL_ (some 27) rfl rfl Try.func57 (by kernel_rfl) rfl #[.int .u8 t615] rfl (by (try simp only [List.map_toArray, List.map_cons, List.map_nil]); first | done | rfl | (simp only [List.length_drop, List.length_take]; rfl)) ?_; (with_reducible refine (chap_valued.calls t615 true _ A4.out).mono ?_); rintro e w' ⟨rfl, ⟨nd, rfl⟩⟩; refine ⟨_, rfl, ?_⟩; (try (rw [drewN_self w31]; generalize hq_ : World.drewN w31 _ = w31; have n0_ : Aside0 (Kd.R (Kd.int .u8) 5 w31 w.heap.size (fun _ => True) v619 t617) := ⟨by rw [← hq_]; exact (by (with_reducible repeat (first | apply Kd.R_alloc | apply Kd.R_drewN | apply Kd.R_drew)); exact HO620.out)⟩; have n1_ : Aside0 (w31.heap[gb614]? = some (.cells #[.int .u16 0, .int .u8 0, .int .u8 0, .slice none 0 0, .int .u16 0, .int .u32 0, .slice none 0 0, .slice none 0 0, .slice none 0 0, .slice none 0 0] 47 (0, 0))) := ⟨by rw [← hq_]; exact (by (with_reducible repeat (first | refine blk_drewN ?_ _ | refine blk_drew ?_ | refine blk_alloc ?_ _)); exact BK614.out)⟩; have n2_ : Aside0 (w31.heap[gb621]? = some (.cells #[.int .u16 49699, .int .u8 t615, .int .u8 t616, .slice none 0 0, .int .u16 0, .int .u32 0, .slice none 0 0, .slice none 0 0, .slice none 0 0, .slice none 0 0] 47 (0, 0))) := ⟨by rw [← hq_]; exact (by (with_reducible repeat (first | refine blk_drewN ?_ _ | refine blk_drew ?_ | refine blk_alloc ?_ _)); exact BK621.out)⟩; have n3_ : Aside0 (Below w.heap.size w w31) := ⟨by rw [← hq_]; exact (by repeat (first | (with_reducible first | exact HB.out | apply below_alloc | apply pw_below_drewN | apply below_drew1 | refine below_set ?_ GE614.out | refine below_set ?_ GE621.out) | exact HB.out))⟩; clear HO620 BK614 BK621 HB hq_; have HO620 := n0_; have BK614 := n1_; have BK621 := n2_; have HB := n3_; clear n0_ n1_ n2_ n3_)); obtain ⟨Ao32, co32, eo32⟩ := Kd.R_slice HO620.out; subst eo32; have p623 : 0 ≤ (0 : Int) := (by omega); have q623 : 0 < (t617.length : Int) := of_decide_eq_true (by first | (with_reducible assumption) | assumption); obtain ⟨ad623, e623, hx623_0⟩ := Kd.at_int (Kd.R_reads' HO620.out).2.2 0 p623 q623; cases e623; have qi623 : (0 < t617.length) = True := eq_true (by omega); (try rw [show ((0 : Int)).toNat = 0 from rfl] at hx623_0); (try rw [Addr.add_zero'] at hx623_0); replace p623 := eq_true p623; replace q623 := eq_true q623; have p624 : 0 ≤ (0 : Int) := (by omega); have q624 : 0 < (t617.length : Int) := of_decide_eq_true (by first | (with_reducible assumption) | assumption); obtain ⟨ad624, e624, hx624_0⟩ := Kd.at_int (Kd.R_reads' HO620.out).2.2 0 p624 q624; obtain rfl : ad623 = ad624 := (by injection e624); have qi624 : (0 < t617.length) = True := eq_true (by omega); (try rw [show ((0 : Int)).toNat = 0 from rfl] at hx624_0); (try rw [Addr.add_zero'] at hx624_0); replace p624 := eq_true p624; replace q624 := eq_true q624; have hcz33_0 : w31.cell? ⟨gb614, 0, none⟩ = some (.int .u16 0) := (blk_cell BK614.out 0).trans rfl; have hcz33_1 : w31.cell? ⟨gb614, 1, none⟩ = some (.int .u8 0) := (blk_cell BK614.out 1).trans rfl; have hcz33_2 : w31.cell? ⟨gb614, 2, none⟩ = some (.int .u8 0) := (blk_cell BK614.out 2).trans rfl; have hcz33_3 : w31.cell? ⟨gb614, 3, none⟩ = some (.slice none 0 0) := (blk_cell BK614.out 3).trans rfl; have hcz33_4 : w31.cell? ⟨gb614, 4, none⟩ = some (.int .u16 0) := (blk_cell BK614.out 4).trans rfl; have hcz33_5 : w31.cell? ⟨gb614, 5, none⟩ = some (.int .u32 0) := (blk_cell BK614.out 5).trans rfl; have hcz33_6 : w31.cell? ⟨gb614, 6, none⟩ = some (.slice none 0 0) := (blk_cell BK614.out 6).trans rfl; have hcz33_7 : w31.cell? ⟨gb614, 7, none⟩ = some (.slice none 0 0) := (blk_cell BK614.out 7).trans rfl; have hcz33_8 : w31.cell? ⟨gb614, 8, none⟩ = some (.slice none 0 0) := (blk_cell BK614.out 8).trans rfl; have hcz33_9 : w31.cell? ⟨gb614, 9, none⟩ = some (.slice none 0 0) := (blk_cell BK614.out 9).trans rfl; have hfz33_0 := blk_frozen BK614.out 0; have hfz33_1 := blk_frozen BK614.out 1; have hfz33_2 := blk_frozen BK614.out 2; have hfz33_3 := blk_frozen BK614.out 3; have hfz33_4 := blk_frozen BK614.out 4; have hfz33_5 := blk_frozen BK614.out 5; have hfz33_6 := blk_frozen BK614.out 6; have hfz33_7 := blk_frozen BK614.out 7; have hfz33_8 := blk_frozen BK614.out 8; have hfz33_9 := blk_frozen BK614.out 9))
             refine bodyPost_ret (results_ct rfl _ _ gb614 47 #[.int .u16 0, .int .u8 0, .int .u8 0, .slice none 0 0, .int .u16 0, .int .u32 0, .slice none 0 0, .slice none 0 0, .slice none 0 0, .slice none 0 0] (0, 0) _ rfl (by (with_reducible repeat (first | refine blk_drewN ?_ _ | refine blk_drew ?_ | refine blk_alloc ?_ _)); refine blk_put (cs := #[.int .u16 0, .int .u8 0, .int .u8 0, .slice none 0 0, .int .u16 0, .int .u32 0, .slice none 0 0, .slice none 0 0, .slice none 0 0, .slice none 0 0]) ?_ 9 _ rfl; (with_reducible repeat (first | refine blk_drewN ?_ _ | refine blk_drew ?_ | refine blk_alloc ?_ _)); refine blk_put (cs := #[.int .u16 0, .int .u8 0, .int .u8 0, .slice none 0 0, .int .u16 0, .int .u32 0, .slice none 0 0, .slice none 0 0, .slice none 0 0, .slice none 0 0]) ?_ 8 _ rfl; (with_reducible repeat (first | refine blk_drewN ?_ _ | refine blk_drew ?_ | refine blk_alloc ?_ _)); refine blk_put (cs := #[.int .u16 0, .int .u8 0, .int .u8 0, .slice none 0 0, .int .u16 0, .int .u32 0, .slice none 0 0, .slice none 0 0, .slice none 0 0, .slice none 0 0]) ?_ 7 _ rfl; (with_reducible repeat (first | refine blk_drewN ?_ _ | refine blk_drew ?_ | refine blk_alloc ?_ _)); refine blk_put (cs := #[.int .u16 0, .int .u8 0, .int .u8 0, .slice none 0 0, .int .u16 0, .int .u32 0, .slice none 0 0, .slice none 0 0, .slice none 0 0, .slice none 0 0]) ?_ 6 _ rfl; (with_reducible repeat (first | refine blk_drewN ?_ _ | refine blk_drew ?_ | refine blk_alloc ?_ _)); refine blk_put (cs := #[.int .u16 0, .int .u8 0, .int .u8 0, .slice none 0 0, .int .u16 0, .int .u32 0, .slice none 0 0, .slice none 0 0, .slice none 0 0, .slice none 0 0]) ?_ 5 _ rfl; (with_reducible repeat (first | refine blk_drewN ?_ _ | refine blk_drew ?_ | refine blk_alloc ?_ _)); refine blk_put (cs := #[.int .u16 0, .int .u8 0, .int .u8 0, .slice none 0 0, .int .u16 0, .int .u32 0, .slice none 0 0, .slice none 0 0, .slice none 0 0, .slice none 0 0]) ?_ 4 _ rfl; (with_reducible repeat (first | refine blk_drewN ?_ _ | refine blk_drew ?_ | refine blk_alloc ?_ _)); refine blk_put (cs := #[.int .u16 0, .int .u8 0, .int .u8 0, .slice none 0 0, .int .u16 0, .int .u32 0, .slice none 0 0, .slice none 0 0, .slice none 0 0, .slice none 0 0]) ?_ 3 _ rfl; (with_reducible repeat (first | refine blk_drewN ?_ _ | refine blk_drew ?_ | refine blk_alloc ?_ _)); refine blk_put (cs := #[.int .u16 0, .int .u8 0, .int .u8 0, .slice none 0 0, .int .u16 0, .int .u32 0, .slice none 0 0, .slice none 0 0, .slice none 0 0, .slice none 0 0]) ?_ 2 _ rfl; (with_reducible repeat (first | refine blk_drewN ?_ _ | refine blk_drew ?_ | refine blk_alloc ?_ _)); refine blk_put (cs := #[.int .u16 0, .int .u8 0, .int .u8 0, .slice none 0 0, .int .u16 0, .int .u32 0, .slice none 0 0, .slice none 0 0, .slice none 0 0, .slice none 0 0]) ?_ 1 _ rfl; (with_reducible repeat (first | refine blk_drewN ?_ _ | refine blk_drew ?_ | refine blk_alloc ?_ _)); refine blk_put (cs := #[.int .u16 0, .int .u8 0, .int .u8 0, .slice none 0 0, .int .u16 0, .int .u32 0, .slice none 0 0, .slice none 0 0, .slice none 0 0, .slice none 0 0]) ?_ 0 _ rfl; (with_reducible repeat (first | refine blk_drewN ?_ _ | refine blk_drew ?_ | refine blk_alloc ?_ _)); exact BK614.out) Try.underlying47 rfl (by kernel_rfl)) rfl ?_
             exact ⟨_, _, _, _, _, by first | rfl | (simp [errW_none, errW_some] <;> rfl) | (simp [*, errW_none, errW_some] <;> rfl), by first | exact Kd.S_nil _ _ _ _ _ | exact Kd.N_nil _ _ _ _ _ | exact Kd.V_nil _ _ _ _ _ | exact Kd.Q_nil _ _ _ _ _ | exact Kd.R_nil _ _ _ _ _, by first | exact Kd.R_nil _ _ _ _ _ | exact Kd.N_nil _ _ _ _ _ | exact Kd.V_nil _ _ _ _ _ | exact Kd.Q_nil _ _ _ _ _ | exact Kd.S_nil _ _ _ _ _, by first | exact Kd.R_nil _ _ _ _ _ | exact Kd.N_nil _ _ _ _ _ | exact Kd.V_nil _ _ _ _ _ | exact Kd.Q_nil _ _ _ _ _ | exact Kd.S_nil _ _ _ _ _, by first | exact Kd.R_nil _ _ _ _ _ | exact Kd.N_nil _ _ _ _ _ | exact Kd.V_nil _ _ _ _ _ | exact Kd.Q_nil _ _ _ _ _ | exact Kd.S_nil _ _ _ _ _, by first | exact Kd.R_nil _ _ _ _ _ | exact Kd.N_nil _ _ _ _ _ | exact Kd.V_nil _ _ _ _ _ | exact Kd.Q_nil _ _ _ _ _ | exact Kd.S_nil _ _ _ _ _, by repeat (first | (with_reducible first | exact HB.out | apply below_alloc | apply pw_below_drewN | apply below_drew1 | refine below_set ?_ GE614.out | refine below_set ?_ GE621.out) | exact HB.out)⟩
           · rw [if_neg c25] at H
             have c25b0 : decide ((t617.length : Int) < (wrap64 (1 + (wrap64 (rd t617 0))))) = false := decide_eq_false c25
             clear c25
             by_cases c34 : 1 ≤ (wrap64 (1 + (wrap64 (rd t617 0))))
             · rw [if_pos c34] at H
               have c34b0 := eq_true c34
               have c34b1 : decide (1 ≤ (wrap64 (1 + (wrap64 (rd t617 0))))) = true := decide_eq_true c34
               by_cases c35 : (wrap64 (1 + (wrap64 (rd t617 0)))) ≤ (t617.length : Int)
               · rw [if_pos c35] at H
                 have c35b0 := eq_true c35
                 have c35b1 : decide ((wrap64 (1 + (wrap64 (rd t617 0)))) ≤ (t617.length : Int)) = true := decide_eq_true c35
                 obtain ⟨y625, hy625⟩ : ∃ y_ : List Int, y_ = ((t617.take ((wrap64 (1 + (wrap64 (rd t617 0)))) : Int).toNat).drop 1) := ⟨_, rfl⟩
                 replace H : ((slices_Clone_byte_byte.f y625).bind fun t629 => (if 0 ≤ (wrap64 (1 + (wrap64 (rd t617 0)))) then ((slices_Clone_byte_byte.f (t617.drop ((wrap64 (1 + (wrap64 (rd t617 0)))) : Int).toNat)).bind fun t636 => (some (49699, t615, t616, ([] : List (S57)), 0, 0, t629, t636, ([] : List Int), ([] : List Int), 0))) else (none))) = some (r1, r2, r3, r4, r5, r6, r7, r8, r9, r10, r11) := by first | (rw [hy625]; with_reducible exact H) | (have H2_ := (Option.bind_some _ _).symm.trans H; rw [hy625]; with_reducible exact H2_) | (have H2_ := (Option.bind_some _ _).symm.trans H; with_reducible exact H2_) | with_reducible exact H | (rw [hy625]; exact H) | exact H
                 have Ny625 := Aside0.mk hy625
                 clear hy625
                 replace H := Option.bind_eq_some_iff.mp H
                 obtain ⟨t629, A360, H⟩ := H
                 replace H : (if 0 ≤ (wrap64 (1 + (wrap64 (rd t617 0)))) then ((slices_Clone_byte_byte.f (t617.drop ((wrap64 (1 + (wrap64 (rd t617 0)))) : Int).toNat)).bind fun t636 => (some (49699, t615, t616, ([] : List (S57)), 0, 0, t629, t636, ([] : List Int), ([] : List Int), 0))) else (none)) = some (r1, r2, r3, r4, r5, r6, r7, r8, r9, r10, r11) := H
                 have A36 := Aside0.mk A360
                 clear A360
                 obtain ⟨ji37, hji37⟩ : ∃ j_ : Int, (wrap64 (1 + (wrap64 (rd t617 0)))) = j_ := ⟨_, rfl⟩
                 replace H : (if 0 ≤ (ji37) then ((slices_Clone_byte_byte.f (t617.drop ((ji37) : Int).toNat)).bind fun t636 => (some (49699, t615, t616, ([] : List (S57)), 0, 0, t629, t636, ([] : List Int), ([] : List Int), 0))) else (none)) = some (r1, r2, r3, r4, r5, r6, r7, r8, r9, r10, r11) := by first | (rw [hji37] at H; exact H) | (simp only [hji37] at H ⊢; exact H)
                 (try rw [hji37] at c25b0)
                 (try rw [hji37] at c34b0)
                 (try rw [hji37] at c34b1)
                 (try rw [hji37] at c34)
                 (try rw [hji37] at c35b0)
                 (try rw [hji37] at c35b1)
                 (try rw [hji37] at c35)
                 (try rw [hji37] at A2)
                 (try rw [hji37] at A4)
                 (try rw [hji37] at Ny625)
                 (try rw [hji37] at A36)
                 have hji37w : (IntKind.i64.wrap (1 + (wrap64 (rd t617 0)))) = ji37 := (i64_w _).trans hji37
                 by_cases c38 : 0 ≤ (ji37)
                 · rw [if_pos c38] at H
                   have c38b0 := eq_true c38
                   have c38b1 : decide (0 ≤ (ji37)) = true := decide_eq_true c38
                   clear c38
                   have c39b0 := eq_true (of_decide_eq_true (by first | (with_reducible assumption) | assumption) : (ji37) ≤ (t617.length : Int))
                   obtain ⟨y632, hy632⟩ : ∃ y_ : List Int, y_ = (t617.drop ((ji37) : Int).toNat) := ⟨_, rfl⟩
                   replace H : ((slices_Clone_byte_byte.f y632).bind fun t636 => (some (49699, t615, t616, ([] : List (S57)), 0, 0, t629, t636, ([] : List Int), ([] : List Int), 0))) = some (r1, r2, r3, r4, r5, r6, r7, r8, r9, r10, r11) := by first | (rw [hy632]; with_reducible exact H) | (have H2_ := (Option.bind_some _ _).symm.trans H; rw [hy632]; with_reducible exact H2_) | (have H2_ := (Option.bind_some _ _).symm.trans H; with_reducible exact H2_) | with_reducible exact H | (rw [hy632]; exact H) | exact H
                   have Ny632 := Aside0.mk hy632
                   clear hy632
                   replace H := Option.bind_eq_some_iff.mp H
                   obtain ⟨t636, A400, H⟩ := H
                   replace H : (some (49699, t615, t616, ([] : List (S57)), 0, 0, t629, t636, ([] : List Int), ([] : List Int), 0)) = some (r1, r2, r3, r4, r5, r6, r7, r8, r9, r10, r11) := H
                   have A40 := Aside0.mk A400
                   clear A400
                   simp only [Option.some.injEq, Prod.mk.injEq] at H
                   obtain ⟨rfl, rfl, rfl, rfl, rfl, rfl, rfl, rfl, rfl, rfl, rfl⟩ := H
                   go_enter Try.func38, Try.ntmps38
                   try go_wp2_with (first | ((with_reducible refine gate_dst (N := 2) rfl ?_); refine box_event ?hg (N := 2) ?hd (cs := #[.int .u16 0, .int .u8 0, .int .u8 0, .slice none 0 0, .int .u16 0, .int .u32 0, .slice none 0 0, .slice none 0 0, .slice none 0 0, .slice none 0 0]) (t := 47) ?hr ?_; (case hd => rfl); (case hg => rfl); (case hr => first | (go_simp; done) | (go_simp; simp only [IntKind.wrap_u8, IntKind.wrap_u16, IntKind.wrap_u32, IntKind.wrap_u64]; done) | (go_simp; rfl)); intro gb614 hg w41 hbox hb; have n0_ := Aside0.mk (below_step (by repeat (first | (with_reducible first | exact HB.out | apply below_alloc | apply pw_below_drewN | apply below_drew1) | exact HB.out)) hb); have n1_ := Aside0.mk (hbox); have n2_ := Aside0.mk ((by rw [hg]; exact (below_size (by repeat (first | (with_reducible first | exact HB.out | apply below_alloc | apply pw_below_drewN | apply below_drew1) | exact HB.out))) : w.heap.size ≤ gb614)); have n3_ := Aside0.mk ((by rw [hg]; exact (below_size (by repeat (first | (with_reducible first | exact HB.out | apply below_alloc | apply pw_below_drewN | apply below_drew1) | exact HB.out))) : w.heap.size ≤ gb614)); clear HB; have HB := n0_; have BK614 := n1_; have GW614 := n2_; have GE614 := n3_; clear n0_ n1_ n2_ n3_; clear hb hbox hg) | ((with_reducible refine gate_callee (f := 53) rfl ?_); refine goesL_ (some 12) rfl rfl Try.func53 (by kernel_rfl) rfl #[.slice A0 l0.length c0] rfl (by (try simp only [List.map_toArray, List.map_cons, List.map_nil]); first | done | rfl | (simp only [List.length_drop, List.length_take]; rfl)) ?_; (with_reducible refine (ctl_Get.calls k _ _ l0 t615 t616 t617 t618 _ ?side1 ?side2 A2.out).mono ?_); (case side1 => repeat (first | exact (Kd.C_below HR0.out HB.out) | (with_reducible refine Kd.C_alloc ?_ _) | (with_reducible refine Kd.C_drewN ?_ _) | (with_reducible refine Kd.C_drew ?_))); (case side2 => exact HC0.out); rintro e w42 ⟨v619, rfl, ho0, hb⟩; refine ⟨_, rfl, ?_⟩; have n0_ := Aside0.mk (Kd.R_lower ho0 (below_size (by repeat (first | (with_reducible first | exact HB.out | apply below_alloc | apply pw_below_drewN | apply below_drew1 | refine below_set ?_ GE614.out) | exact HB.out)))); have n1_ := Aside0.mk (blk_below (g := gb614) (o := .cells #[.int .u16 0, .int .u8 0, .int .u8 0, .slice none 0 0, .int .u16 0, .int .u32 0, .slice none 0 0, .slice none 0 0, .slice none 0 0, .slice none 0 0] 47 (0, 0)) (by (with_reducible repeat (first | refine blk_drewN ?_ _ | refine blk_drew ?_ | refine blk_alloc ?_ _)); exact BK614.out) hb); have n2_ := Aside0.mk (below_step (by repeat (first | (with_reducible first | exact HB.out | apply below_alloc | apply pw_below_drewN | apply below_drew1 | refine below_set ?_ GE614.out) | exact HB.out)) hb); clear BK614; clear HB; have HO620 := n0_; have BK614 := n1_; have HB := n2_; clear n0_ n1_ n2_; (try clear hb); (try clear hb2); (try clear hk); (try clear hi); (try clear ho0)) | ((with_reducible refine gate_dst (N := 8) rfl ?_); refine box_event ?hg (N := 8) ?hd (cs := #[.int .u16 0, .int .u8 0, .int .u8 0, .slice none 0 0, .int .u16 0, .int .u32 0, .slice none 0 0, .slice none 0 0, .slice none 0 0, .slice none 0 0]) (t := 47) ?hr ?_; (case hd => rfl); (case hg => rfl); (case hr => first | (go_simp; done) | (go_simp; simp only [IntKind.wrap_u8, IntKind.wrap_u16, IntKind.wrap_u32, IntKind.wrap_u64]; done) | (go_simp; rfl)); intro gb621 hg w43 hbox hb; have n0_ := Aside0.mk (Kd.R_below (by (with_reducible repeat (first | apply Kd.R_alloc | apply Kd.R_drewN | apply Kd.R_drew)); exact HO620.out) hb); have n1_ := Aside0.mk (blk_below (g := gb614) (o := .cells #[.int .u16 0, .int .u8 0, .int .u8 0, .slice none 0 0, .int .u16 0, .int .u32 0, .slice none 0 0, .slice none 0 0, .slice none 0 0, .slice none 0 0] 47 (0, 0)) (by (with_reducible repeat (first | refine blk_drewN ?_ _ | refine blk_drew ?_ | refine blk_alloc ?_ _)); exact BK614.out) hb); have n2_ := Aside0.mk (below_step (by repeat (first | (with_reducible first | exact HB.out | apply below_alloc | apply pw_below_drewN | apply below_drew1 | refine below_set ?_ GE614.out) | exact HB.out)) hb); have n3_ := Aside0.mk (hbox); have n4_ := Aside0.mk ((by rw [hg]; exact (below_size (by repeat (first | (with_reducible first | exact HB.out | apply below_alloc | apply pw_below_drewN | apply below_drew1 | refine below_set ?_ GE614.out) | exact HB.out))) : w.heap.size ≤ gb621)); have n5_ := Aside0.mk ((by rw [hg]; exact (below_size (by repeat (first | (with_reducible first | exact HB.out | apply below_alloc | apply pw_below_drewN | apply below_drew1 | refine below_set ?_ GE614.out) | exact HB.out))) : w.heap.size ≤ gb621)); have n6_ := Aside0.mk ((by rw [hg]; exact Nat.ne_of_lt (blk_lt (g := gb614) (o := .cells #[.int .u16 0, .int .u8 0, .int .u8 0, .slice none 0 0, .int .u16 0, .int .u32 0, .slice none 0 0, .slice none 0 0, .slice none 0 0, .slice none 0 0] 47 (0, 0)) (by (with_reducible repeat (first | refine blk_drewN ?_ _ | refine blk_drew ?_ | refine blk_alloc ?_ _)); exact BK614.out)) : gb614 ≠ gb621)); have n7_ := Aside0.mk ((by rw [hg]; exact Nat.ne_of_gt (blk_lt (g := gb614) (o := .cells #[.int .u16 0, .int .u8 0, .int .u8 0, .slice none 0 0, .int .u16 0, .int .u32 0, .slice none 0 0, .slice none 0 0, .slice none 0 0, .slice none 0 0] 47 (0, 0)) (by (with_reducible repeat (first | refine blk_drewN ?_ _ | refine blk_drew ?_ | refine blk_alloc ?_ _)); exact BK614.out)) : gb621 ≠ gb614)); clear HO620; clear BK614; clear HB; have HO620 := n0_; have BK614 := n1_; have HB := n2_; have BK621 := n3_; have GW621 := n4_; have GE621 := n5_; have NB614_621 := n6_; have NB621_614 := n7_; clear n0_ n1_ n2_ n3_ n4_ n5_ n6_ n7_; clear hb hbox hg; have hnb44 := NB621_614.out; have hnc44 := NB614_621.out; have hcz45_0 : w43.cell? ⟨gb621, 0, none⟩ = some (.int .u16 0) := (blk_cell BK621.out 0).trans rfl; have hcz45_1 : w43.cell? ⟨gb621, 1, none⟩ = some (.int .u8 0) := (blk_cell BK621.out 1).trans rfl; have hcz45_2 : w43.cell? ⟨gb621, 2, none⟩ = some (.int .u8 0) := (blk_cell BK621.out 2).trans rfl; have hcz45_3 : w43.cell? ⟨gb621, 3, none⟩ = some (.slice none 0 0) := (blk_cell BK621.out 3).trans rfl; have hcz45_4 : w43.cell? ⟨gb621, 4, none⟩ = some (.int .u16 0) := (blk_cell BK621.out 4).trans rfl; have hcz45_5 : w43.cell? ⟨gb621, 5, none⟩ = some (.int .u32 0) := (blk_cell BK621.out 5).trans rfl; have hcz45_6 : w43.cell? ⟨gb621, 6, none⟩ = some (.slice none 0 0) := (blk_cell BK621.out 6).trans rfl; have hcz45_7 : w43.cell? ⟨gb621, 7, none⟩ = some (.slice none 0 0) := (blk_cell BK621.out 7).trans rfl; have hcz45_8 : w43.cell? ⟨gb621, 8, none⟩ = some (.slice none 0 0) := (blk_cell BK621.out 8).trans rfl; have hcz45_9 : w43.cell? ⟨gb621, 9, none⟩ = some (.slice none 0 0) := (blk_cell BK621.out 9).trans rfl; have hfz45_0 := blk_frozen BK621.out 0; have hfz45_1 := blk_frozen BK621.out 1; have hfz45_2 := blk_frozen BK621.out 2; have hfz45_3 := blk_frozen BK621.out 3; have hfz45_4 := blk_frozen BK621.out 4; have hfz45_5 := blk_frozen BK621.out 5; have hfz45_6 := blk_frozen BK621.out 6; have hfz45_7 := blk_frozen BK621.out 7; have hfz45_8 := blk_frozen BK621.out 8; have hfz45_9 := blk_frozen BK621.out 9) | ((with_reducible refine gate_callee (f := 57) rfl ?_); have n0_ : Aside0 (Kd.R (Kd.int .u8) 5 ((((((((((w43.setCell ⟨gb621, 0, none⟩ (.int .u16 49699)).setCell ⟨gb621, 1, none⟩ (.int .u8 t615)).setCell ⟨gb621, 2, none⟩ (.int .u8 t616)).setCell ⟨gb621, 3, none⟩ (.slice none 0 0)).setCell ⟨gb621, 4, none⟩ (.int .u16 0)).setCell ⟨gb621, 5, none⟩ (.int .u32 0)).setCell ⟨gb621, 6, none⟩ (.slice none 0 0)).setCell ⟨gb621, 7, none⟩ (.slice none 0 0)).setCell ⟨gb621, 8, none⟩ (.slice none 0 0)).setCell ⟨gb621, 9, none⟩ (.slice none 0 0)) w.heap.size (fun _ => True) v619 t617) := ⟨by (with_reducible repeat (first | apply Kd.R_alloc | apply Kd.R_drewN | apply Kd.R_drew)); exact Kd.R_mono (Kd.R_far (p := ⟨gb621, 9, none⟩) (Kd.R_far (p := ⟨gb621, 8, none⟩) (Kd.R_far (p := ⟨gb621, 7, none⟩) (Kd.R_far (p := ⟨gb621, 6, none⟩) (Kd.R_far (p := ⟨gb621, 5, none⟩) (Kd.R_far (p := ⟨gb621, 4, none⟩) (Kd.R_far (p := ⟨gb621, 3, none⟩) (Kd.R_far (p := ⟨gb621, 2, none⟩) (Kd.R_far (p := ⟨gb621, 1, none⟩) (Kd.R_far (p := ⟨gb621, 0, none⟩) (Kd.R_types HO620.out BK621.out (by decide)) (fun _ hk => hk.2) (.int .u16 49699)) (fun _ hk => hk.2) (.int .u8 t615)) (fun _ hk => hk.2) (.int .u8 t616)) (fun _ hk => hk.2) (.slice none 0 0)) (fun _ hk => hk.2) (.int .u16 0)) (fun _ hk => hk.2) (.int .u32 0)) (fun _ hk => hk.2) (.slice none 0 0)) (fun _ hk => hk.2) (.slice none 0 0)) (fun _ hk => hk.2) (.slice none 0 0)) (fun _ hk => hk.2) (.slice none 0 0)) (fun _ hk => trivial)⟩; have n1_ : Aside0 (((((((((((w43.setCell ⟨gb621, 0, none⟩ (.int .u16 49699)).setCell ⟨gb621, 1, none⟩ (.int .u8 t615)).setCell ⟨gb621, 2, none⟩ (.int .u8 t616)).setCell ⟨gb621, 3, none⟩ (.slice none 0 0)).setCell ⟨gb621, 4, none⟩ (.int .u16 0)).setCell ⟨gb621, 5, none⟩ (.int .u32 0)).setCell ⟨gb621, 6, none⟩ (.slice none 0 0)).setCell ⟨gb621, 7, none⟩ (.slice none 0 0)).setCell ⟨gb621, 8, none⟩ (.slice none 0 0)).setCell ⟨gb621, 9, none⟩ (.slice none 0 0)).heap[gb614]? = some (.cells #[.int .u16 0, .int .u8 0, .int .u8 0, .slice none 0 0, .int .u16 0, .int .u32 0, .slice none 0 0, .slice none 0 0, .slice none 0 0, .slice none 0 0] 47 (0, 0))) := ⟨by (with_reducible repeat (first | refine blk_drewN ?_ _ | refine blk_drew ?_ | refine blk_alloc ?_ _)); refine blk_far ?_ NB614_621.out _; (with_reducible repeat (first | refine blk_drewN ?_ _ | refine blk_drew ?_ | refine blk_alloc ?_ _)); refine blk_far ?_ NB614_621.out _; (with_reducible repeat (first | refine blk_drewN ?_ _ | refine blk_drew ?_ | refine blk_alloc ?_ _)); refine blk_far ?_ NB614_621.out _; (with_reducible repeat (first | refine blk_drewN ?_ _ | refine blk_drew ?_ | refine blk_alloc ?_ _)); refine blk_far ?_ NB614_621.out _; (with_reducible repeat (first | refine blk_drewN ?_ _ | refine blk_drew ?_ | refine blk_alloc ?_ _)); refine blk_far ?_ NB614_621.out _; (with_reducible repeat (first | refine blk_drewN ?_ _ | refine blk_drew ?_ | refine blk_alloc ?_ _)); refine blk_far ?_ NB614_621.out _; (with_reducible repeat (first | refine blk_drewN ?_ _ | refine blk_drew ?_ | refine blk_alloc ?_ _)); refine blk_far ?_ NB614_621.out _; (with_reducible repeat (first | refine blk_drewN ?_ _ | refine blk_drew ?_ | refine blk_alloc ?_ _)); refine blk_far ?_ NB614_621.out _; (with_reducible repeat (first | refine blk_drewN ?_ _ | refine blk_drew ?_ | refine blk_alloc ?_ _)); refine blk_far ?_ NB614_621.out _; (with_reducible repeat (first | refine blk_drewN ?_ _ | refine blk_drew ?_ | refine blk_alloc ?_ _)); refine blk_far ?_ NB614_621.out _; (with_reducible repeat (first | refine blk_drewN ?_ _ | refine blk_drew ?_ | refine blk_alloc ?_ _)); exact BK614.out⟩; have n2_ : Aside0 (((((((((((w43.setCell ⟨gb621, 0, none⟩ (.int .u16 49699)).setCell ⟨gb621, 1, none⟩ (.int .u8 t615)).setCell ⟨gb621, 2, none⟩ (.int .u8 t616)).setCell ⟨gb621, 3, none⟩ (.slice none 0 0)).setCell ⟨gb621, 4, none⟩ (.int .u16 0)).setCell ⟨gb621, 5, none⟩ (.int .u32 0)).setCell ⟨gb621, 6, none⟩ (.slice none 0 0)).setCell ⟨gb621, 7, none⟩ (.slice none 0 0)).setCell ⟨gb621, 8, none⟩ (.slice none 0 0)).setCell ⟨gb621, 9, none⟩ (.slice none 0 0)).heap[gb621]? = some (.cells #[.int .u16 49699, .int .u8 t615, .int .u8 t616, .slice none 0 0, .int .u16 0, .int .u32 0, .slice none 0 0, .slice none 0 0, .slice none 0 0, .slice none 0 0] 47 (0, 0))) := ⟨by (with_reducible repeat (first | refine blk_drewN ?_ _ | refine blk_drew ?_ | refine blk_alloc ?_ _)); refine blk_put (cs := #[.int .u16 49699, .int .u8 t615, .int .u8 t616, .slice none 0 0, .int .u16 0, .int .u32 0, .slice none 0 0, .slice none 0 0, .slice none 0 0, .slice none 0 0]) ?_ 9 _ rfl; (with_reducible repeat (first | refine blk_drewN ?_ _ | refine blk_drew ?_ | refine blk_alloc ?_ _)); refine blk_put (cs := #[.int .u16 49699, .int .u8 t615, .int .u8 t616, .slice none 0 0, .int .u16 0, .int .u32 0, .slice none 0 0, .slice none 0 0, .slice none 0 0, .slice none 0 0]) ?_ 8 _ rfl; (with_reducible repeat (first | refine blk_drewN ?_ _ | refine blk_drew ?_ | refine blk_alloc ?_ _)); refine blk_put (cs := #[.int .u16 49699, .int .u8 t615, .int .u8 t616, .slice none 0 0, .int .u16 0, .int .u32 0, .slice none 0 0, .slice none 0 0, .slice none 0 0, .slice none 0 0]) ?_ 7 _ rfl; (with_reducible repeat (first | refine blk_drewN ?_ _ | refine blk_drew ?_ | refine blk_alloc ?_ _)); refine blk_put (cs := #[.int .u16 49699, .int .u8 t615, .int .u8 t616, .slice none 0 0, .int .u16 0, .int .u32 0, .slice none 0 0, .slice none 0 0, .slice none 0 0, .slice none 0 0]) ?_ 6 _ rfl; (with_reducible repeat (first | refine blk_drewN ?_ _ | refine blk_drew ?_ | refine blk_alloc ?_ _)); refine blk_put (cs := #[.int .u16 49699, .int .u8 t615, .int .u8 t616, .slice none 0 0, .int .u16 0, .int .u32 0, .slice none 0 0, .slice none 0 0, .slice none 0 0, .slice none 0 0]) ?_ 5 _ rfl; (with_reducible repeat (first | refine blk_drewN ?_ _ | refine blk_drew ?_ | refine blk_alloc ?_ _)); refine blk_put (cs := #[.int .u16 49699, .int .u8 t615, .int .u8 t616, .slice none 0 0, .int .u16 0, .int .u32 0, .slice none 0 0, .slice none 0 0, .slice none 0 0, .slice none 0 0]) ?_ 4 _ rfl; (with_reducible repeat (first | refine blk_drewN ?_ _ | refine blk_drew ?_ | refine blk_alloc ?_ _)); refine blk_put (cs := #[.int .u16 49699, .int .u8 t615, .int .u8 t616, .slice none 0 0, .int .u16 0, .int .u32 0, .slice none 0 0, .slice none 0 0, .slice none 0 0, .slice none 0 0]) ?_ 3 _ rfl; (with_reducible repeat (first | refine blk_drewN ?_ _ | refine blk_drew ?_ | refine blk_alloc ?_ _)); refine blk_put (cs := #[.int .u16 49699, .int .u8 t615, .int .u8 0, .slice none 0 0, .int .u16 0, .int .u32 0, .slice none 0 0, .slice none 0 0, .slice none 0 0, .slice none 0 0]) ?_ 2 _ rfl; (with_reducible repeat (first | refine blk_drewN ?_ _ | refine blk_drew ?_ | refine blk_alloc ?_ _)); refine blk_put (cs := #[.int .u16 49699, .int .u8 0, .int .u8 0, .slice none 0 0, .int .u16 0, .int .u32 0, .slice none 0 0, .slice none 0 0, .slice none 0 0, .slice none 0 0]) ?_ 1 _ rfl; (with_reducible repeat (first | refine blk_drewN ?_ _ | refine blk_drew ?_ | refine blk_alloc ?_ _)); refine blk_put (cs := #[.int .u16 0, .int .u8 0, .int .u8 0, .slice none 0 0, .int .u16 0, .int .u32 0, .slice none 0 0, .slice none 0 0, .slice none 0 0, .slice none 0 0]) ?_ 0 _ rfl; (with_reducible repeat (first | refine blk_drewN ?_ _ | refine blk_drew ?_ | refine blk_alloc ?_ _)); exact BK621.out⟩; have n3_ : Aside0 (Below w.heap.size w ((((((((((w43.setCell ⟨gb621, 0, none⟩ (.int .u16 49699)).setCell ⟨gb621, 1, none⟩ (.int .u8 t615)).setCell ⟨gb621, 2, none⟩ (.int .u8 t616)).setCell ⟨gb621, 3, none⟩ (.slice none 0 0)).setCell ⟨gb621, 4, none⟩ (.int .u16 0)).setCell ⟨gb621, 5, none⟩ (.int .u32 0)).setCell ⟨gb621, 6, none⟩ (.slice none 0 0)).setCell ⟨gb621, 7, none⟩ (.slice none 0 0)).setCell ⟨gb621, 8, none⟩ (.slice none 0 0)).setCell ⟨gb621, 9, none⟩ (.slice none 0 0))) := ⟨by repeat (first | (with_reducible first | exact HB.out | apply below_alloc | apply pw_below_drewN | apply below_drew1 | refine below_set ?_ GE614.out | refine below_set ?_ GE621.out) | exact HB.out)⟩; (try clear HO620); (try clear BK614); (try clear BK621); (try clear HB); generalize ((((((((((w43.setCell ⟨gb621, 0, none⟩ (.int .u16 49699)).setCell ⟨gb621, 1, none⟩ (.int .u8 t615)).setCell ⟨gb621, 2, none⟩ (.int .u8 t616)).setCell ⟨gb621, 3, none⟩ (.slice none 0 0)).setCell ⟨gb621, 4, none⟩ (.int .u16 0)).setCell ⟨gb621, 5, none⟩ (.int .u32 0)).setCell ⟨gb621, 6, none⟩ (.slice none 0 0)).setCell ⟨gb621, 7, none⟩ (.slice none 0 0)).setCell ⟨gb621, 8, none⟩ (.slice none 0 0)).setCell ⟨gb621, 9, none⟩ (.slice none 0 0)) = w46 at n0_ n1_ n2_ n3_ ⊢; have HO620 := n0_; have BK614 := n1_; have BK621 := n2_; have HB := n3_; clear n0_ n1_ n2_ n3_; refine goesL_ (some 27) rfl rfl Try.func57 (by kernel_rfl) rfl #[.int .u8 t615] rfl (by (try simp only [List.map_toArray, List.map_cons, List.map_nil]); first | done | rfl | (simp only [List.length_drop, List.length_take]; rfl)) ?_; (with_reducible refine (chap_valued.calls t615 true _ A4.out).mono ?_); rintro e w' ⟨rfl, ⟨nd, rfl⟩⟩; refine ⟨_, rfl, ?_⟩; (try (rw [drewN_self w46]; generalize hq_ : World.drewN w46 _ = w46; have n0_ : Aside0 (Kd.R (Kd.int .u8) 5 w46 w.heap.size (fun _ => True) v619 t617) := ⟨by rw [← hq_]; exact (by (with_reducible repeat (first | apply Kd.R_alloc | apply Kd.R_drewN | apply Kd.R_drew)); exact HO620.out)⟩; have n1_ : Aside0 (w46.heap[gb614]? = some (.cells #[.int .u16 0, .int .u8 0, .int .u8 0, .slice none 0 0, .int .u16 0, .int .u32 0, .slice none 0 0, .slice none 0 0, .slice none 0 0, .slice none 0 0] 47 (0, 0))) := ⟨by rw [← hq_]; exact (by (with_reducible repeat (first | refine blk_drewN ?_ _ | refine blk_drew ?_ | refine blk_alloc ?_ _)); exact BK614.out)⟩; have n2_ : Aside0 (w46.heap[gb621]? = some (.cells #[.int .u16 49699, .int .u8 t615, .int .u8 t616, .slice none 0 0, .int .u16 0, .int .u32 0, .slice none 0 0, .slice none 0 0, .slice none 0 0, .slice none 0 0] 47 (0, 0))) := ⟨by rw [← hq_]; exact (by (with_reducible repeat (first | refine blk_drewN ?_ _ | refine blk_drew ?_ | refine blk_alloc ?_ _)); exact BK621.out)⟩; have n3_ : Aside0 (Below w.heap.size w w46) := ⟨by rw [← hq_]; exact (by repeat (first | (with_reducible first | exact HB.out | apply below_alloc | apply pw_below_drewN | apply below_drew1 | refine below_set ?_ GE614.out | refine below_set ?_ GE621.out) | exact HB.out))⟩; clear HO620 BK614 BK621 HB hq_; have HO620 := n0_; have BK614 := n1_; have BK621 := n2_; have HB := n3_; clear n0_ n1_ n2_ n3_)); obtain ⟨Ao47, co47, eo47⟩ := Kd.R_slice HO620.out; subst eo47; have p623 : 0 ≤ (0 : Int) := (by omega); have q623 : 0 < (t617.length : Int) := of_decide_eq_true (by first | (with_reducible assumption) | assumption); obtain ⟨ad623, e623, hx623_0⟩ := Kd.at_int (Kd.R_reads' HO620.out).2.2 0 p623 q623; cases e623; have qi623 : (0 < t617.length) = True := eq_true (by omega); (try rw [show ((0 : Int)).toNat = 0 from rfl] at hx623_0); (try rw [Addr.add_zero'] at hx623_0); replace p623 := eq_true p623; replace q623 := eq_true q623; have p624 : 0 ≤ (0 : Int) := (by omega); have q624 : 0 < (t617.length : Int) := of_decide_eq_true (by first | (with_reducible assumption) | assumption); obtain ⟨ad624, e624, hx624_0⟩ := Kd.at_int (Kd.R_reads' HO620.out).2.2 0 p624 q624; obtain rfl : ad623 = ad624 := (by injection e624); have qi624 : (0 < t617.length) = True := eq_true (by omega); (try rw [show ((0 : Int)).toNat = 0 from rfl] at hx624_0); (try rw [Addr.add_zero'] at hx624_0); replace p624 := eq_true p624; replace q624 := eq_true q624))
                   have n0_ := Aside0.mk (Kd.R_drew HO620.out)
                   have n1_ := Aside0.mk (blk_drew BK614.out)
                   have n2_ := Aside0.mk (blk_drew BK621.out)
                   have n3_ := Aside0.mk (below_drew1 HB.out)
                   clear HO620
                   clear BK614
                   clear BK621
                   clear HB
                   have HO620 := n0_
                   have BK614 := n1_
                   have BK621 := n2_
                   have HB := n3_
                   clear n0_ n1_ n2_ n3_
                   have q49 : ((ji37) : Int) ≤ ((t617.length : Int) : Int) := of_decide_eq_true (by first | (with_reducible assumption) | assumption)
                   obtain ⟨i049, hi049, _, hsz49, _⟩ := info_parts info5
                   have hroom49 : t617.length ≤ co47 := (Kd.R_reads' HO620.out).2.1
                   have hC49 : Kd.C (Kd.int .u8) _ (some ad623) t617.length t617 := (Kd.R_reads' HO620.out).2.2
                   have ql49 : (1 : Int) ≤ ((ji37) : Int) := of_decide_eq_true (by first | (with_reducible assumption) | assumption)
                   have hcut49 := cut_mid (P := Try.prog) 23 5 .i64 .i64 Try.underlying23 hi049 1 hsz49 (some ad623) t617.length co47 1 (ji37) (by omega) ql49 q49 hroom49
                   have hr49 := Kd.C_mid (lo := (1 : Int).toNat) (hi := ((ji37) : Int).toNat) (c := co47) hC49 (by omega) (by omega) hroom49
                   obtain ⟨A49, hA49⟩ : ∃ A1, A1 = (if co47 = (1 : Int).toNat then (some ad623) else ((some ad623) : Option Addr).map (·.add ((1 : Int).toNat * 1))) := ⟨_, rfl⟩
                   obtain ⟨c49, hc49⟩ : ∃ c1, c1 = co47 - (1 : Int).toNat := ⟨_, rfl⟩
                   have hy49 : y625.length = ((ji37) : Int).toNat - (1 : Int).toNat := (by rw [Ny625.out, List.length_drop, List.length_take] <;> omega)
                   rw [show ((t617).take ((ji37) : Int).toNat).drop (1 : Int).toNat = y625 from Ny625.out.symm] at hr49
                   replace hr49 : Kd.C (Kd.int .u8) _ A49 y625.length y625 := (by rw [hA49]; exact hr49)
                   rw [← hy49, ← hA49, ← hc49] at hcut49
                   have HR628 := Aside0.mk hr49
                   have HC628 := Aside0.mk (show y625.length ≤ c49 from by rw [hy49, hc49]; exact Nat.sub_le_sub_right (Nat.le_trans (by omega) hroom49) _)
                   clear hr49 hC49 hroom49 hi049 hsz49 hc49
                   have KY49 := Aside0.mk hy49
                   have KA49 := Aside0.mk hA49
                   clear hy49 hA49
                   have KL49 := Aside0.mk (show ((ji37) : Int).toNat ≤ t617.length from by omega)
                   have KM49 := Aside0.mk (show 1 ≤ ((ji37) : Int).toNat from by omega)
                   replace q49 := eq_true q49
                   have q50 : ((ji37) : Int) ≤ ((t617.length : Int) : Int) := of_decide_eq_true (by first | (with_reducible assumption) | assumption)
                   obtain ⟨i050, hi050, _, hsz50, _⟩ := info_parts info5
                   have hroom50 : t617.length ≤ co47 := (Kd.R_reads' HO620.out).2.1
                   have hC50 : Kd.C (Kd.int .u8) _ (some ad623) t617.length t617 := (Kd.R_reads' HO620.out).2.2
                   have q050 : (0 : Int) ≤ ((ji37) : Int) := of_decide_eq_true (by first | (with_reducible assumption) | assumption)
                   have hcut50 := cut_from (P := Try.prog) 23 5 .i64 Try.underlying23 hi050 1 hsz50 (some ad623) t617.length co47 (ji37) q050 q50
                   have hr50 := Kd.C_drop (m := ((ji37) : Int).toNat) (c := co47) hC50 (by omega) hroom50
                   obtain ⟨A50, hA50⟩ : ∃ A1, A1 = (if co47 = ((ji37) : Int).toNat then (some ad623) else ((some ad623) : Option Addr).map (·.add (((ji37) : Int).toNat * 1))) := ⟨_, rfl⟩
                   obtain ⟨c50, hc50⟩ : ∃ c1, c1 = co47 - ((ji37) : Int).toNat := ⟨_, rfl⟩
                   have hy50 : y632.length = t617.length - ((ji37) : Int).toNat := (by rw [Ny632.out, List.length_drop] <;> omega)
                   rw [show (t617).drop ((ji37) : Int).toNat = y632 from Ny632.out.symm] at hr50
                   replace hr50 : Kd.C (Kd.int .u8) _ A50 y632.length y632 := (by rw [hA50]; exact hr50)
                   rw [← hy50, ← hA50, ← hc50] at hcut50
                   have HR635 := Aside0.mk hr50
                   have HC635 := Aside0.mk (show y632.length ≤ c50 from by rw [hy50, hc50]; exact Nat.sub_le_sub_right hroom50 _)
                   clear hr50 hC50 hroom50 hi050 hsz50 hc50
                   have KY50 := Aside0.mk hy50
                   have KA50 := Aside0.mk hA50
                   clear hy50 hA50
                   have KL50 := Aside0.mk (show ((ji37) : Int).toNat ≤ t617.length from by omega)
                   replace q50 := eq_true q50
                   refine start_ (n := 12) (S := fun w' => True) (ds := []) #[false, false, false, false, false, false, false, false, false, false, false, false] (by kernel_rfl) rfl rfl trivial (fun hHeld => ?_); refine with_tabW chap_Get.tab15 chap_Get.bits15 (fun HT_ HW_ => ?_)
                   generalize w46.drew = w48 at HO620 BK614 BK621 HB HR628 HR635 hHeld ⊢
                   refine pure_ (i := 0) (N := some 53) (v := ?_) (a' := ?_) #[true, false, false, false, false, false, false, false, false, false, false, false] rfl rfl (any_of HT_.out (by kernel_rfl)) (fun _ _ _ h => h) (Or.inl ⟨by rfl, ?_⟩) ?_ ?_
                   rotate_left
                   · intro w'
                     go_simp
                     with_reducible rfl
                   rotate_left
                   · simp only [Act.put, List.setIfInBounds_toArray, List.set_cons_zero, List.set_cons_succ, i64_w, i32_w]
                     rfl
                   refine pure_ (i := 1) (N := some 54) (v := ?_) (a' := ?_) #[true, true, false, false, false, false, false, false, false, false, false, false] rfl rfl (any_of HT_.out (by kernel_rfl)) (fun _ _ _ h => h) (Or.inl ⟨by rfl, ?_⟩) ?_ ?_
                   rotate_left
                   · intro w'
                     go_simp
                     with_reducible rfl
                   rotate_left
                   · simp only [Act.put, List.setIfInBounds_toArray, List.set_cons_zero, List.set_cons_succ, i64_w, i32_w]
                     rfl
                   refine pure_ (i := 2) (N := some 55) (v := ?_) (a' := ?_) #[true, true, true, false, false, false, false, false, false, false, false, false] rfl rfl (any_of HT_.out (by kernel_rfl)) (fun _ _ _ h => h) (Or.inl ⟨by rfl, ?_⟩) ?_ ?_
                   rotate_left
                   · intro w'
                     go_simp
                     with_reducible rfl
                   rotate_left
                   · simp only [Act.put, List.setIfInBounds_toArray, List.set_cons_zero, List.set_cons_succ, i64_w, i32_w]
                     rfl
                   refine pure_ (i := 4) (N := some 57) (v := ?_) (a' := ?_) #[true, true, true, false, true, false, false, false, false, false, false, false] rfl rfl (any_of HT_.out (by kernel_rfl)) (fun _ _ _ h => h) (Or.inl ⟨by rfl, ?_⟩) ?_ ?_
                   rotate_left
                   · intro w'
                     go_simp
                     with_reducible rfl
                   rotate_left
                   · simp only [Act.put, List.setIfInBounds_toArray, List.set_cons_zero, List.set_cons_succ, i64_w, i32_w]
                     rfl
                   refine pure_ (i := 5) (N := some 58) (v := ?_) (a' := ?_) #[true, true, true, false, true, true, false, false, false, false, false, false] rfl rfl (any_of HT_.out (by kernel_rfl)) (fun _ _ _ h => h) (Or.inl ⟨by rfl, ?_⟩) ?_ ?_
                   rotate_left
                   · intro w'
                     go_simp
                     with_reducible rfl
                   rotate_left
                   · simp only [Act.put, List.setIfInBounds_toArray, List.set_cons_zero, List.set_cons_succ, i64_w, i32_w]
                     rfl
                   refine pure_ (i := 6) (N := some 59) (v := ?_) (a' := ?_) #[true, true, true, false, true, true, true, false, false, false, false, false] rfl rfl (any_of HT_.out (by kernel_rfl)) (fun _ _ _ h => h) (Or.inl ⟨by rfl, ?_⟩) ?_ ?_
                   rotate_left
                   · intro w'
                     go_simp
                     with_reducible rfl
                   rotate_left
                   · simp only [Act.put, List.setIfInBounds_toArray, List.set_cons_zero, List.set_cons_succ, i64_w, i32_w]
                     rfl
                   refine one_ (i := 3) (N := some 56) #[true, true, true, true, true, true, true, false, false, false, false, false] rfl rfl (one_of HT_.out (by kernel_rfl)) (by decide) (fun K hK => ?_)
                   refine goes_ Try.func48 (by kernel_rfl) rfl #[.slice A49 y625.length c49] (by rfl) rfl rfl (by (try simp only [List.map_toArray, List.map_cons, List.map_nil]); first | done | rfl | (simp only [List.length_drop, List.length_take]; rfl)) ?_
                   with_reducible refine (slices_Clone_byte_byte.calls _ _ y625 t629 _ ?side1 ?side2 A36.out).mono ?_
                   (case side1 => repeat (first | exact (by repeat (first | (with_reducible exact HR628.out) | (with_reducible refine Kd.C_alloc ?_ _) | (with_reducible refine Kd.C_drewN ?_ _) | (with_reducible refine Kd.C_drew ?_) | exact HR628.out)) | (with_reducible refine Kd.C_alloc ?_ _) | (with_reducible refine Kd.C_drewN ?_ _) | (with_reducible refine Kd.C_drew ?_)))
                   (case side2 => exact HC628.out)
                   rintro e w51 ⟨v630, rfl, ho0, hb⟩
                   refine ⟨_, rfl, ?_⟩
                   have n0_ := Aside0.mk (Kd.R_elder' (by (with_reducible repeat (first | apply Kd.R_alloc | apply Kd.R_drewN | apply Kd.R_drew)); exact HO620.out) (Kd.R_base ho0) hb)
                   have n1_ := Aside0.mk (Kd.R_lower (Kd.R_new' ho0 (Kd.R_lt (by (with_reducible repeat (first | apply Kd.R_alloc | apply Kd.R_drewN | apply Kd.R_drew)); exact HO620.out))) (below_size (by repeat (first | (with_reducible first | exact HB.out | apply below_alloc | apply pw_below_drewN | apply below_drew1 | refine below_set ?_ GE614.out | refine below_set ?_ GE621.out) | exact HB.out))))
                   have n2_ := Aside0.mk (blk_below (g := gb614) (o := .cells #[.int .u16 0, .int .u8 0, .int .u8 0, .slice none 0 0, .int .u16 0, .int .u32 0, .slice none 0 0, .slice none 0 0, .slice none 0 0, .slice none 0 0] 47 (0, 0)) (by (with_reducible repeat (first | refine blk_drewN ?_ _ | refine blk_drew ?_ | refine blk_alloc ?_ _)); exact BK614.out) hb)
                   have n3_ := Aside0.mk (blk_below (g := gb621) (o := .cells #[.int .u16 49699, .int .u8 t615, .int .u8 t616, .slice none 0 0, .int .u16 0, .int .u32 0, .slice none 0 0, .slice none 0 0, .slice none 0 0, .slice none 0 0] 47 (0, 0)) (by (with_reducible repeat (first | refine blk_drewN ?_ _ | refine blk_drew ?_ | refine blk_alloc ?_ _)); exact BK621.out) hb)
                   have n4_ := Aside0.mk (Kd.C_below (by repeat (first | (with_reducible exact HR628.out) | (with_reducible refine Kd.C_alloc ?_ _) | (with_reducible refine Kd.C_drewN ?_ _) | (with_reducible refine Kd.C_drew ?_) | exact HR628.out)) hb)
                   have n5_ := Aside0.mk (Kd.C_below (by repeat (first | (with_reducible exact HR635.out) | (with_reducible refine Kd.C_alloc ?_ _) | (with_reducible refine Kd.C_drewN ?_ _) | (with_reducible refine Kd.C_drew ?_) | exact HR635.out)) hb)
                   have n6_ := Aside0.mk (below_step (by repeat (first | (with_reducible first | exact HB.out | apply below_alloc | apply pw_below_drewN | apply below_drew1 | refine below_set ?_ GE614.out | refine below_set ?_ GE621.out) | exact HB.out)) hb)
                   clear HO620
                   clear BK614
                   clear BK621
                   clear HR628
                   clear HR635
                   clear HB
                   have HO620 := n0_
                   have HO631 := n1_
                   have BK614 := n2_
                   have BK621 := n3_
                   have HR628 := n4_
                   have HR635 := n5_
                   have HB := n6_
                   clear n0_ n1_ n2_ n3_ n4_ n5_ n6_
                   (try clear hb)
                   (try clear hb2)
                   (try clear hk)
                   (try clear hi)
                   (try clear ho0)
                   refine hK.out _ _ trivial (fun hHeld => ?_)
                   clear hK K
                   refine norm_ (a' := ?_) ?_ ?_
                   rotate_left
                   · show Act.put _ (some 56) _ = _
                     simp only [Act.put, List.setIfInBounds_toArray, List.set_cons_zero, List.set_cons_succ, i64_w, i32_w]
                     rfl
                   refine pure_ (i := 8) (N := some 61) (v := ?_) (a' := ?_) #[true, true, true, true, true, true, true, false, true, false, false, false] rfl rfl (any_of HT_.out (by kernel_rfl)) (fun _ _ _ h => h) (Or.inl ⟨by rfl, ?_⟩) ?_ ?_
                   rotate_left
                   · intro w'
                     go_simp
                     with_reducible rfl
                   rotate_left
                   · simp only [Act.put, List.setIfInBounds_toArray, List.set_cons_zero, List.set_cons_succ, i64_w, i32_w]
                     rfl
                   refine one_ (i := 7) (N := some 60) #[true, true, true, true, true, true, true, true, true, false, false, false] rfl rfl (one_of HT_.out (by kernel_rfl)) (by decide) (fun K hK => ?_)
                   refine goes_ Try.func48 (by kernel_rfl) rfl #[.slice A50 y632.length c50] (by rfl) rfl rfl (by (try simp only [List.map_toArray, List.map_cons, List.map_nil]); first | done | rfl | (simp only [List.length_drop, List.length_take]; rfl)) ?_
                   with_reducible refine (slices_Clone_byte_byte.calls _ _ y632 t636 _ ?side1 ?side2 A40.out).mono ?_
                   (case side1 => repeat (first | exact (by repeat (first | (with_reducible exact HR635.out) | (with_reducible refine Kd.C_alloc ?_ _) | (with_reducible refine Kd.C_drewN ?_ _) | (with_reducible refine Kd.C_drew ?_) | exact HR635.out)) | (with_reducible refine Kd.C_alloc ?_ _) | (with_reducible refine Kd.C_drewN ?_ _) | (with_reducible refine Kd.C_drew ?_)))
                   (case side2 => exact HC635.out)
                   rintro e w52 ⟨v637, rfl, ho0, hb⟩
                   refine ⟨_, rfl, ?_⟩
                   have n0_ := Aside0.mk (Kd.R_elder' (by (with_reducible repeat (first | apply Kd.R_alloc | apply Kd.R_drewN | apply Kd.R_drew)); exact HO620.out) (Kd.R_base ho0) hb)
                   have n1_ := Aside0.mk (Kd.R_elder' (by (with_reducible repeat (first | apply Kd.R_alloc | apply Kd.R_drewN | apply Kd.R_drew)); exact HO631.out) (Kd.R_base ho0) hb)
                   have n2_ := Aside0.mk (Kd.R_lower (Kd.R_new' (Kd.R_new' ho0 (Kd.R_lt (by (with_reducible repeat (first | apply Kd.R_alloc | apply Kd.R_drewN | apply Kd.R_drew)); exact HO620.out))) (Kd.R_lt (by (with_reducible repeat (first | apply Kd.R_alloc | apply Kd.R_drewN | apply Kd.R_drew)); exact HO631.out))) (below_size (by repeat (first | (with_reducible first | exact HB.out | apply below_alloc | apply pw_below_drewN | apply below_drew1 | refine below_set ?_ GE614.out | refine below_set ?_ GE621.out) | exact HB.out))))
                   have n3_ := Aside0.mk (blk_below (g := gb614) (o := .cells #[.int .u16 0, .int .u8 0, .int .u8 0, .slice none 0 0, .int .u16 0, .int .u32 0, .slice none 0 0, .slice none 0 0, .slice none 0 0, .slice none 0 0] 47 (0, 0)) (by (with_reducible repeat (first | refine blk_drewN ?_ _ | refine blk_drew ?_ | refine blk_alloc ?_ _)); exact BK614.out) hb)
                   have n4_ := Aside0.mk (blk_below (g := gb621) (o := .cells #[.int .u16 49699, .int .u8 t615, .int .u8 t616, .slice none 0 0, .int .u16 0, .int .u32 0, .slice none 0 0, .slice none 0 0, .slice none 0 0, .slice none 0 0] 47 (0, 0)) (by (with_reducible repeat (first | refine blk_drewN ?_ _ | refine blk_drew ?_ | refine blk_alloc ?_ _)); exact BK621.out) hb)
                   have n5_ := Aside0.mk (Kd.C_below (by repeat (first | (with_reducible exact HR628.out) | (with_reducible refine Kd.C_alloc ?_ _) | (with_reducible refine Kd.C_drewN ?_ _) | (with_reducible refine Kd.C_drew ?_) | exact HR628.out)) hb)
                   have n6_ := Aside0.mk (Kd.C_below (by repeat (first | (with_reducible exact HR635.out) | (with_reducible refine Kd.C_alloc ?_ _) | (with_reducible refine Kd.C_drewN ?_ _) | (with_reducible refine Kd.C_drew ?_) | exact HR635.out)) hb)
                   have n7_ := Aside0.mk (below_step (by repeat (first | (with_reducible first | exact HB.out | apply below_alloc | apply pw_below_drewN | apply below_drew1 | refine below_set ?_ GE614.out | refine below_set ?_ GE621.out) | exact HB.out)) hb)
                   clear HO620
                   clear HO631
                   clear BK614
                   clear BK621
                   clear HR628
                   clear HR635
                   clear HB
                   have HO620 := n0_
                   have HO631 := n1_
                   have HO638 := n2_
                   have BK614 := n3_
                   have BK621 := n4_
                   have HR628 := n5_
                   have HR635 := n6_
                   have HB := n7_
                   clear n0_ n1_ n2_ n3_ n4_ n5_ n6_ n7_
                   (try clear hb)
                   (try clear hb2)
                   (try clear hk)
                   (try clear hi)
                   (try clear ho0)
                   obtain ⟨Ao53, co53, eo53⟩ := Kd.R_slice HO631.out
                   (first | subst eo53 | (injection eo53 with f1_ f2_ f3_; have f4_ := f1_.symm; have f5_ := f3_.symm; clear f1_ f2_ f3_; subst f4_; subst f5_))
                   obtain ⟨Ao55, co55, eo55⟩ := Kd.R_slice HO638.out
                   (first | subst eo55 | (injection eo55 with f1_ f2_ f3_; have f4_ := f1_.symm; have f5_ := f3_.symm; clear f1_ f2_ f3_; subst f4_; subst f5_))
                   refine hK.out _ _ trivial (fun hHeld => ?_)
                   clear hK K
                   refine norm_ (a' := ?_) ?_ ?_
                   rotate_left
                   · show Act.put _ (some 60) _ = _
                     simp only [Act.put, List.setIfInBounds_toArray, List.set_cons_zero, List.set_cons_succ, i64_w, i32_w]
                     rfl
                   refine one_ (i := 9) (N := none) #[true, true, true, true, true, true, true, true, true, true, false, false] rfl rfl (one_of HT_.out (by kernel_rfl)) (by decide) (fun K hK => ?_)
                   have hs54 : w52.cell? ⟨gb621, 6, none⟩ = some (.slice none 0 0) := (blk_cell BK621.out 6).trans rfl
                   have hfs54 := blk_frozen BK621.out 6
                   have hns54_0 := NB614_621.out
                   have hms54_0 := NB621_614.out
                   refine skip_ (w1 := ?_) (by rfl) rfl ?_ ?_
                   rotate_left
                   · go_simp
                     rfl
                   refine hK.out _ _ trivial (fun hHeld => ?_)
                   clear hK K
                   refine pure_ (i := 10) (N := some 62) (v := ?_) (a' := ?_) #[true, true, true, true, true, true, true, true, true, true, true, false] rfl rfl (any_of HT_.out (by kernel_rfl)) (fun _ _ _ h => h) (Or.inl ⟨by rfl, ?_⟩) ?_ ?_
                   rotate_left
                   · intro w'
                     go_simp
                     with_reducible rfl
                   rotate_left
                   · simp only [Act.put, List.setIfInBounds_toArray, List.set_cons_zero, List.set_cons_succ, i64_w, i32_w]
                     rfl
                   refine one_ (i := 11) (N := none) #[true, true, true, true, true, true, true, true, true, true, true, true] rfl rfl (one_of HT_.out (by kernel_rfl)) (by decide) (fun K hK => ?_)
                   have hs56 : w52.cell? ⟨gb621, 7, none⟩ = some (.slice none 0 0) := (blk_cell BK621.out 7).trans rfl
                   have hfs56 := blk_frozen BK621.out 7
                   have hns56_0 := NB614_621.out
                   have hms56_0 := NB621_614.out
                   refine skip_ (w1 := ?_) (by rfl) rfl ?_ ?_
                   rotate_left
                   · go_simp
                     rfl
                   refine hK.out _ _ trivial (fun hHeld => ?_)
                   clear hK K
                   refine done_ (done_of HT_.out (by kernel_rfl)) ?_
                   have hcz57_0 : w52.cell? ⟨gb621, 0, none⟩ = some (.int .u16 49699) := (blk_cell BK621.out 0).trans rfl
                   have hcz57_1 : w52.cell? ⟨gb621, 1, none⟩ = some (.int .u8 t615) := (blk_cell BK621.out 1).trans rfl
                   have hcz57_2 : w52.cell? ⟨gb621, 2, none⟩ = some (.int .u8 t616) := (blk_cell BK621.out 2).trans rfl
                   have hcz57_3 : w52.cell? ⟨gb621, 3, none⟩ = some (.slice none 0 0) := (blk_cell BK621.out 3).trans rfl
                   have hcz57_4 : w52.cell? ⟨gb621, 4, none⟩ = some (.int .u16 0) := (blk_cell BK621.out 4).trans rfl
                   have hcz57_5 : w52.cell? ⟨gb621, 5, none⟩ = some (.int .u32 0) := (blk_cell BK621.out 5).trans rfl
                   have hcz57_6 : w52.cell? ⟨gb621, 6, none⟩ = some (.slice none 0 0) := (blk_cell BK621.out 6).trans rfl
                   have hcz57_7 : w52.cell? ⟨gb621, 7, none⟩ = some (.slice none 0 0) := (blk_cell BK621.out 7).trans rfl
                   have hcz57_8 : w52.cell? ⟨gb621, 8, none⟩ = some (.slice none 0 0) := (blk_cell BK621.out 8).trans rfl
                   have hcz57_9 : w52.cell? ⟨gb621, 9, none⟩ = some (.slice none 0 0) := (blk_cell BK621.out 9).trans rfl
                   have hfz57_0 := blk_frozen BK621.out 0
                   have hfz57_1 := blk_frozen BK621.out 1
                   have hfz57_2 := blk_frozen BK621.out 2
                   have hfz57_3 := blk_frozen BK621.out 3
                   have hfz57_4 := blk_frozen BK621.out 4
                   have hfz57_5 := blk_frozen BK621.out 5
                   have hfz57_6 := blk_frozen BK621.out 6
                   have hfz57_7 := blk_frozen BK621.out 7
                   have hfz57_8 := blk_frozen BK621.out 8
                   have hfz57_9 := blk_frozen BK621.out 9
                   have hcz58_0 : w52.cell? ⟨gb614, 0, none⟩ = some (.int .u16 0) := (blk_cell BK614.out 0).trans rfl
                   have hcz58_1 : w52.cell? ⟨gb614, 1, none⟩ = some (.int .u8 0) := (blk_cell BK614.out 1).trans rfl
                   have hcz58_2 : w52.cell? ⟨gb614, 2, none⟩ = some (.int .u8 0) := (blk_cell BK614.out 2).trans rfl
                   have hcz58_3 : w52.cell? ⟨gb614, 3, none⟩ = some (.slice none 0 0) := (blk_cell BK614.out 3).trans rfl
                   have hcz58_4 : w52.cell? ⟨gb614, 4, none⟩ = some (.int .u16 0) := (blk_cell BK614.out 4).trans rfl
                   have hcz58_5 : w52.cell? ⟨gb614, 5, none⟩ = some (.int .u32 0) := (blk_cell BK614.out 5).trans rfl
                   have hcz58_6 : w52.cell? ⟨gb614, 6, none⟩ = some (.slice none 0 0) := (blk_cell BK614.out 6).trans rfl
                   have hcz58_7 : w52.cell? ⟨gb614, 7, none⟩ = some (.slice none 0 0) := (blk_cell BK614.out 7).trans rfl
                   have hcz58_8 : w52.cell? ⟨gb614, 8, none⟩ = some (.slice none 0 0) := (blk_cell BK614.out 8).trans rfl
                   have hcz58_9 : w52.cell? ⟨gb614, 9, none⟩ = some (.slice none 0 0) := (blk_cell BK614.out 9).trans rfl
                   have hfz58_0 := blk_frozen BK614.out 0
                   have hfz58_1 := blk_frozen BK614.out 1
                   have hfz58_2 := blk_frozen BK614.out 2
                   have hfz58_3 := blk_frozen BK614.out 3
                   have hfz58_4 := blk_frozen BK614.out 4
                   have hfz58_5 := blk_frozen BK614.out 5
                   have hfz58_6 := blk_frozen BK614.out 6
                   have hfz58_7 := blk_frozen BK614.out 7
                   have hfz58_8 := blk_frozen BK614.out 8
                   have hfz58_9 := blk_frozen BK614.out 9
                   try go_wp2
                   refine bodyPost_ret (results_ct rfl _ _ gb614 47 #[.int .u16 49699, .int .u8 t615, .int .u8 t616, .slice none 0 0, .int .u16 0, .int .u32 0, .slice Ao53 t629.length co53, .slice Ao55 t636.length co55, .slice none 0 0, .slice none 0 0] (0, 0) _ rfl (by (with_reducible repeat (first | refine blk_drewN ?_ _ | refine blk_drew ?_ | refine blk_alloc ?_ _)); refine blk_put (cs := #[.int .u16 49699, .int .u8 t615, .int .u8 t616, .slice none 0 0, .int .u16 0, .int .u32 0, .slice Ao53 t629.length co53, .slice Ao55 t636.length co55, .slice none 0 0, .slice none 0 0]) ?_ 9 _ rfl; (with_reducible repeat (first | refine blk_drewN ?_ _ | refine blk_drew ?_ | refine blk_alloc ?_ _)); refine blk_put (cs := #[.int .u16 49699, .int .u8 t615, .int .u8 t616, .slice none 0 0, .int .u16 0, .int .u32 0, .slice Ao53 t629.length co53, .slice Ao55 t636.length co55, .slice none 0 0, .slice none 0 0]) ?_ 8 _ rfl; (with_reducible repeat (first | refine blk_drewN ?_ _ | refine blk_drew ?_ | refine blk_alloc ?_ _)); refine blk_put (cs := #[.int .u16 49699, .int .u8 t615, .int .u8 t616, .slice none 0 0, .int .u16 0, .int .u32 0, .slice Ao53 t629.length co53, .slice none 0 0, .slice none 0 0, .slice none 0 0]) ?_ 7 _ rfl; (with_reducible repeat (first | refine blk_drewN ?_ _ | refine blk_drew ?_ | refine blk_alloc ?_ _)); refine blk_put (cs := #[.int .u16 49699, .int .u8 t615, .int .u8 t616, .slice none 0 0, .int .u16 0, .int .u32 0, .slice none 0 0, .slice none 0 0, .slice none 0 0, .slice none 0 0]) ?_ 6 _ rfl; (with_reducible repeat (first | refine blk_drewN ?_ _ | refine blk_drew ?_ | refine blk_alloc ?_ _)); refine blk_put (cs := #[.int .u16 49699, .int .u8 t615, .int .u8 t616, .slice none 0 0, .int .u16 0, .int .u32 0, .slice none 0 0, .slice none 0 0, .slice none 0 0, .slice none 0 0]) ?_ 5 _ rfl; (with_reducible repeat (first | refine blk_drewN ?_ _ | refine blk_drew ?_ | refine blk_alloc ?_ _)); refine blk_put (cs := #[.int .u16 49699, .int .u8 t615, .int .u8 t616, .slice none 0 0, .int .u16 0, .int .u32 0, .slice none 0 0, .slice none 0 0, .slice none 0 0, .slice none 0 0]) ?_ 4 _ rfl; (with_reducible repeat (first | refine blk_drewN ?_ _ | refine blk_drew ?_ | refine blk_alloc ?_ _)); refine blk_put (cs := #[.int .u16 49699, .int .u8 t615, .int .u8 t616, .slice none 0 0, .int .u16 0, .int .u32 0, .slice none 0 0, .slice none 0 0, .slice none 0 0, .slice none 0 0]) ?_ 3 _ rfl; (with_reducible repeat (first | refine blk_drewN ?_ _ | refine blk_drew ?_ | refine blk_alloc ?_ _)); refine blk_put (cs := #[.int .u16 49699, .int .u8 t615, .int .u8 0, .slice none 0 0, .int .u16 0, .int .u32 0, .slice none 0 0, .slice none 0 0, .slice none 0 0, .slice none 0 0]) ?_ 2 _ rfl; (with_reducible repeat (first | refine blk_drewN ?_ _ | refine blk_drew ?_ | refine blk_alloc ?_ _)); refine blk_put (cs := #[.int .u16 49699, .int .u8 0, .int .u8 0, .slice none 0 0, .int .u16 0, .int .u32 0, .slice none 0 0, .slice none 0 0, .slice none 0 0, .slice none 0 0]) ?_ 1 _ rfl; (with_reducible repeat (first | refine blk_drewN ?_ _ | refine blk_drew ?_ | refine blk_alloc ?_ _)); refine blk_put (cs := #[.int .u16 0, .int .u8 0, .int .u8 0, .slice none 0 0, .int .u16 0, .int .u32 0, .slice none 0 0, .slice none 0 0, .slice none 0 0, .slice none 0 0]) ?_ 0 _ rfl; (with_reducible repeat (first | refine blk_drewN ?_ _ | refine blk_drew ?_ | refine blk_alloc ?_ _)); refine blk_far ?_ NB614_621.out _; (with_reducible repeat (first | refine blk_drewN ?_ _ | refine blk_drew ?_ | refine blk_alloc ?_ _)); refine blk_far ?_ NB614_621.out _; (with_reducible repeat (first | refine blk_drewN ?_ _ | refine blk_drew ?_ | refine blk_alloc ?_ _)); exact BK614.out) Try.underlying47 rfl (by kernel_rfl)) rfl ?_
                   exact ⟨_, _, _, _, _, by first | rfl | (simp [errW_none, errW_some] <;> rfl) | (simp only [← hji37]; first | rfl | (simp [errW_none, errW_some] <;> rfl)) | (simp [*, errW_none, errW_some] <;> rfl), by first | exact Kd.S_nil _ _ _ _ _ | exact Kd.N_nil _ _ _ _ _ | exact Kd.V_nil _ _ _ _ _ | exact Kd.Q_nil _ _ _ _ _ | exact Kd.R_nil _ _ _ _ _, by (with_reducible repeat (first | apply Kd.R_alloc | apply Kd.R_drewN | apply Kd.R_drew)); exact Kd.R_mono (Kd.R_far (p := ⟨gb614, 9, none⟩) (Kd.R_far (p := ⟨gb614, 8, none⟩) (Kd.R_far (p := ⟨gb614, 7, none⟩) (Kd.R_far (p := ⟨gb614, 6, none⟩) (Kd.R_far (p := ⟨gb614, 5, none⟩) (Kd.R_far (p := ⟨gb614, 4, none⟩) (Kd.R_far (p := ⟨gb614, 3, none⟩) (Kd.R_far (p := ⟨gb614, 2, none⟩) (Kd.R_far (p := ⟨gb614, 1, none⟩) (Kd.R_far (p := ⟨gb614, 0, none⟩) (Kd.R_far (p := ⟨gb621, 7, none⟩) (Kd.R_far (p := ⟨gb621, 6, none⟩) (Kd.R_types (Kd.R_types HO631.out BK621.out (by decide)) BK614.out (by decide)) (fun _ hk => hk.1.2) (.slice Ao53 t629.length co53)) (fun _ hk => hk.1.2) (.slice Ao55 t636.length co55)) (fun _ hk => hk.2) (.int .u16 49699)) (fun _ hk => hk.2) (.int .u8 t615)) (fun _ hk => hk.2) (.int .u8 t616)) (fun _ hk => hk.2) (.slice none 0 0)) (fun _ hk => hk.2) (.int .u16 0)) (fun _ hk => hk.2) (.int .u32 0)) (fun _ hk => hk.2) (.slice Ao53 t629.length co53)) (fun _ hk => hk.2) (.slice Ao55 t636.length co55)) (fun _ hk => hk.2) (.slice none 0 0)) (fun _ hk => hk.2) (.slice none 0 0)) (fun _ hk => ⟨hk.1.1.2, (by simp [Value.ownBlock])⟩), by (with_reducible repeat (first | apply Kd.R_alloc | apply Kd.R_drewN | apply Kd.R_drew)); exact Kd.R_mono (Kd.R_far (p := ⟨gb614, 9, none⟩) (Kd.R_far (p := ⟨gb614, 8, none⟩) (Kd.R_far (p := ⟨gb614, 7, none⟩) (Kd.R_far (p := ⟨gb614, 6, none⟩) (Kd.R_far (p := ⟨gb614, 5, none⟩) (Kd.R_far (p := ⟨gb614, 4, none⟩) (Kd.R_far (p := ⟨gb614, 3, none⟩) (Kd.R_far (p := ⟨gb614, 2, none⟩) (Kd.R_far (p := ⟨gb614, 1, none⟩) (Kd.R_far (p := ⟨gb614, 0, none⟩) (Kd.R_far (p := ⟨gb621, 7, none⟩) (Kd.R_far (p := ⟨gb621, 6, none⟩) (Kd.R_types (Kd.R_types HO638.out BK621.out (by decide)) BK614.out (by decide)) (fun _ hk => hk.1.2) (.slice Ao53 t629.length co53)) (fun _ hk => hk.1.2) (.slice Ao55 t636.length co55)) (fun _ hk => hk.2) (.int .u16 49699)) (fun _ hk => hk.2) (.int .u8 t615)) (fun _ hk => hk.2) (.int .u8 t616)) (fun _ hk => hk.2) (.slice none 0 0)) (fun _ hk => hk.2) (.int .u16 0)) (fun _ hk => hk.2) (.int .u32 0)) (fun _ hk => hk.2) (.slice Ao53 t629.length co53)) (fun _ hk => hk.2) (.slice Ao55 t636.length co55)) (fun _ hk => hk.2) (.slice none 0 0)) (fun _ hk => hk.2) (.slice none 0 0)) (fun _ hk => ⟨hk.1.1.2, (by simp [Value.ownBlock])⟩), by first | exact Kd.R_nil _ _ _ _ _ | exact Kd.N_nil _ _ _ _ _ | exact Kd.V_nil _ _ _ _ _ | exact Kd.Q_nil _ _ _ _ _ | exact Kd.S_nil _ _ _ _ _, by first | exact Kd.R_nil _ _ _ _ _ | exact Kd.N_nil _ _ _ _ _ | exact Kd.V_nil _ _ _ _ _ | exact Kd.Q_nil _ _ _ _ _ | exact Kd.S_nil _ _ _ _ _, by repeat (first | (with_reducible first | exact HB.out | apply below_alloc | apply pw_below_drewN | apply below_drew1 | refine below_set ?_ GE614.out | refine below_set ?_ GE621.out) | exact HB.out)⟩
                 · rw [if_neg c38] at H
                   exact absurd H (by simp)
               · rw [if_neg c35] at H
                 exact absurd H (by simp)
             · rw [if_neg c34] at H
               exact absurd H (by simp)
       · rw [if_neg c15] at H
         exact absurd H (by simp)
   · replace c5 := Bool.eq_false_iff.mpr c5
     subst c5
     have H1 : (some (49699, t615, t616, ([] : List (S57)), 0, 0, ([] : List Int), ([] : List Int), t617, ([] : List Int), 0)) = some (r1, r2, r3, r4, r5, r6, r7, r8, r9, r10, r11) := by rw [if_neg (show ¬ (false = true) by decide)] at H; exact H
     clear H
     have H := H1
     clear H1
     simp only [Option.some.injEq, Prod.mk.injEq] at H
     obtain ⟨rfl, rfl, rfl, rfl, rfl, rfl, rfl, rfl, rfl, rfl, rfl⟩ := H
     go_enter Try.func38, Try.ntmps38
     go_wp2_with (first | ((with_reducible refine gate_dst (N := 2) rfl ?_); refine box_event ?hg (N := 2) ?hd (cs := #[.int .u16 0, .int .u8 0, .int .u8 0, .slice none 0 0, .int .u16 0, .int .u32 0, .slice none 0 0, .slice none 0 0, .slice none 0 0, .slice none 0 0]) (t := 47) ?hr ?_; (case hd => rfl); (case hg => rfl); (case hr => first | (go_simp; done) | (go_simp; simp only [IntKind.wrap_u8, IntKind.wrap_u16, IntKind.wrap_u32, IntKind.wrap_u64]; done) | (go_simp; rfl)); intro gb614 hg w59 hbox hb; have n0_ := Aside0.mk (below_step (by repeat (first | (with_reducible first | exact HB.out | apply below_alloc | apply pw_below_drewN | apply below_drew1) | exact HB.out)) hb); have n1_ := Aside0.mk (hbox); have n2_ := Aside0.mk ((by rw [hg]; exact (below_size (by repeat (first | (with_reducible first | exact HB.out | apply below_alloc | apply pw_below_drewN | apply below_drew1) | exact HB.out))) : w.heap.size ≤ gb614)); have n3_ := Aside0.mk ((by rw [hg]; exact (below_size (by repeat (first | (with_reducible first | exact HB.out | apply below_alloc | apply pw_below_drewN | apply below_drew1) | exact HB.out))) : w.heap.size ≤ gb614)); clear HB; have HB := n0_; have BK614 := n1_; have GW614 := n2_; have GE614 := n3_; clear n0_ n1_ n2_ n3_; clear hb hbox hg) | ((with_reducible refine gate_callee (f := 53) rfl ?_); refine goesL_ (some 12) rfl rfl Try.func53 (by kernel_rfl) rfl #[.slice A0 l0.length c0] rfl (by (try simp only [List.map_toArray, List.map_cons, List.map_nil]); first | done | rfl | (simp only [List.length_drop, List.length_take]; rfl)) ?_; (with_reducible refine (ctl_Get.calls k _ _ l0 t615 t616 t617 t618 _ ?side1 ?side2 A2.out).mono ?_); (case side1 => repeat (first | exact (Kd.C_below HR0.out HB.out) | (with_reducible refine Kd.C_alloc ?_ _) | (with_reducible refine Kd.C_drewN ?_ _) | (with_reducible refine Kd.C_drew ?_))); (case side2 => exact HC0.out); rintro e w60 ⟨v619, rfl, ho0, hb⟩; refine ⟨_, rfl, ?_⟩; have n0_ := Aside0.mk (Kd.R_lower ho0 (below_size (by repeat (first | (with_reducible first | exact HB.out | apply below_alloc | apply pw_below_drewN | apply below_drew1 | refine below_set ?_ GE614.out) | exact HB.out)))); have n1_ := Aside0.mk (blk_below (g := gb614) (o := .cells #[.int .u16 0, .int .u8 0, .int .u8 0, .slice none 0 0, .int .u16 0, .int .u32 0, .slice none 0 0, .slice none 0 0, .slice none 0 0, .slice none 0 0] 47 (0, 0)) (by (with_reducible repeat (first | refine blk_drewN ?_ _ | refine blk_drew ?_ | refine blk_alloc ?_ _)); exact BK614.out) hb); have n2_ := Aside0.mk (below_step (by repeat (first | (with_reducible first | exact HB.out | apply below_alloc | apply pw_below_drewN | apply below_drew1 | refine below_set ?_ GE614.out) | exact HB.out)) hb); clear BK614; clear HB; have HO620 := n0_; have BK614 := n1_; have HB := n2_; clear n0_ n1_ n2_; (try clear hb); (try clear hb2); (try clear hk); (try clear hi); (try clear ho0)) | ((with_reducible refine gate_dst (N := 8) rfl ?_); refine box_event ?hg (N := 8) ?hd (cs := #[.int .u16 0, .int .u8 0, .int .u8 0, .slice none 0 0, .int .u16 0, .int .u32 0, .slice none 0 0, .slice none 0 0, .slice none 0 0, .slice none 0 0]) (t := 47) ?hr ?_; (case hd => rfl); (case hg => rfl); (case hr => first | (go_simp; done) | (go_simp; simp only [IntKind.wrap_u8, IntKind.wrap_u16, IntKind.wrap_u32, IntKind.wrap_u64]; done) | (go_simp; rfl)); intro gb621 hg w61 hbox hb; have n0_ := Aside0.mk (Kd.R_below (by (with_reducible repeat (first | apply Kd.R_alloc | apply Kd.R_drewN | apply Kd.R_drew)); exact HO620.out) hb); have n1_ := Aside0.mk (blk_below (g := gb614) (o := .cells #[.int .u16 0, .int .u8 0, .int .u8 0, .slice none 0 0, .int .u16 0, .int .u32 0, .slice none 0 0, .slice none 0 0, .slice none 0 0, .slice none 0 0] 47 (0, 0)) (by (with_reducible repeat (first | refine blk_drewN ?_ _ | refine blk_drew ?_ | refine blk_alloc ?_ _)); exact BK614.out) hb); have n2_ := Aside0.mk (below_step (by repeat (first | (with_reducible first | exact HB.out | apply below_alloc | apply pw_below_drewN | apply below_drew1 | refine below_set ?_ GE614.out) | exact HB.out)) hb); have n3_ := Aside0.mk (hbox); have n4_ := Aside0.mk ((by rw [hg]; exact (below_size (by repeat (first | (with_reducible first | exact HB.out | apply below_alloc | apply pw_below_drewN | apply below_drew1 | refine below_set ?_ GE614.out) | exact HB.out))) : w.heap.size ≤ gb621)); have n5_ := Aside0.mk ((by rw [hg]; exact (below_size (by repeat (first | (with_reducible first | exact HB.out | apply below_alloc | apply pw_below_drewN | apply below_drew1 | refine below_set ?_ GE614.out) | exact HB.out))) : w.heap.size ≤ gb621)); have n6_ := Aside0.mk ((by rw [hg]; exact Nat.ne_of_lt (blk_lt (g := gb614) (o := .cells #[.int .u16 0, .int .u8 0, .int .u8 0, .slice none 0 0, .int .u16 0, .int .u32 0, .slice none 0 0, .slice none 0 0, .slice none 0 0, .slice none 0 0] 47 (0, 0)) (by (with_reducible repeat (first | refine blk_drewN ?_ _ | refine blk_drew ?_ | refine blk_alloc ?_ _)); exact BK614.out)) : gb614 ≠ gb621)); have n7_ := Aside0.mk ((by rw [hg]; exact Nat.ne_of_gt (blk_lt (g := gb614) (o := .cells #[.int .u16 0, .int .u8 0, .int .u8 0, .slice none 0 0, .int .u16 0, .int .u32 0, .slice none 0 0, .slice none 0 0, .slice none 0 0, .slice none 0 0] 47 (0, 0)) (by (with_reducible repeat (first | refine blk_drewN ?_ _ | refine blk_drew ?_ | refine blk_alloc ?_ _)); exact BK614.out)) : gb621 ≠ gb614)); clear HO620; clear BK614; clear HB; have HO620 := n0_; have BK614 := n1_; have HB := n2_; have BK621 := n3_; have GW621 := n4_; have GE621 := n5_; have NB614_621 := n6_; have NB621_614 := n7_; clear n0_ n1_ n2_ n3_ n4_ n5_ n6_ n7_; clear hb hbox hg; have hnb62 := NB621_614.out; have hnc62 := NB614_621.out; have hcz63_0 : w61.cell? ⟨gb621, 0, none⟩ = some (.int .u16 0) := (blk_cell BK621.out 0).trans rfl; have hcz63_1 : w61.cell? ⟨gb621, 1, none⟩ = some (.int .u8 0) := (blk_cell BK621.out 1).trans rfl; have hcz63_2 : w61.cell? ⟨gb621, 2, none⟩ = some (.int .u8 0) := (blk_cell BK621.out 2).trans rfl; have hcz63_3 : w61.cell? ⟨gb621, 3, none⟩ = some (.slice none 0 0) := (blk_cell BK621.out 3).trans rfl; have hcz63_4 : w61.cell? ⟨gb621, 4, none⟩ = some (.int .u16 0) := (blk_cell BK621.out 4).trans rfl; have hcz63_5 : w61.cell? ⟨gb621, 5, none⟩ = some (.int .u32 0) := (blk_cell BK621.out 5).trans rfl; have hcz63_6 : w61.cell? ⟨gb621, 6, none⟩ = some (.slice none 0 0) := (blk_cell BK621.out 6).trans rfl; have hcz63_7 : w61.cell? ⟨gb621, 7, none⟩ = some (.slice none 0 0) := (blk_cell BK621.out 7).trans rfl; have hcz63_8 : w61.cell? ⟨gb621, 8, none⟩ = some (.slice none 0 0) := (blk_cell BK621.out 8).trans rfl; have hcz63_9 : w61.cell? ⟨gb621, 9, none⟩ = some (.slice none 0 0) := (blk_cell BK621.out 9).trans rfl; have hfz63_0 := blk_frozen BK621.out 0; have hfz63_1 := blk_frozen BK621.out 1; have hfz63_2 := blk_frozen BK621.out 2; have hfz63_3 := blk_frozen BK621.out 3; have hfz63_4 := blk_frozen BK621.out 4; have hfz63_5 := blk_frozen BK621.out 5; have hfz63_6 := blk_frozen BK621.out 6; have hfz63_7 := blk_frozen BK621.out 7; have hfz63_8 := blk_frozen BK621.out 8; have hfz63_9 := blk_frozen BK621.out 9) | ((with_reducible refine gate_callee (f := 57) rfl ?_); have n0_ : Aside0 (Kd.R (Kd.int .u8) 5 ((((((((((w61.setCell ⟨gb621, 0, none⟩ (.int .u16 49699)).setCell ⟨gb621, 1, none⟩ (.int .u8 t615)).setCell ⟨gb621, 2, none⟩ (.int .u8 t616)).setCell ⟨gb621, 3, none⟩ (.slice none 0 0)).setCell ⟨gb621, 4, none⟩ (.int .u16 0)).setCell ⟨gb621, 5, none⟩ (.int .u32 0)).setCell ⟨gb621, 6, none⟩ (.slice none 0 0)).setCell ⟨gb621, 7, none⟩ (.slice none 0 0)).setCell ⟨gb621, 8, none⟩ (.slice none 0 0)).setCell ⟨gb621, 9, none⟩ (.slice none 0 0)) w.heap.size (fun _ => True) v619 t617) := ⟨by (with_reducible repeat (first | apply Kd.R_alloc | apply Kd.R_drewN | apply Kd.R_drew)); exact Kd.R_mono (Kd.R_far (p := ⟨gb621, 9, none⟩) (Kd.R_far (p := ⟨gb621, 8, none⟩) (Kd.R_far (p := ⟨gb621, 7, none⟩) (Kd.R_far (p := ⟨gb621, 6, none⟩) (Kd.R_far (p := ⟨gb621, 5, none⟩) (Kd.R_far (p := ⟨gb621, 4, none⟩) (Kd.R_far (p := ⟨gb621, 3, none⟩) (Kd.R_far (p := ⟨gb621, 2, none⟩) (Kd.R_far (p := ⟨gb621, 1, none⟩) (Kd.R_far (p := ⟨gb621, 0, none⟩) (Kd.R_types HO620.out BK621.out (by decide)) (fun _ hk => hk.2) (.int .u16 49699)) (fun _ hk => hk.2) (.int .u8 t615)) (fun _ hk => hk.2) (.int .u8 t616)) (fun _ hk => hk.2) (.slice none 0 0)) (fun _ hk => hk.2) (.int .u16 0)) (fun _ hk => hk.2) (.int .u32 0)) (fun _ hk => hk.2) (.slice none 0 0)) (fun _ hk => hk.2) (.slice none 0 0)) (fun _ hk => hk.2) (.slice none 0 0)) (fun _ hk => hk.2) (.slice none 0 0)) (fun _ hk => trivial)⟩; have n1_ : Aside0 (((((((((((w61.setCell ⟨gb621, 0, none⟩ (.int .u16 49699)).setCell ⟨gb621, 1, none⟩ (.int .u8 t615)).setCell ⟨gb621, 2, none⟩ (.int .u8 t616)).setCell ⟨gb621, 3, none⟩ (.slice none 0 0)).setCell ⟨gb621, 4, none⟩ (.int .u16 0)).setCell ⟨gb621, 5, none⟩ (.int .u32 0)).setCell ⟨gb621, 6, none⟩ (.slice none 0 0)).setCell ⟨gb621, 7, none⟩ (.slice none 0 0)).setCell ⟨gb621, 8, none⟩ (.slice none 0 0)).setCell ⟨gb621, 9, none⟩ (.slice none 0 0)).heap[gb614]? = some (.cells #[.int .u16 0, .int .u8 0, .int .u8 0, .slice none 0 0, .int .u16 0, .int .u32 0, .slice none 0 0, .slice none 0 0, .slice none 0 0, .slice none 0 0] 47 (0, 0))) := ⟨by (with_reducible repeat (first | refine blk_drewN ?_ _ | refine blk_drew ?_ | refine blk_alloc ?_ _)); refine blk_far ?_ NB614_621.out _; (with_reducible repeat (first | refine blk_drewN ?_ _ | refine blk_drew ?_ | refine blk_alloc ?_ _)); refine blk_far ?_ NB614_621.out _; (with_reducible repeat (first | refine blk_drewN ?_ _ | refine blk_drew ?_ | refine blk_alloc ?_ _)); refine blk_far ?_ NB614_621.out _; (with_reducible repeat (first | refine blk_drewN ?_ _ | refine blk_drew ?_ | refine blk_alloc ?_ _)); refine blk_far ?_ NB614_621.out _; (with_reducible repeat (first | refine blk_drewN ?_ _ | refine blk_drew ?_ | refine blk_alloc ?_ _)); refine blk_far ?_ NB614_621.out _; (with_reducible repeat (first | refine blk_drewN ?_ _ | refine blk_drew ?_ | refine blk_alloc ?_ _)); refine blk_far ?_ NB614_621.out _; (with_reducible repeat (first | refine blk_drewN ?_ _ | refine blk_drew ?_ | refine blk_alloc ?_ _)); refine blk_far ?_ NB614_621.out _; (with_reducible repeat (first | refine blk_drewN ?_ _ | refine blk_drew ?_ | refine blk_alloc ?_ _)); refine blk_far ?_ NB614_621.out _; (with_reducible repeat (first | refine blk_drewN ?_ _ | refine blk_drew ?_ | refine blk_alloc ?_ _)); refine blk_far ?_ NB614_621.out _; (with_reducible repeat (first | refine blk_drewN ?_ _ | refine blk_drew ?_ | refine blk_alloc ?_ _)); refine blk_far ?_ NB614_621.out _; (with_reducible repeat (first | refine blk_drewN ?_ _ | refine blk_drew ?_ | refine blk_alloc ?_ _)); exact BK614.out⟩; have n2_ : Aside0 (((((((((((w61.setCell ⟨gb621, 0, none⟩ (.int .u16 49699)).setCell ⟨gb621, 1, none⟩ (.int .u8 t615)).setCell ⟨gb621, 2, none⟩ (.int .u8 t616)).setCell ⟨gb621, 3, none⟩ (.slice none 0 0)).setCell ⟨gb621, 4, none⟩ (.int .u16 0)).setCell ⟨gb621, 5, none⟩ (.int .u32 0)).setCell ⟨gb621, 6, none⟩ (.slice none 0 0)).setCell ⟨gb621, 7, none⟩ (.slice none 0 0)).setCell ⟨gb621, 8, none⟩ (.slice none 0 0)).setCell ⟨gb621, 9, none⟩ (.slice none 0 0)).heap[gb621]? = some (.cells #[.int .u16 49699, .int .u8 t615, .int .u8 t616, .slice none 0 0, .int .u16 0, .int .u32 0, .slice none 0 0, .slice none 0 0, .slice none 0 0, .slice none 0 0] 47 (0, 0))) := ⟨by (with_reducible repeat (first | refine blk_drewN ?_ _ | refine blk_drew ?_ | refine blk_alloc ?_ _)); refine blk_put (cs := #[.int .u16 49699, .int .u8 t615, .int .u8 t616, .slice none 0 0, .int .u16 0, .int .u32 0, .slice none 0 0, .slice none 0 0, .slice none 0 0, .slice none 0 0]) ?_ 9 _ rfl; (with_reducible repeat (first | refine blk_drewN ?_ _ | refine blk_drew ?_ | refine blk_alloc ?_ _)); refine blk_put (cs := #[.int .u16 49699, .int .u8 t615, .int .u8 t616, .slice none 0 0, .int .u16 0, .int .u32 0, .slice none 0 0, .slice none 0 0, .slice none 0 0, .slice none 0 0]) ?_ 8 _ rfl; (with_reducible repeat (first | refine blk_drewN ?_ _ | refine blk_drew ?_ | refine blk_alloc ?_ _)); refine blk_put (cs := #[.int .u16 49699, .int .u8 t615, .int .u8 t616, .slice none 0 0, .int .u16 0, .int .u32 0, .slice none 0 0, .slice none 0 0, .slice none 0 0, .slice none 0 0]) ?_ 7 _ rfl; (with_reducible repeat (first | refine blk_drewN ?_ _ | refine blk_drew ?_ | refine blk_alloc ?_ _)); refine blk_put (cs := #[.int .u16 49699, .int .u8 t615, .int .u8 t616, .slice none 0 0, .int .u16 0, .int .u32 0, .slice none 0 0, .slice none 0 0, .slice none 0 0, .slice none 0 0]) ?_ 6 _ rfl; (with_reducible repeat (first | refine blk_drewN ?_ _ | refine blk_drew ?_ | refine blk_alloc ?_ _)); refine blk_put (cs := #[.int .u16 49699, .int .u8 t615, .int .u8 t616, .slice none 0 0, .int .u16 0, .int .u32 0, .slice none 0 0, .slice none 0 0, .slice none 0 0, .slice none 0 0]) ?_ 5 _ rfl; (with_reducible repeat (first | refine blk_drewN ?_ _ | refine blk_drew ?_ | refine blk_alloc ?_ _)); refine blk_put (cs := #[.int .u16 49699, .int .u8 t615, .int .u8 t616, .slice none 0 0, .int .u16 0, .int .u32 0, .slice none 0 0, .slice none 0 0, .slice none 0 0, .slice none 0 0]) ?_ 4 _ rfl; (with_reducible repeat (first | refine blk_drewN ?_ _ | refine blk_drew ?_ | refine blk_alloc ?_ _)); refine blk_put (cs := #[.int .u16 49699, .int .u8 t615, .int .u8 t616, .slice none 0 0, .int .u16 0, .int .u32 0, .slice none 0 0, .slice none 0 0, .slice none 0 0, .slice none 0 0]) ?_ 3 _ rfl; (with_reducible repeat (first | refine blk_drewN ?_ _ | refine blk_drew ?_ | refine blk_alloc ?_ _)); refine blk_put (cs := #[.int .u16 49699, .int .u8 t615, .int .u8 0, .slice none 0 0, .int .u16 0, .int .u32 0, .slice none 0 0, .slice none 0 0, .slice none 0 0, .slice none 0 0]) ?_ 2 _ rfl; (with_reducible repeat (first | refine blk_drewN ?_ _ | refine blk_drew ?_ | refine blk_alloc ?_ _)); refine blk_put (cs := #[.int .u16 49699, .int .u8 0, .int .u8 0, .slice none 0 0, .int .u16 0, .int .u32 0, .slice none 0 0, .slice none 0 0, .slice none 0 0, .slice none 0 0]) ?_ 1 _ rfl; (with_reducible repeat (first | refine blk_drewN ?_ _ | refine blk_drew ?_ | refine blk_alloc ?_ _)); refine blk_put (cs := #[.int .u16 0, .int .u8 0, .int .u8 0, .slice none 0 0, .int .u16 0, .int .u32 0, .slice none 0 0, .slice none 0 0, .slice none 0 0, .slice none 0 0]) ?_ 0 _ rfl; (with_reducible repeat (first | refine blk_drewN ?_ _ | refine blk_drew ?_ | refine blk_alloc ?_ _)); exact BK621.out⟩; have n3_ : Aside0 (Below w.heap.size w ((((((((((w61.setCell ⟨gb621, 0, none⟩ (.int .u16 49699)).setCell ⟨gb621, 1, none⟩ (.int .u8 t615)).setCell ⟨gb621, 2, none⟩ (.int .u8 t616)).setCell ⟨gb621, 3, none⟩ (.slice none 0 0)).setCell ⟨gb621, 4, none⟩ (.int .u16 0)).setCell ⟨gb621, 5, none⟩ (.int .u32 0)).setCell ⟨gb621, 6, none⟩ (.slice none 0 0)).setCell ⟨gb621, 7, none⟩ (.slice none 0 0)).setCell ⟨gb621, 8, none⟩ (.slice none 0 0)).setCell ⟨gb621, 9, none⟩ (.slice none 0 0))) := ⟨by repeat (first | (with_reducible first | exact HB.out | apply below_alloc | apply pw_below_drewN | apply below_drew1 | refine below_set ?_ GE614.out | refine below_set ?_ GE621.out) | exact HB.out)⟩; (try clear HO620); (try clear BK614); (try clear BK621); (try clear HB); generalize ((((((((((w61.setCell ⟨gb621, 0, none⟩ (.int .u16 49699)).setCell ⟨gb621, 1, none⟩ (.int .u8 t615)).setCell ⟨gb621, 2, none⟩ (.int .u8 t616)).setCell ⟨gb621, 3, none⟩ (.slice none 0 0)).setCell ⟨gb621, 4, none⟩ (.int .u16 0)).setCell ⟨gb621, 5, none⟩ (.int .u32 0)).setCell ⟨gb621, 6, none⟩ (.slice none 0 0)).setCell ⟨gb621, 7, none⟩ (.slice none 0 0)).setCell ⟨gb621, 8, none⟩ (.slice none 0 0)).setCell ⟨gb621, 9, none⟩ (.slice none 0 0)) = w64 at n0_ n1_ n2_ n3_ ⊢; have HO620 := n0_; have BK614 := n1_; have BK621 := n2_; have HB := n3_; clear n0_ n1_ n2_ n3_; refine goesL_ (some 27) rfl rfl Try.func57 (by kernel_rfl) rfl #[.int .u8 t615] rfl (by (try simp only [List.map_toArray, List.map_cons, List.map_nil]); first | done | rfl | (simp only [List.length_drop, List.length_take]; rfl)) ?_; (with_reducible refine (chap_valued.calls t615 false _ A4.out).mono ?_); rintro e w' ⟨rfl, ⟨nd, rfl⟩⟩; refine ⟨_, rfl, ?_⟩; (try (rw [drewN_self w64]; generalize hq_ : World.drewN w64 _ = w64; have n0_ : Aside0 (Kd.R (Kd.int .u8) 5 w64 w.heap.size (fun _ => True) v619 t617) := ⟨by rw [← hq_]; exact (by (with_reducible repeat (first | apply Kd.R_alloc | apply Kd.R_drewN | apply Kd.R_drew)); exact HO620.out)⟩; have n1_ : Aside0 (w64.heap[gb614]? = some (.cells #[.int .u16 0, .int .u8 0, .int .u8 0, .slice none 0 0, .int .u16 0, .int .u32 0, .slice none 0 0, .slice none 0 0, .slice none 0 0, .slice none 0 0] 47 (0, 0))) := ⟨by rw [← hq_]; exact (by (with_reducible repeat (first | refine blk_drewN ?_ _ | refine blk_drew ?_ | refine blk_alloc ?_ _)); exact BK614.out)⟩; have n2_ : Aside0 (w64.heap[gb621]? = some (.cells #[.int .u16 49699, .int .u8 t615, .int .u8 t616, .slice none 0 0, .int .u16 0, .int .u32 0, .slice none 0 0, .slice none 0 0, .slice none 0 0, .slice none 0 0] 47 (0, 0))) := ⟨by rw [← hq_]; exact (by (with_reducible repeat (first | refine blk_drewN ?_ _ | refine blk_drew ?_ | refine blk_alloc ?_ _)); exact BK621.out)⟩; have n3_ : Aside0 (Below w.heap.size w w64) := ⟨by rw [← hq_]; exact (by repeat (first | (with_reducible first | exact HB.out | apply below_alloc | apply pw_below_drewN | apply below_drew1 | refine below_set ?_ GE614.out | refine below_set ?_ GE621.out) | exact HB.out))⟩; clear HO620 BK614 BK621 HB hq_; have HO620 := n0_; have BK614 := n1_; have BK621 := n2_; have HB := n3_; clear n0_ n1_ n2_ n3_)); obtain ⟨Ao65, co65, eo65⟩ := Kd.R_slice HO620.out; subst eo65; have hcz66_0 : w64.cell? ⟨gb621, 0, none⟩ = some (.int .u16 49699) := (blk_cell BK621.out 0).trans rfl; have hcz66_1 : w64.cell? ⟨gb621, 1, none⟩ = some (.int .u8 t615) := (blk_cell BK621.out 1).trans rfl; have hcz66_2 : w64.cell? ⟨gb621, 2, none⟩ = some (.int .u8 t616) := (blk_cell BK621.out 2).trans rfl; have hcz66_3 : w64.cell? ⟨gb621, 3, none⟩ = some (.slice none 0 0) := (blk_cell BK621.out 3).trans rfl; have hcz66_4 : w64.cell? ⟨gb621, 4, none⟩ = some (.int .u16 0) := (blk_cell BK621.out 4).trans rfl; have hcz66_5 : w64.cell? ⟨gb621, 5, none⟩ = some (.int .u32 0) := (blk_cell BK621.out 5).trans rfl; have hcz66_6 : w64.cell? ⟨gb621, 6, none⟩ = some (.slice none 0 0) := (blk_cell BK621.out 6).trans rfl; have hcz66_7 : w64.cell? ⟨gb621, 7, none⟩ = some (.slice none 0 0) := (blk_cell BK621.out 7).trans rfl; have hcz66_8 : w64.cell? ⟨gb621, 8, none⟩ = some (.slice none 0 0) := (blk_cell BK621.out 8).trans rfl; have hcz66_9 : w64.cell? ⟨gb621, 9, none⟩ = some (.slice none 0 0) := (blk_cell BK621.out 9).trans rfl; have hfz66_0 := blk_frozen BK621.out 0; have hfz66_1 := blk_frozen BK621.out 1; have hfz66_2 := blk_frozen BK621.out 2; have hfz66_3 := blk_frozen BK621.out 3; have hfz66_4 := blk_frozen BK621.out 4; have hfz66_5 := blk_frozen BK621.out 5; have hfz66_6 := blk_frozen BK621.out 6; have hfz66_7 := blk_frozen BK621.out 7; have hfz66_8 := blk_frozen BK621.out 8; have hfz66_9 := blk_frozen BK621.out 9; have hcz67_0 : w64.cell? ⟨gb614, 0, none⟩ = some (.int .u16 0) := (blk_cell BK614.out 0).trans rfl; have hcz67_1 : w64.cell? ⟨gb614, 1, none⟩ = some (.int .u8 0) := (blk_cell BK614.out 1).trans rfl; have hcz67_2 : w64.cell? ⟨gb614, 2, none⟩ = some (.int .u8 0) := (blk_cell BK614.out 2).trans rfl; have hcz67_3 : w64.cell? ⟨gb614, 3, none⟩ = some (.slice none 0 0) := (blk_cell BK614.out 3).trans rfl; have hcz67_4 : w64.cell? ⟨gb614, 4, none⟩ = some (.int .u16 0) := (blk_cell BK614.out 4).trans rfl; have hcz67_5 : w64.cell? ⟨gb614, 5, none⟩ = some (.int .u32 0) := (blk_cell BK614.out 5).trans rfl; have hcz67_6 : w64.cell? ⟨gb614, 6, none⟩ = some (.slice none 0 0) := (blk_cell BK614.out 6).trans rfl; have hcz67_7 : w64.cell? ⟨gb614, 7, none⟩ = some (.slice none 0 0) := (blk_cell BK614.out 7).trans rfl; have hcz67_8 : w64.cell? ⟨gb614, 8, none⟩ = some (.slice none 0 0) := (blk_cell BK614.out 8).trans rfl; have hcz67_9 : w64.cell? ⟨gb614, 9, none⟩ = some (.slice none 0 0) := (blk_cell BK614.out 9).trans rfl; have hfz67_0 := blk_frozen BK614.out 0; have hfz67_1 := blk_frozen BK614.out 1; have hfz67_2 := blk_frozen BK614.out 2; have hfz67_3 := blk_frozen BK614.out 3; have hfz67_4 := blk_frozen BK614.out 4; have hfz67_5 := blk_frozen BK614.out 5; have hfz67_6 := blk_frozen BK614.out 6; have hfz67_7 := blk_frozen BK614.out 7; have hfz67_8 := blk_frozen BK614.out 8; have hfz67_9 := blk_frozen BK614.out 9))
     refine bodyPost_ret (results_ct rfl _ _ gb614 47 #[.int .u16 49699, .int .u8 t615, .int .u8 t616, .slice none 0 0, .int .u16 0, .int .u32 0, .slice none 0 0, .slice none 0 0, .slice Ao65 t617.length co65, .slice none 0 0] (0, 0) _ rfl (by (with_reducible repeat (first | refine blk_drewN ?_ _ | refine blk_drew ?_ | refine blk_alloc ?_ _)); refine blk_put (cs := #[.int .u16 49699, .int .u8 t615, .int .u8 t616, .slice none 0 0, .int .u16 0, .int .u32 0, .slice none 0 0, .slice none 0 0, .slice Ao65 t617.length co65, .slice none 0 0]) ?_ 9 _ rfl; (with_reducible repeat (first | refine blk_drewN ?_ _ | refine blk_drew ?_ | refine blk_alloc ?_ _)); refine blk_put (cs := #[.int .u16 49699, .int .u8 t615, .int .u8 t616, .slice none 0 0, .int .u16 0, .int .u32 0, .slice none 0 0, .slice none 0 0, .slice none 0 0, .slice none 0 0]) ?_ 8 _ rfl; (with_reducible repeat (first | refine blk_drewN ?_ _ | refine blk_drew ?_ | refine blk_alloc ?_ _)); refine blk_put (cs := #[.int .u16 49699, .int .u8 t615, .int .u8 t616, .slice none 0 0, .int .u16 0, .int .u32 0, .slice none 0 0, .slice none 0 0, .slice none 0 0, .slice none 0 0]) ?_ 7 _ rfl; (with_reducible repeat (first | refine blk_drewN ?_ _ | refine blk_drew ?_ | refine blk_alloc ?_ _)); refine blk_put (cs := #[.int .u16 49699, .int .u8 t615, .int .u8 t616, .slice none 0 0, .int .u16 0, .int .u32 0, .slice none 0 0, .slice none 0 0, .slice none 0 0, .slice none 0 0]) ?_ 6 _ rfl; (with_reducible repeat (first | refine blk_drewN ?_ _ | refine blk_drew ?_ | refine blk_alloc ?_ _)); refine blk_put (cs := #[.int .u16 49699, .int .u8 t615, .int .u8 t616, .slice none 0 0, .int .u16 0, .int .u32 0, .slice none 0 0, .slice none 0 0, .slice none 0 0, .slice none 0 0]) ?_ 5 _ rfl; (with_reducible repeat (first | refine blk_drewN ?_ _ | refine blk_drew ?_ | refine blk_alloc ?_ _)); refine blk_put (cs := #[.int .u16 49699, .int .u8 t615, .int .u8 t616, .slice none 0 0, .int .u16 0, .int .u32 0, .slice none 0 0, .slice none 0 0, .slice none 0 0, .slice none 0 0]) ?_ 4 _ rfl; (with_reducible repeat (first | refine blk_drewN ?_ _ | refine blk_drew ?_ | refine blk_alloc ?_ _)); refine blk_put (cs := #[.int .u16 49699, .int .u8 t615, .int .u8 t616, .slice none 0 0, .int .u16 0, .int .u32 0, .slice none 0 0, .slice none 0 0, .slice none 0 0, .slice none 0 0]) ?_ 3 _ rfl; (with_reducible repeat (first | refine blk_drewN ?_ _ | refine blk_drew ?_ | refine blk_alloc ?_ _)); refine blk_put (cs := #[.int .u16 49699, .int .u8 t615, .int .u8 0, .slice none 0 0, .int .u16 0, .int .u32 0, .slice none 0 0, .slice none 0 0, .slice none 0 0, .slice none 0 0]) ?_ 2 _ rfl; (with_reducible repeat (first | refine blk_drewN ?_ _ | refine blk_drew ?_ | refine blk_alloc ?_ _)); refine blk_put (cs := #[.int .u16 49699, .int .u8 0, .int .u8 0, .slice none 0 0, .int .u16 0, .int .u32 0, .slice none 0 0, .slice none 0 0, .slice none 0 0, .slice none 0 0]) ?_ 1 _ rfl; (with_reducible repeat (first | refine blk_drewN ?_ _ | refine blk_drew ?_ | refine blk_alloc ?_ _)); refine blk_put (cs := #[.int .u16 0, .int .u8 0, .int .u8 0, .slice none 0 0, .int .u16 0, .int .u32 0, .slice none 0 0, .slice none 0 0, .slice none 0 0, .slice none 0 0]) ?_ 0 _ rfl; (with_reducible repeat (first | refine blk_drewN ?_ _ | refine blk_drew ?_ | refine blk_alloc ?_ _)); refine blk_far ?_ NB614_621.out _; (with_reducible repeat (first | refine blk_drewN ?_ _ | refine blk_drew ?_ | refine blk_alloc ?_ _)); exact BK614.out) Try.underlying47 rfl (by kernel_rfl)) rfl ?_
     exact ⟨_, _, _, _, _, by first | rfl | (simp [errW_none, errW_some] <;> rfl) | (simp [*, errW_none, errW_some] <;> rfl), by first | exact Kd.S_nil _ _ _ _ _ | exact Kd.N_nil _ _ _ _ _ | exact Kd.V_nil _ _ _ _ _ | exact Kd.Q_nil _ _ _ _ _ | exact Kd.R_nil _ _ _ _ _, by first | exact Kd.R_nil _ _ _ _ _ | exact Kd.N_nil _ _ _ _ _ | exact Kd.V_nil _ _ _ _ _ | exact Kd.Q_nil _ _ _ _ _ | exact Kd.S_nil _ _ _ _ _, by first | exact Kd.R_nil _ _ _ _ _ | exact Kd.N_nil _ _ _ _ _ | exact Kd.V_nil _ _ _ _ _ | exact Kd.Q_nil _ _ _ _ _ | exact Kd.S_nil _ _ _ _ _, by (with_reducible repeat (first | apply Kd.R_alloc | apply Kd.R_drewN | apply Kd.R_drew)); exact Kd.R_mono (Kd.R_far (p := ⟨gb614, 9, none⟩) (Kd.R_far (p := ⟨gb614, 8, none⟩) (Kd.R_far (p := ⟨gb614, 7, none⟩) (Kd.R_far (p := ⟨gb614, 6, none⟩) (Kd.R_far (p := ⟨gb614, 5, none⟩) (Kd.R_far (p := ⟨gb614, 4, none⟩) (Kd.R_far (p := ⟨gb614, 3, none⟩) (Kd.R_far (p := ⟨gb614, 2, none⟩) (Kd.R_far (p := ⟨gb614, 1, none⟩) (Kd.R_far (p := ⟨gb614, 0, none⟩) (Kd.R_far (p := ⟨gb621, 8, none⟩) (Kd.R_types (Kd.R_types HO620.out BK621.out (by decide)) BK614.out (by decide)) (fun _ hk => hk.1.2) (.slice Ao65 t617.length co65)) (fun _ hk => hk.2) (.int .u16 49699)) (fun _ hk => hk.2) (.int .u8 t615)) (fun _ hk => hk.2) (.int .u8 t616)) (fun _ hk => hk.2) (.slice none 0 0)) (fun _ hk => hk.2) (.int .u16 0)) (fun _ hk => hk.2) (.int .u32 0)) (fun _ hk => hk.2) (.slice none 0 0)) (fun _ hk => hk.2) (.slice none 0 0)) (fun _ hk => hk.2) (.slice Ao65 t617.length co65)) (fun _ hk => hk.2) (.slice none 0 0)) (fun _ hk => ⟨(by simp [Value.ownBlock]), (by simp [Value.ownBlock])⟩), by first | exact Kd.R_nil _ _ _ _ _ | exact Kd.N_nil _ _ _ _ _ | exact Kd.V_nil _ _ _ _ _ | exact Kd.Q_nil _ _ _ _ _ | exact Kd.S_nil _ _ _ _ _, by repeat (first | (with_reducible first | exact HB.out | apply below_alloc | apply pw_below_drewN | apply below_drew1 | refine below_set ?_ GE614.out | refine below_set ?_ GE621.out) | exact HB.out)⟩
 · rw [if_neg c3] at H
   have c3b0 : (t618 == 0) = false := beq_eq_false_iff_ne.mpr c3
   have c3b1 : (t618 != 0) = true := bne_iff_ne.mpr c3
   simp only [Option.some.injEq, Prod.mk.injEq] at H
   obtain ⟨rfl, rfl, rfl, rfl, rfl, rfl, rfl, rfl, rfl, rfl, rfl⟩ := H
   go_enter Try.func38, Try.ntmps38
   go_wp2_with (first | ((with_reducible refine gate_dst (N := 2) rfl ?_); refine box_event ?hg (N := 2) ?hd (cs := #[.int .u16 0, .int .u8 0, .int .u8 0, .slice none 0 0, .int .u16 0, .int .u32 0, .slice none 0 0, .slice none 0 0, .slice none 0 0, .slice none 0 0]) (t := 47) ?hr ?_; (case hd => rfl); (case hg => rfl); (case hr => first | (go_simp; done) | (go_simp; simp only [IntKind.wrap_u8, IntKind.wrap_u16, IntKind.wrap_u32, IntKind.wrap_u64]; done) | (go_simp; rfl)); intro gb614 hg w68 hbox hb; have n0_ := Aside0.mk (below_step (by repeat (first | (with_reducible first | exact HB.out | apply below_alloc | apply pw_below_drewN | apply below_drew1) | exact HB.out)) hb); have n1_ := Aside0.mk (hbox); have n2_ := Aside0.mk ((by rw [hg]; exact (below_size (by repeat (first | (with_reducible first | exact HB.out | apply below_alloc | apply pw_below_drewN | apply below_drew1) | exact HB.out))) : w.heap.size ≤ gb614)); have n3_ := Aside0.mk ((by rw [hg]; exact (below_size (by repeat (first | (with_reducible first | exact HB.out | apply below_alloc | apply pw_below_drewN | apply below_drew1) | exact HB.out))) : w.heap.size ≤ gb614)); clear HB; have HB := n0_; have BK614 := n1_; have GW614 := n2_; have GE614 := n3_; clear n0_ n1_ n2_ n3_; clear hb hbox hg) | ((with_reducible refine gate_callee (f := 53) rfl ?_); refine goesL_ (some 12) rfl rfl Try.func53 (by kernel_rfl) rfl #[.slice A0 l0.length c0] rfl (by (try simp only [List.map_toArray, List.map_cons, List.map_nil]); first | done | rfl | (simp only [List.length_drop, List.length_take]; rfl)) ?_; (with_reducible refine (ctl_Get.calls k _ _ l0 t615 t616 t617 t618 _ ?side1 ?side2 A2.out).mono ?_); (case side1 => repeat (first | exact (Kd.C_below HR0.out HB.out) | (with_reducible refine Kd.C_alloc ?_ _) | (with_reducible refine Kd.C_drewN ?_ _) | (with_reducible refine Kd.C_drew ?_))); (case side2 => exact HC0.out); rintro e w69 ⟨v619, rfl, ho0, hb⟩; refine ⟨_, rfl, ?_⟩; have n0_ := Aside0.mk (Kd.R_lower ho0 (below_size (by repeat (first | (with_reducible first | exact HB.out | apply below_alloc | apply pw_below_drewN | apply below_drew1 | refine below_set ?_ GE614.out) | exact HB.out)))); have n1_ := Aside0.mk (blk_below (g := gb614) (o := .cells #[.int .u16 0, .int .u8 0, .int .u8 0, .slice none 0 0, .int .u16 0, .int .u32 0, .slice none 0 0, .slice none 0 0, .slice none 0 0, .slice none 0 0] 47 (0, 0)) (by (with_reducible repeat (first | refine blk_drewN ?_ _ | refine blk_drew ?_ | refine blk_alloc ?_ _)); exact BK614.out) hb); have n2_ := Aside0.mk (below_step (by repeat (first | (with_reducible first | exact HB.out | apply below_alloc | apply pw_below_drewN | apply below_drew1 | refine below_set ?_ GE614.out) | exact HB.out)) hb); clear BK614; clear HB; have HO620 := n0_; have BK614 := n1_; have HB := n2_; clear n0_ n1_ n2_; (try clear hb); (try clear hb2); (try clear hk); (try clear hi); (try clear ho0)) | ((with_reducible refine gate_dst (N := 8) rfl ?_); refine box_event ?hg (N := 8) ?hd (cs := #[.int .u16 0, .int .u8 0, .int .u8 0, .slice none 0 0, .int .u16 0, .int .u32 0, .slice none 0 0, .slice none 0 0, .slice none 0 0, .slice none 0 0]) (t := 47) ?hr ?_; (case hd => rfl); (case hg => rfl); (case hr => first | (go_simp; done) | (go_simp; simp only [IntKind.wrap_u8, IntKind.wrap_u16, IntKind.wrap_u32, IntKind.wrap_u64]; done) | (go_simp; rfl)); intro gb621 hg w70 hbox hb; have n0_ := Aside0.mk (Kd.R_below (by (with_reducible repeat (first | apply Kd.R_alloc | apply Kd.R_drewN | apply Kd.R_drew)); exact HO620.out) hb); have n1_ := Aside0.mk (blk_below (g := gb614) (o := .cells #[.int .u16 0, .int .u8 0, .int .u8 0, .slice none 0 0, .int .u16 0, .int .u32 0, .slice none 0 0, .slice none 0 0, .slice none 0 0, .slice none 0 0] 47 (0, 0)) (by (with_reducible repeat (first | refine blk_drewN ?_ _ | refine blk_drew ?_ | refine blk_alloc ?_ _)); exact BK614.out) hb); have n2_ := Aside0.mk (below_step (by repeat (first | (with_reducible first | exact HB.out | apply below_alloc | apply pw_below_drewN | apply below_drew1 | refine below_set ?_ GE614.out) | exact HB.out)) hb); have n3_ := Aside0.mk (hbox); have n4_ := Aside0.mk ((by rw [hg]; exact (below_size (by repeat (first | (with_reducible first | exact HB.out | apply below_alloc | apply pw_below_drewN | apply below_drew1 | refine below_set ?_ GE614.out) | exact HB.out))) : w.heap.size ≤ gb621)); have n5_ := Aside0.mk ((by rw [hg]; exact (below_size (by repeat (first | (with_reducible first | exact HB.out | apply below_alloc | apply pw_below_drewN | apply below_drew1 | refine below_set ?_ GE614.out) | exact HB.out))) : w.heap.size ≤ gb621)); have n6_ := Aside0.mk ((by rw [hg]; exact Nat.ne_of_lt (blk_lt (g := gb614) (o := .cells #[.int .u16 0, .int .u8 0, .int .u8 0, .slice none 0 0, .int .u16 0, .int .u32 0, .slice none 0 0, .slice none 0 0, .slice none 0 0, .slice none 0 0] 47 (0, 0)) (by (with_reducible repeat (first | refine blk_drewN ?_ _ | refine blk_drew ?_ | refine blk_alloc ?_ _)); exact BK614.out)) : gb614 ≠ gb621)); have n7_ := Aside0.mk ((by rw [hg]; exact Nat.ne_of_gt (blk_lt (g := gb614) (o := .cells #[.int .u16 0, .int .u8 0, .int .u8 0, .slice none 0 0, .int .u16 0, .int .u32 0, .slice none 0 0, .slice none 0 0, .slice none 0 0, .slice none 0 0] 47 (0, 0)) (by (with_reducible repeat (first | refine blk_drewN ?_ _ | refine blk_drew ?_ | refine blk_alloc ?_ _)); exact BK614.out)) : gb621 ≠ gb614)); clear HO620; clear BK614; clear HB; have HO620 := n0_; have BK614 := n1_; have HB := n2_; have BK621 := n3_; have GW621 := n4_; have GE621 := n5_; have NB614_621 := n6_; have NB621_614 := n7_; clear n0_ n1_ n2_ n3_ n4_ n5_ n6_ n7_; clear hb hbox hg; have hnb71 := NB621_614.out; have hnc71 := NB614_621.out; have hcz72_0 : w70.cell? ⟨gb621, 0, none⟩ = some (.int .u16 0) := (blk_cell BK621.out 0).trans rfl; have hcz72_1 : w70.cell? ⟨gb621, 1, none⟩ = some (.int .u8 0) := (blk_cell BK621.out 1).trans rfl; have hcz72_2 : w70.cell? ⟨gb621, 2, none⟩ = some (.int .u8 0) := (blk_cell BK621.out 2).trans rfl; have hcz72_3 : w70.cell? ⟨gb621, 3, none⟩ = some (.slice none 0 0) := (blk_cell BK621.out 3).trans rfl; have hcz72_4 : w70.cell? ⟨gb621, 4, none⟩ = some (.int .u16 0) := (blk_cell BK621.out 4).trans rfl; have hcz72_5 : w70.cell? ⟨gb621, 5, none⟩ = some (.int .u32 0) := (blk_cell BK621.out 5).trans rfl; have hcz72_6 : w70.cell? ⟨gb621, 6, none⟩ = some (.slice none 0 0) := (blk_cell BK621.out 6).trans rfl; have hcz72_7 : w70.cell? ⟨gb621, 7, none⟩ = some (.slice none 0 0) := (blk_cell BK621.out 7).trans rfl; have hcz72_8 : w70.cell? ⟨gb621, 8, none⟩ = some (.slice none 0 0) := (blk_cell BK621.out 8).trans rfl; have hcz72_9 : w70.cell? ⟨gb621, 9, none⟩ = some (.slice none 0 0) := (blk_cell BK621.out 9).trans rfl; have hfz72_0 := blk_frozen BK621.out 0; have hfz72_1 := blk_frozen BK621.out 1; have hfz72_2 := blk_frozen BK621.out 2; have hfz72_3 := blk_frozen BK621.out 3; have hfz72_4 := blk_frozen BK621.out 4; have hfz72_5 := blk_frozen BK621.out 5; have hfz72_6 := blk_frozen BK621.out 6; have hfz72_7 := blk_frozen BK621.out 7; have hfz72_8 := blk_frozen BK621.out 8; have hfz72_9 := blk_frozen BK621.out 9; have hcz73_0 : w70.cell? ⟨gb614, 0, none⟩ = some (.int .u16 0) := (blk_cell BK614.out 0).trans rfl; have hcz73_1 : w70.cell? ⟨gb614, 1, none⟩ = some (.int .u8 0) := (blk_cell BK614.out 1).trans rfl; have hcz73_2 : w70.cell? ⟨gb614, 2, none⟩ = some (.int .u8 0) := (blk_cell BK614.out 2).trans rfl; have hcz73_3 : w70.cell? ⟨gb614, 3, none⟩ = some (.slice none 0 0) := (blk_cell BK614.out 3).trans rfl; have hcz73_4 : w70.cell? ⟨gb614, 4, none⟩ = some (.int .u16 0) := (blk_cell BK614.out 4).trans rfl; have hcz73_5 : w70.cell? ⟨gb614, 5, none⟩ = some (.int .u32 0) := (blk_cell BK614.out 5).trans rfl; have hcz73_6 : w70.cell? ⟨gb614, 6, none⟩ = some (.slice none 0 0) := (blk_cell BK614.out 6).trans rfl; have hcz73_7 : w70.cell? ⟨gb614, 7, none⟩ = some (.slice none 0 0) := (blk_cell BK614.out 7).trans rfl; have hcz73_8 : w70.cell? ⟨gb614, 8, none⟩ = some (.slice none 0 0) := (blk_cell BK614.out 8).trans rfl; have hcz73_9 : w70.cell? ⟨gb614, 9, none⟩ = some (.slice none 0 0) := (blk_cell BK614.out 9).trans rfl; have hfz73_0 := blk_frozen BK614.out 0; have hfz73_1 := blk_frozen BK614.out 1; have hfz73_2 := blk_frozen BK614.out 2; have hfz73_3 := blk_frozen BK614.out 3; have hfz73_4 := blk_frozen BK614.out 4; have hfz73_5 := blk_frozen BK614.out 5; have hfz73_6 := blk_frozen BK614.out 6; have hfz73_7 := blk_frozen BK614.out 7; have hfz73_8 := blk_frozen BK614.out 8; have hfz73_9 := blk_frozen BK614.out 9))
   refine bodyPost_ret (results_ct rfl _ _ gb614 47 #[.int .u16 0, .int .u8 0, .int .u8 0, .slice none 0 0, .int .u16 0, .int .u32 0, .slice none 0 0, .slice none 0 0, .slice none 0 0, .slice none 0 0] (0, 0) _ rfl (by (with_reducible repeat (first | refine blk_drewN ?_ _ | refine blk_drew ?_ | refine blk_alloc ?_ _)); refine blk_put (cs := #[.int .u16 0, .int .u8 0, .int .u8 0, .slice none 0 0, .int .u16 0, .int .u32 0, .slice none 0 0, .slice none 0 0, .slice none 0 0, .slice none 0 0]) ?_ 9 _ rfl; (with_reducible repeat (first | refine blk_drewN ?_ _ | refine blk_drew ?_ | refine blk_alloc ?_ _)); refine blk_put (cs := #[.int .u16 0, .int .u8 0, .int .u8 0, .slice none 0 0, .int .u16 0, .int .u32 0, .slice none 0 0, .slice none 0 0, .slice none 0 0, .slice none 0 0]) ?_ 8 _ rfl; (with_reducible repeat (first | refine blk_drewN ?_ _ | refine blk_drew ?_ | refine blk_alloc ?_ _)); refine blk_put (cs := #[.int .u16 0, .int .u8 0, .int .u8 0, .slice none 0 0, .int .u16 0, .int .u32 0, .slice none 0 0, .slice none 0 0, .slice none 0 0, .slice none 0 0]) ?_ 7 _ rfl; (with_reducible repeat (first | refine blk_drewN ?_ _ | refine blk_drew ?_ | refine blk_alloc ?_ _)); refine blk_put (cs := #[.int .u16 0, .int .u8 0, .int .u8 0, .slice none 0 0, .int .u16 0, .int .u32 0, .slice none 0 0, .slice none 0 0, .slice none 0 0, .slice none 0 0]) ?_ 6 _ rfl; (with_reducible repeat (first | refine blk_drewN ?_ _ | refine blk_drew ?_ | refine blk_alloc ?_ _)); refine blk_put (cs := #[.int .u16 0, .int .u8 0, .int .u8 0, .slice none 0 0, .int .u16 0, .int .u32 0, .slice none 0 0, .slice none 0 0, .slice none 0 0, .slice none 0 0]) ?_ 5 _ rfl; (with_reducible repeat (first | refine blk_drewN ?_ _ | refine blk_drew ?_ | refine blk_alloc ?_ _)); refine blk_put (cs := #[.int .u16 0, .int .u8 0, .int .u8 0, .slice none 0 0, .int .u16 0, .int .u32 0, .slice none 0 0, .slice none 0 0, .slice none 0 0, .slice none 0 0]) ?_ 4 _ rfl; (with_reducible repeat (first | refine blk_drewN ?_ _ | refine blk_drew ?_ | refine blk_alloc ?_ _)); refine blk_put (cs := #[.int .u16 0, .int .u8 0, .int .u8 0, .slice none 0 0, .int .u16 0, .int .u32 0, .slice none 0 0, .slice none 0 0, .slice none 0 0, .slice none 0 0]) ?_ 3 _ rfl; (with_reducible repeat (first | refine blk_drewN ?_ _ | refine blk_drew ?_ | refine blk_alloc ?_ _)); refine blk_put (cs := #[.int .u16 0, .int .u8 0, .int .u8 0, .slice none 0 0, .int .u16 0, .int .u32 0, .slice none 0 0, .slice none 0 0, .slice none 0 0, .slice none 0 0]) ?_ 2 _ rfl; (with_reducible repeat (first | refine blk_drewN ?_ _ | refine blk_drew ?_ | refine blk_alloc ?_ _)); refine blk_put (cs := #[.int .u16 0, .int .u8 0, .int .u8 0, .slice none 0 0, .int .u16 0, .int .u32 0, .slice none 0 0, .slice none 0 0, .slice none 0 0, .slice none 0 0]) ?_ 1 _ rfl; (with_reducible repeat (first | refine blk_drewN ?_ _ | refine blk_drew ?_ | refine blk_alloc ?_ _)); refine blk_put (cs := #[.int .u16 0, .int .u8 0, .int .u8 0, .slice none 0 0, .int .u16 0, .int .u32 0, .slice none 0 0, .slice none 0 0, .slice none 0 0, .slice none 0 0]) ?_ 0 _ rfl; (with_reducible repeat (first | refine blk_drewN ?_ _ | refine blk_drew ?_ | refine blk_alloc ?_ _)); refine blk_far ?_ NB614_621.out _; (with_reducible repeat (first | refine blk_drewN ?_ _ | refine blk_drew ?_ | refine blk_alloc ?_ _)); refine blk_far ?_ NB614_621.out _; (with_reducible repeat (first | refine blk_drewN ?_ _ | refine blk_drew ?_ | refine blk_alloc ?_ _)); refine blk_far ?_ NB614_621.out _; (with_reducible repeat (first | refine blk_drewN ?_ _ | refine blk_drew ?_ | refine blk_alloc ?_ _)); refine blk_far ?_ NB614_621.out _; (with_reducible repeat (first | refine blk_drewN ?_ _ | refine blk_drew ?_ | refine blk_alloc ?_ _)); refine blk_far ?_ NB614_621.out _; (with_reducible repeat (first | refine blk_drewN ?_ _ | refine blk_drew ?_ | refine blk_alloc ?_ _)); refine blk_far ?_ NB614_621.out _; (with_reducible repeat (first | refine blk_drewN ?_ _ | refine blk_drew ?_ | refine blk_alloc ?_ _)); refine blk_far ?_ NB614_621.out _; (with_reducible repeat (first | refine blk_drewN ?_ _ | refine blk_drew ?_ | refine blk_alloc ?_ _)); refine blk_far ?_ NB614_621.out _; (with_reducible repeat (first | refine blk_drewN ?_ _ | refine blk_drew ?_ | refine blk_alloc ?_ _)); refine blk_far ?_ NB614_621.out _; (with_reducible repeat (first | refine blk_drewN ?_ _ | refine blk_drew ?_ | refine blk_alloc ?_ _)); refine blk_far ?_ NB614_621.out _; (with_reducible repeat (first | refine blk_drewN ?_ _ | refine blk_drew ?_ | refine blk_alloc ?_ _)); exact BK614.out) Try.underlying47 rfl (by kernel_rfl)) rfl ?_
   exact ⟨_, _, _, _, _, by first | rfl | (simp [errW_none, errW_some] <;> rfl) | (simp [*, errW_none, errW_some] <;> rfl), by first | exact Kd.S_nil _ _ _ _ _ | exact Kd.N_nil _ _ _ _ _ | exact Kd.V_nil _ _ _ _ _ | exact Kd.Q_nil _ _ _ _ _ | exact Kd.R_nil _ _ _ _ _, by first | exact Kd.R_nil _ _ _ _ _ | exact Kd.N_nil _ _ _ _ _ | exact Kd.V_nil _ _ _ _ _ | exact Kd.Q_nil _ _ _ _ _ | exact Kd.S_nil _ _ _ _ _, by first | exact Kd.R_nil _ _ _ _ _ | exact Kd.N_nil _ _ _ _ _ | exact Kd.V_nil _ _ _ _ _ | exact Kd.Q_nil _ _ _ _ _ | exact Kd.S_nil _ _ _ _ _, by first | exact Kd.R_nil _ _ _ _ _ | exact Kd.N_nil _ _ _ _ _ | exact Kd.V_nil _ _ _ _ _ | exact Kd.Q_nil _ _ _ _ _ | exact Kd.S_nil _ _ _ _ _, by first | exact Kd.R_nil _ _ _ _ _ | exact Kd.N_nil _ _ _ _ _ | exact Kd.V_nil _ _ _ _ _ | exact Kd.Q_nil _ _ _ _ _ | exact Kd.S_nil _ _ _ _ _, by repeat (first | (with_reducible first | exact HB.out | apply below_alloc | apply pw_below_drewN | apply below_drew1 | refine below_set ?_ GE614.out | refine below_set ?_ GE621.out) | exact HB.out)⟩
end Go.Proofs.Ytgjeahgagciagaa.Print
namespace Go.Proofs.Ytgjeahgagciagaa.Print
open Go.RowKit Go.Proofs.YtgjeahgagciagaaW.PrintWords Go.Proofs.YtgjeahgagciagaaW.PrintLast Go.Proofs.YtgjeahgagciagaaW.PrintMore
attribute [local go_sem] max2_int min2_int max_two min_two max_three min_three max_four min_four
set_option linter.unusedVariables false
set_option linter.unusedSimpArgs false
def wire_Put.l0 : Nat → List Int → Int → Int → Option (List Int)
 | 0, _, _, _ => none
 | k + 1, x0, x1, x7 => if x7 ≥ 0 then (if 0 ≤ (wrap64 (8 * x7)) then (if x0.length < 140737488355328 then (wire_Put.l0 k (x0 ++ [(shr .u64 x1 (wrap64 (8 * x7))) % 256]) x1 (wrap64 (x7 - 1))) else (none)) else (none)) else (some x0)
def wire_Put.f (k : Nat) (l0 : List Int) (a1 : Int) (a2 : Int) : Option (List Int) := wire_Put.l0 k l0 a1 (wrap64 (a2 - 1))
set_option maxHeartbeats 8000000 in
set_option maxRecDepth 100000 in
theorem wire_Put.calls (k : Nat) (P0_ : Nat → Prop) (u9000_ : Value) (l0 : List Int) (a1 : Int) (a2 : Int) (r : List Int) (w0 w : World) (hB : Below w0.heap.size w0 w) (ho0 : Kd.R (Kd.int .u8) 5 w w0.heap.size P0_ u9000_ l0) (h : wire_Put.f k l0 a1 a2 = some r) :
 Calls Try.prog 59 #[u9000_, .int .u64 a1, .int .i64 a2] w fun e w' => ∃ v0_ : Value, e = .returned (v0_) ∧ Kd.R (Kd.int .u8) 5 w' w0.heap.size (fun k_ => (P0_ k_ ∨ w.heap.size ≤ k_)) v0_ r ∧ Below w0.heap.size w0 w' ∧ Kept w w' (fun k_ => P0_ k_) := by
 have HO0 := Aside0.mk (show Kd.R (Kd.int .u8) 5 w w0.heap.size (fun k_ => (P0_ k_ ∨ w.heap.size ≤ k_)) u9000_ l0 from Kd.R_mono ho0 (fun k_ hk => (.inl hk)))
 have HK := Aside0.mk (Kept.refl w (fun k_ => P0_ k_))
 have HW0 := Aside0.mk hB.size
 have HB := Aside0.mk hB
 clear hB
 have H : (wire_Put.l0 k l0 a1 (wrap64 (a2 - 1))) = some r := h
 clear h
 have H' := Aside0.mk H
 clear H
 go_enter Try.func59, Try.ntmps59
 go_wp2
 go_loopg [0, 7] k (fun kq v0 v7 w' => ∃ (x0_1 : List Int) (x7_1 : Int), v7 = .int .i64 x7_1 ∧ Aside0 (wire_Put.l0 kq x0_1 a1 x7_1 = some r) ∧ Aside0 (kq ≤ k) ∧ Aside0 (Kd.R (Kd.int .u8) 5 w' w0.heap.size (fun k_ => (P0_ k_ ∨ w.heap.size ≤ k_)) v0 x0_1) ∧ Aside0 (Kept w w' (fun k_ => P0_ k_)) ∧ Aside0 (Below w0.heap.size w0 w'))
 case atStart => exact ⟨(l0), (wrap64 (a2 - 1)), (by first | rfl | (simp; done) | (simp [*]; done)), H', ⟨Nat.le_refl _⟩, ⟨by (with_reducible repeat (first | apply Kd.R_alloc | apply Kd.R_drewN | apply Kd.R_drew)); exact HO0.out⟩, ⟨by repeat (first | (with_reducible first | exact HK.out | apply Kept.alloc | apply Kept.drewN | apply Kept.drew) | exact HK.out)⟩, ⟨by repeat (first | (with_reducible first | exact HB.out | apply below_alloc | apply pw_below_drewN | apply below_drew1) | exact HB.out)⟩⟩
 case round =>
  clear H'
  try clear p2
  obtain ⟨x0_1, x7_1, rfl, HA, HK1, HO_0, HK, HB⟩ := hrel
  cases gk with
  | zero => exact absurd HA.out (by simp [wire_Put.l0])
  | succ k1 =>
   have H := HA.out
   clear HA
   simp only [wire_Put.l0] at H
   by_cases c4 : x7_1 ≥ 0
   · rw [if_pos c4] at H
     have c4b0 : decide (0 ≤ x7_1) = true := decide_eq_true c4
     clear c4
     obtain ⟨ji5, hji5⟩ : ∃ j_ : Int, (wrap64 (8 * x7_1)) = j_ := ⟨_, rfl⟩
     replace H : (if 0 ≤ (ji5) then (if x0_1.length < 140737488355328 then (wire_Put.l0 k1 (x0_1 ++ [(shr .u64 a1 (ji5)) % 256]) a1 (wrap64 (x7_1 - 1))) else (none)) else (none)) = some r := by first | (rw [hji5] at H; exact H) | (simp only [hji5] at H ⊢; exact H)
     have hji5w : (IntKind.i64.wrap (8 * x7_1)) = ji5 := (i64_w _).trans hji5
     by_cases c6 : 0 ≤ (ji5)
     · rw [if_pos c6] at H
       have c6b0 := eq_true c6
       have c6b1 : decide (0 ≤ (ji5)) = true := decide_eq_true c6
       clear c6
       obtain ⟨ji7, hji7⟩ : ∃ j_ : Int, (shr .u64 a1 (ji5)) = j_ := ⟨_, rfl⟩
       replace H : (if x0_1.length < 140737488355328 then (wire_Put.l0 k1 (x0_1 ++ [(ji7) % 256]) a1 (wrap64 (x7_1 - 1))) else (none)) = some r := by first | (rw [hji7] at H; exact H) | (simp only [hji7] at H ⊢; exact H)
       have hji7_ : (a1 / 2 ^ min (ji5).toNat 64) = ji7 := hji7
       have hji7z : (ji5) ≤ 64 → (a1 / 2 ^ (ji5).toNat) = ji7 := shr_small hji7
       by_cases c8 : x0_1.length < 140737488355328
       · rw [if_pos c8] at H
         have LMc8 := Aside0.mk c8
         clear c8
         obtain ⟨y274, hy274⟩ : ∃ y_ : List Int, y_ = (x0_1 ++ [(ji7) % 256]) := ⟨_, rfl⟩
         replace H : (wire_Put.l0 k1 y274 a1 (wrap64 (x7_1 - 1))) = some r := by first | (rw [hy274]; with_reducible exact H) | (have H2_ := (Option.bind_some _ _).symm.trans H; rw [hy274]; with_reducible exact H2_) | (have H2_ := (Option.bind_some _ _).symm.trans H; with_reducible exact H2_) | with_reducible exact H | (rw [hy274]; exact H) | exact H
         have Ny274 := Aside0.mk hy274
         clear hy274
         have H' := Aside0.mk H
         clear H
         go_wp2_with (first | ((with_reducible refine gate_builtin (b := .append) (xs := #[.tmp 14, .tmp 20]) rfl ?_); at_builtin; refine Kd.R_append (Kd.int .u8) (w0 := w0) w0.heap.size rfl (.tmp 14) (.tmp 20) 23 5 (.int .u8 0) 1 rfl Try.underlying23 info5 rfl (by decide) (by omega) u0 x0_1 ((ji7) % 256) [.int .u8 ((ji7) % 256)] (fun k_ => (P0_ k_ ∨ w.heap.size ≤ k_)) (fun _ => False) rfl rfl ?aP (fun _ hk => hk.elim) ?aF ?aO ?aB ?aS ?aL ?_; (case aP => exact rfl); (case aB => exact (by repeat (first | (with_reducible first | exact HB.out | apply below_alloc | apply pw_below_drewN | apply below_drew1) | exact HB.out))); (case aF => exact (fun k_ hk => (.inr (Nat.le_trans (by first | exact HK.out.1 | exact (show Kept w _ (fun k_ => P0_ k_) from by repeat (first | (with_reducible first | exact HK.out | apply Kept.alloc | apply Kept.drewN | apply Kept.drew) | exact HK.out)).1) hk)))); (case aO => exact (by (with_reducible repeat (first | apply Kd.R_alloc | apply Kd.R_drewN | apply Kd.R_drew)); exact HO_0.out)); (case aS => exact (below_size (by repeat (first | (with_reducible first | exact HB.out | apply below_alloc | apply pw_below_drewN | apply below_drew1) | exact HB.out)))); (case aL => have := LMc8.out; omega); intro v275 w9 ho hb hg hat; rw [← Ny274.out] at ho; have n0_ := Aside0.mk (hb); have n1_ := Aside0.mk (Kept.of_grown (S := (fun k_ => P0_ k_)) hg (by repeat (first | (with_reducible first | exact HK.out | apply Kept.alloc | apply Kept.drewN | apply Kept.drew) | exact HK.out)) (fun k_ e_ => (HO_0.out.1 k_ e_))); have n2_ := Aside0.mk (ho); clear HB; clear HK; clear HO_0; have HB := n0_; have HK := n1_; have HO276 := n2_; clear n0_ n1_ n2_; clear ho hb hg hat))
         go_roundg k1
         case measure => have := HK1.out; omega
         case rel => exact ⟨(y274), (wrap64 (x7_1 - 1)), (by first | rfl | (simp; done) | (simp [*]; done)), (by first | exact H' | (simp only [hji5, hji7]; exact H')), ⟨by have := HK1.out; omega⟩, ⟨by (with_reducible repeat (first | apply Kd.R_alloc | apply Kd.R_drewN | apply Kd.R_drew)); exact HO276.out⟩, ⟨by repeat (first | (with_reducible first | exact HK.out | apply Kept.alloc | apply Kept.drewN | apply Kept.drew) | exact HK.out)⟩, ⟨by repeat (first | (with_reducible first | exact HB.out | apply below_alloc | apply pw_below_drewN | apply below_drew1) | exact HB.out)⟩⟩
       · rw [if_neg c8] at H
         exact absurd H (by simp)
     · rw [if_neg c6] at H
       exact absurd H (by simp)
   · rw [if_neg c4] at H
     have c4b0 : decide (0 ≤ x7_1) = false := decide_eq_false c4
     clear c4
     obtain rfl := Option.some.inj H
     go_wp2
     go_ret
     exact ⟨_, by first | rfl | (simp [errW_none, errW_some] <;> rfl) | (simp [*, errW_none, errW_some] <;> rfl), by (with_reducible repeat (first | apply Kd.R_alloc | apply Kd.R_drewN | apply Kd.R_drew)); exact HO_0.out, by repeat (first | (with_reducible first | exact HB.out | apply below_alloc | apply pw_below_drewN | apply below_drew1) | exact HB.out), by repeat (first | (with_reducible first | exact HK.out | apply Kept.alloc | apply Kept.drewN | apply Kept.drew) | exact HK.out)⟩
end Go.Proofs.Ytgjeahgagciagaa.Print
namespace Go.Proofs.Ytgjeahgagciagaa.Print
open Go.RowKit Go.Proofs.YtgjeahgagciagaaW.PrintWords Go.Proofs.YtgjeahgagciagaaW.PrintLast Go.Proofs.YtgjeahgagciagaaW.PrintMore
attribute [local go_sem] max2_int min2_int max_two min_two max_three min_three max_four min_four
set_option linter.unusedVariables false
set_option linter.unusedSimpArgs false
def ctl_Put.f (k : Nat) (a0 : Int) (a1 : Int) (l2 : List Int) : Option (List Int × Int) := if (wrap64 ((l2.length : Int) + 4)) > 65535 then (some (([] : List Int), 3)) else ((wire_Put.f k (([a0, a1] : List Int)) (IntKind.u64.wrap (wrap64 ((l2.length : Int) + 4))) 2).bind fun t280 => (if t280.length + l2.length < 140737488355328 then (some ((t280 ++ l2), 0)) else (none)))
set_option maxHeartbeats 8000000 in
set_option maxRecDepth 100000 in
theorem ctl_Put.calls (k : Nat) (a0 : Int) (a1 : Int) (A2 : Option Addr) (c2 : Nat) (l2 : List Int) (r1 : List Int) (r2 : Int) (w : World) (hr2 : Kd.C (Kd.int .u8) w A2 l2.length l2) (hc2 : l2.length ≤ c2) (h : ctl_Put.f k a0 a1 l2 = some (r1, r2)) :
 Calls Try.prog 51 #[.int .u8 a0, .int .u8 a1, .slice A2 l2.length c2] w fun e w' => ∃ v0_ : Value, e = .returned (.tuple #[v0_, .int .i64 r2]) ∧ Kd.R (Kd.int .u8) 5 w' w.heap.size (fun _ => True) v0_ r1 ∧ Below w.heap.size w w' := by
 have HR2 := Aside0.mk hr2
 have HC2 := Aside0.mk hc2
 clear hr2 hc2
 have HB := Aside0.mk (Below.refl w.heap.size w)
 have H : (if (wrap64 ((l2.length : Int) + 4)) > 65535 then (some (([] : List Int), 3)) else ((wire_Put.f k (([a0, a1] : List Int)) (IntKind.u64.wrap (wrap64 ((l2.length : Int) + 4))) 2).bind fun t280 => (if t280.length + l2.length < 140737488355328 then (some ((t280 ++ l2), 0)) else (none)))) = some (r1, r2) := h
 clear h
 by_cases c4 : (wrap64 ((l2.length : Int) + 4)) > 65535
 · rw [if_pos c4] at H
   have c4b0 : decide (65535 < (wrap64 ((l2.length : Int) + 4))) = true := decide_eq_true c4
   clear c4
   simp only [Option.some.injEq, Prod.mk.injEq] at H
   obtain ⟨rfl, rfl⟩ := H
   go_enter Try.func51, Try.ntmps51
   go_wp2
   go_ret2
   exact ⟨_, by first | rfl | (simp [errW_none, errW_some] <;> rfl) | (simp [*, errW_none, errW_some] <;> rfl), by first | exact Kd.R_nil _ _ _ _ _ | exact Kd.N_nil _ _ _ _ _ | exact Kd.V_nil _ _ _ _ _ | exact Kd.Q_nil _ _ _ _ _ | exact Kd.S_nil _ _ _ _ _, by repeat (first | (with_reducible first | exact HB.out | apply below_alloc | apply pw_below_drewN | apply below_drew1) | exact HB.out)⟩
 · rw [if_neg c4] at H
   have c4b0 : decide (65535 < (wrap64 ((l2.length : Int) + 4))) = false := decide_eq_false c4
   clear c4
   obtain ⟨y277, hy277⟩ : ∃ y_ : List Int, y_ = (([a0, a1] : List Int)) := ⟨_, rfl⟩
   replace H : ((wire_Put.f k y277 (IntKind.u64.wrap (wrap64 ((l2.length : Int) + 4))) 2).bind fun t280 => (if t280.length + l2.length < 140737488355328 then (some ((t280 ++ l2), 0)) else (none))) = some (r1, r2) := by first | (rw [hy277]; with_reducible exact H) | (have H2_ := (Option.bind_some _ _).symm.trans H; rw [hy277]; with_reducible exact H2_) | (have H2_ := (Option.bind_some _ _).symm.trans H; with_reducible exact H2_) | with_reducible exact H | (rw [hy277]; exact H) | exact H
   have Ny277 := Aside0.mk hy277
   clear hy277
   replace H := Option.bind_eq_some_iff.mp H
   obtain ⟨t280, A50, H⟩ := H
   replace H : (if t280.length + l2.length < 140737488355328 then (some ((t280 ++ l2), 0)) else (none)) = some (r1, r2) := H
   have A5 := Aside0.mk A50
   clear A50
   by_cases c6 : t280.length + l2.length < 140737488355328
   · rw [if_pos c6] at H
     have LMc6 := Aside0.mk c6
     clear c6
     obtain ⟨y283, hy283⟩ : ∃ y_ : List Int, y_ = (t280 ++ l2) := ⟨_, rfl⟩
     replace H : (some (y283, 0)) = some (r1, r2) := by first | (rw [hy283]; with_reducible exact H) | (have H2_ := (Option.bind_some _ _).symm.trans H; rw [hy283]; with_reducible exact H2_) | (have H2_ := (Option.bind_some _ _).symm.trans H; with_reducible exact H2_) | with_reducible exact H | (rw [hy283]; exact H) | exact H
     have Ny283 := Aside0.mk hy283
     clear hy283
     simp only [Option.some.injEq, Prod.mk.injEq] at H
     obtain ⟨rfl, rfl⟩ := H
     go_enter Try.func51, Try.ntmps51
     go_wp2_with (first | ((with_reducible refine gate_dst (N := 16) rfl ?_); refine Kd.R_lit (Kd.int .u8) _ 5 ?hg (N := 16) ?hd (xs := ([a0, a1] : List Int)) (inner := [.int .u8 a0, .int .u8 a1]) (ok := fun _ => True) (okp := fun _ => True) ?hr ?hp (fun _ hk => hk) trivial (Below.refl _ _) (Nat.le_refl _) (by simp) ?_; (case hd => rfl); (case hg => rfl); (case hr => first | (go_simp; done) | (go_simp; simp only [IntKind.wrap_u8, IntKind.wrap_u16, IntKind.wrap_u32, IntKind.wrap_u64]; done) | (go_simp; rfl)); (case hp => exact (Reps.one (show Kd.M (Kd.int .u8) _ _ _ a0 [.int .u8 a0] from rfl) (Reps.one (show Kd.M (Kd.int .u8) _ _ _ a1 [.int .u8 a1] from rfl) (Reps.none _ _)))); intro v278 w7 ho8 hb hg_ hnew_; clear hg_ hnew_; (first | rw [← Ny277.out] at ho8 | (simp only [Int.reduceToNat] at ho8; rw [← Ny277.out] at ho8)); have n0_ := Aside0.mk (Kd.R_lower ho8 (below_size (by repeat (first | (with_reducible first | exact HB.out | apply below_alloc | apply pw_below_drewN | apply below_drew1) | exact HB.out)))); have n1_ := Aside0.mk (below_step (by repeat (first | (with_reducible first | exact HB.out | apply below_alloc | apply pw_below_drewN | apply below_drew1) | exact HB.out)) hb); clear HB; have HO279 := n0_; have HB := n1_; clear n0_ n1_; clear hb ho8; obtain ⟨Ao9, co9, eo9⟩ := Kd.R_slice HO279.out; subst eo9) | ((with_reducible refine gate_callee (f := 59) rfl ?_); refine goesL_ (some 19) rfl rfl Try.func59 (by kernel_rfl) rfl #[.slice Ao9 y277.length co9, .int .u64 (IntKind.u64.wrap (wrap64 ((l2.length : Int) + 4))), .int .i64 2] rfl (by (try simp only [List.map_toArray, List.map_cons, List.map_nil]); first | done | rfl | (simp only [List.length_drop, List.length_take]; rfl)) ?_; (with_reducible refine (wire_Put.calls k (fun k_ => some k_ = (.slice Ao9 y277.length co9 : Value).ownBlock) (.slice Ao9 y277.length co9) y277 (IntKind.u64.wrap (wrap64 ((l2.length : Int) + 4))) 2 t280 w _ ?side1 ?side2 A5.out).mono ?_); (case side1 => repeat (first | (with_reducible first | exact HB.out | apply below_alloc | apply pw_below_drewN | apply below_drew1) | exact HB.out)); (case side2 => exact Kd.R_tight rfl HO279.out); rintro e w10 ⟨v281, rfl, ho0, hb, hkp⟩; refine ⟨_, rfl, ?_⟩; have n0_ := Aside0.mk (Kd.R_mono (ok' := fun k_ => True) ho0 (fun k_ hk_ => trivial)); have n1_ := Aside0.mk (hb); clear HB; clear HO279; have HO282 := n0_; have HB := n1_; clear n0_ n1_; (try clear hb); (try clear hkp); (try clear ho0)) | ((with_reducible refine gate_builtin (b := .append) (xs := #[.tmp 19, .tmp 20]) rfl ?_); at_builtin; refine Kd.R_append_rows (Kd.int .u8) (w0 := w) w.heap.size rfl (.tmp 19) (.tmp 20) 23 5 (.int .u8 0) 1 rfl Try.underlying23 info5 rfl (by decide) (by omega) v281 t280 l2 _ _ _ (fun _ => True) (fun _ => False) rfl rfl ?aO ?aR (fun _ _ h => h) (fun _ h => h.elim) ?aF ?aB ?aS ?aL ?_; (case aR => repeat (first | exact (Kd.C_below HR2.out HB.out) | (with_reducible refine Kd.C_alloc ?_ _) | (with_reducible refine Kd.C_drewN ?_ _) | (with_reducible refine Kd.C_drew ?_))); (case aB => exact (by repeat (first | (with_reducible first | exact HB.out | apply below_alloc | apply pw_below_drewN | apply below_drew1) | exact HB.out))); (case aF => exact (fun _ _ => trivial)); (case aO => exact (by (with_reducible repeat (first | apply Kd.R_alloc | apply Kd.R_drewN | apply Kd.R_drew)); exact HO282.out)); (case aS => exact (below_size (by repeat (first | (with_reducible first | exact HB.out | apply below_alloc | apply pw_below_drewN | apply below_drew1) | exact HB.out)))); (case aL => have := LMc6.out; omega); intro v284 w11 ho hb hg hat; rw [← Ny283.out] at ho; have n0_ := Aside0.mk (hb); have n1_ := Aside0.mk (ho); clear HB; clear HO282; have HB := n0_; have HO285 := n1_; clear n0_ n1_; clear ho hb hg hat))
     go_ret2
     exact ⟨_, by first | rfl | (simp [errW_none, errW_some] <;> rfl) | (simp [*, errW_none, errW_some] <;> rfl), by (with_reducible repeat (first | apply Kd.R_alloc | apply Kd.R_drewN | apply Kd.R_drew)); exact HO285.out, by repeat (first | (with_reducible first | exact HB.out | apply below_alloc | apply pw_below_drewN | apply below_drew1) | exact HB.out)⟩
   · rw [if_neg c6] at H
     exact absurd H (by simp)
end Go.Proofs.Ytgjeahgagciagaa.Print
namespace Go.Proofs.Ytgjeahgagciagaa.Print
open Go.RowKit Go.Proofs.YtgjeahgagciagaaW.PrintWords Go.Proofs.YtgjeahgagciagaaW.PrintLast Go.Proofs.YtgjeahgagciagaaW.PrintMore
attribute [local go_sem] max2_int min2_int max_two min_two max_three min_three max_four min_four
set_option linter.unusedVariables false
set_option linter.unusedSimpArgs false
def slices_Grow_byte_byte.f (l0 : List Int) (a1 : Int) : Option (List Int) := if 0 ≤ a1 then (if a1 < 140737488355328 then some [] else none) else none
set_option maxHeartbeats 8000000 in
set_option maxRecDepth 100000 in
theorem slices_Grow_byte_byte.calls (A0 : Option Addr) (c0 : Nat) (l0 : List Int) (a1 : Int) (r : List Int) (w : World) (hr0 : Kd.C (Kd.int .u8) w A0 l0.length l0) (hc0 : l0.length ≤ c0) (h : slices_Grow_byte_byte.f l0 a1 = some r) (hA : A0 = none := by rfl) (hc : c0 = 0 := by rfl) :
 Calls Try.prog 61 #[.slice A0 l0.length c0, .int .i64 a1] w fun e w' => ∃ v0_ : Value, e = .returned (v0_) ∧ Kd.R (Kd.int .u8) 5 w' w.heap.size (fun _ => True) v0_ r ∧ Below w.heap.size w w' := by
 subst hA
 subst hc
 obtain rfl : l0 = [] := List.eq_nil_of_length_eq_zero (by omega)
 clear hr0 hc0
 unfold slices_Grow_byte_byte.f at h
 by_cases h0 : 0 ≤ a1
 · rw [if_pos h0] at h
   by_cases h1 : a1 < 140737488355328
   · rw [if_pos h1] at h
     obtain rfl := Option.some.inj h
     clear h
     have L1 := Aside0.mk h0
     have L2 := Aside0.mk h1
     have HB := Aside0.mk (Below.refl w.heap.size w)
     have d0 : decide (a1 < 0) = false := decide_eq_false (by omega)
     have e1 : wrap64 a1 = a1 := by unfold wrap64; omega
     clear h0 h1
     by_cases h2 : 0 < a1
     · have d1 : decide (0 < a1) = true := decide_eq_true h2
       clear h2
       go_enter Try.func61, Try.ntmps61
       go_wp2_with (first | ((with_reducible refine gate_builtin (b := .append) (xs := #[.tmp 20, .tmp 21]) rfl ?_); at_builtin; refine Kd.R_append_zeros (Kd.int .u8) (w0 := w) w.heap.size rfl (.tmp 20) (.tmp 21) 23 3 5 (.int .u8 0) 1 rfl Try.underlying23 Try.underlying3 info5 rfl (by decide) (by omega) (.slice none 0 0) [] (0 : Int) (wrap64 a1) (fun _ => True) rfl rfl rfl (fun _ _ => trivial) (Kd.R_nil _ _ _ _ _) (by rw [e1]; exact L1.out) ?aB ?aS ?aL ?_; (case aB => exact (by repeat (first | (with_reducible first | exact HB.out | apply below_alloc | apply pw_below_drewN | apply below_drew1) | exact HB.out))); (case aS => exact (below_size (by repeat (first | (with_reducible first | exact HB.out | apply below_alloc | apply pw_below_drewN | apply below_drew1) | exact HB.out)))); (case aL => have h1_ := L1.out; have h2_ := L2.out; rw [e1]; simp only [List.length_nil]; omega); intro v2 w2 ho hb hg hat; have n0_ := Aside0.mk hb; have n1_ := Aside0.mk ho; clear HB hg hat ho hb; have HB := n0_; have HO := n1_; clear n0_ n1_; obtain ⟨A2, c2, eo2⟩ := Kd.R_slice HO.out; subst eo2))
       go_ret
       exact ⟨_, rfl, by have h3 := Kd.R_take HO.out (m := 0) (Nat.zero_le _); exact h3, HB.out⟩
     · have d1 : decide (0 < a1) = false := decide_eq_false h2
       clear h2
       go_enter Try.func61, Try.ntmps61
       go_wp2
       go_ret
       exact ⟨_, rfl, Kd.R_nil _ _ _ _ _, HB.out⟩
   · rw [if_neg h1] at h
     cases h
 · rw [if_neg h0] at h
   cases h
end Go.Proofs.Ytgjeahgagciagaa.Print
namespace Go.Proofs.Ytgjeahgagciagaa.Print
open Go.RowKit Go.Proofs.YtgjeahgagciagaaW.PrintWords Go.Proofs.YtgjeahgagciagaaW.PrintLast Go.Proofs.YtgjeahgagciagaaW.PrintMore
attribute [local go_sem] max2_int min2_int max_two min_two max_three min_three max_four min_four
set_option linter.unusedVariables false
set_option linter.unusedSimpArgs false
mutual
def slices_Concat_byte_byte.l0 : Nat → List (List Int) → Int → List (List Int) → Int → Int → Option (List Int)
 | 0, _, _, _, _, _ => none
 | k + 1, x0, x3, x9, x10, x11 => if x11 < x10 then (if 0 ≤ x11 then (if x11 < (x9.length : Int) then (if (wrap64 (x3 + ((rd_L1 x9 x11).length : Int))) < 0 then (none) else (slices_Concat_byte_byte.l0 k x0 (wrap64 (x3 + ((rd_L1 x9 x11).length : Int))) x9 x10 (wrap64 (x11 + 1)))) else (none)) else (none)) else ((slices_Grow_byte_byte.f ([] : List Int) x3).bind fun t287 => (slices_Concat_byte_byte.l1 k t287 x0 (x0.length : Int) 0))
def slices_Concat_byte_byte.l1 : Nat → List Int → List (List Int) → Int → Int → Option (List Int)
 | 0, _, _, _, _ => none
 | k + 1, x6, x25, x26, x27 => if x27 < x26 then (if 0 ≤ x27 then (if x27 < (x25.length : Int) then (if x6.length + (rd_L1 x25 x27).length < 140737488355328 then (slices_Concat_byte_byte.l1 k (x6 ++ (rd_L1 x25 x27)) x25 x26 (wrap64 (x27 + 1))) else (none)) else (none)) else (none)) else (some x6)
end
def slices_Concat_byte_byte.f (k : Nat) (l0 : List (List Int)) : Option (List Int) := slices_Concat_byte_byte.l0 k l0 0 l0 (l0.length : Int) 0
set_option maxHeartbeats 8000000 in
set_option maxRecDepth 100000 in
theorem slices_Concat_byte_byte.calls (k : Nat) (A0 : Option Addr) (c0 : Nat) (l0 : List (List Int)) (r : List Int) (w : World) (hr0 : Kd.C (Kd.slice 5 (Kd.int .u8)) w A0 l0.length l0) (hc0 : l0.length ≤ c0) (h : slices_Concat_byte_byte.f k l0 = some r) :
 Calls Try.prog 58 #[.slice A0 l0.length c0] w fun e w' => ∃ v0_ : Value, e = .returned (v0_) ∧ Kd.R (Kd.int .u8) 5 w' w.heap.size (fun _ => True) v0_ r ∧ Below w.heap.size w w' := by
 have HR0 := Aside0.mk hr0
 have HC0 := Aside0.mk hc0
 clear hr0 hc0
 have HB := Aside0.mk (Below.refl w.heap.size w)
 have H : (slices_Concat_byte_byte.l0 k l0 0 l0 (l0.length : Int) 0) = some r := h
 clear h
 have H' := Aside0.mk H
 clear H
 go_enter Try.func58, Try.ntmps58
 go_wp2
 go_loopg [3, 11] k (fun kq v3 v11 w' => ∃ (x3_1 : Int) (x11_1 : Int), v3 = .int .i64 x3_1 ∧ v11 = .int .i64 x11_1 ∧ Aside0 (slices_Concat_byte_byte.l0 kq l0 x3_1 l0 (l0.length : Int) x11_1 = some r) ∧ Aside0 (kq ≤ k) ∧ Aside0 (Below w.heap.size w w'))
 case atStart => exact ⟨(0), (0), (by first | rfl | (simp; done) | (simp [*]; done)), (by first | rfl | (simp; done) | (simp [*]; done)), H', ⟨Nat.le_refl _⟩, ⟨by repeat (first | (with_reducible first | exact HB.out | apply below_alloc | apply pw_below_drewN | apply below_drew1) | exact HB.out)⟩⟩
 case round =>
  clear H'
  obtain ⟨x3_1, x11_1, rfl, rfl, HA, HK1, HB⟩ := hrel
  cases gk with
  | zero => exact absurd HA.out (by simp [slices_Concat_byte_byte.l0])
  | succ k1 =>
   have H := HA.out
   clear HA
   simp only [slices_Concat_byte_byte.l0] at H
   by_cases c2 : x11_1 < (l0.length : Int)
   · rw [if_pos c2] at H
     have c2b0 : decide (x11_1 < (l0.length : Int)) = true := decide_eq_true c2
     clear c2
     by_cases c3 : 0 ≤ x11_1
     · rw [if_pos c3] at H
       have c3b0 : decide (0 ≤ x11_1) = true := decide_eq_true c3
       clear c3
       by_cases c4 : x11_1 < (l0.length : Int)
       · rw [if_pos c4] at H
         have c4b0 : decide (x11_1 < (l0.length : Int)) = true := decide_eq_true c4
         clear c4
         by_cases c5 : (wrap64 (x3_1 + ((rd_L1 l0 x11_1).length : Int))) < 0
         · rw [if_pos c5] at H
           exact absurd H (by simp)
         · rw [if_neg c5] at H
           have c5b0 : decide ((wrap64 (x3_1 + ((rd_L1 l0 x11_1).length : Int))) < 0) = false := decide_eq_false c5
           clear c5
           have H' := Aside0.mk H
           clear H
           have p286 : 0 ≤ (x11_1 : Int) := of_decide_eq_true (by first | (with_reducible assumption) | assumption)
           have q286 : x11_1 < (l0.length : Int) := of_decide_eq_true (by first | (with_reducible assumption) | assumption)
           (try clear hHeld)
           obtain ⟨ad286, A286_0, c286_0, e286, hx286_0, hl286_0, hi286_0⟩ := at_L1 HR0.out x11_1 p286 q286
           cases e286
           replace hx286_0 := (HB.out.cell (World.block_lt_of_cell? w _ hx286_0)).trans hx286_0
           have HR286_0 := Aside0.mk hi286_0
           have HC286_0 := Aside0.mk hl286_0
           clear hi286_0 hl286_0
           replace p286 := eq_true p286
           replace q286 := eq_true q286
           go_wp2
           go_roundg k1
           case measure => have := HK1.out; omega
           case rel => exact ⟨(wrap64 (x3_1 + ((rd_L1 l0 x11_1).length : Int))), (wrap64 (x11_1 + 1)), (by first | rfl | (simp; done) | (simp [*]; done)), (by first | rfl | (simp; done) | (simp [*]; done)), H', ⟨by have := HK1.out; omega⟩, ⟨by repeat (first | (with_reducible first | exact HB.out | apply below_alloc | apply pw_below_drewN | apply below_drew1) | exact HB.out)⟩⟩
       · rw [if_neg c4] at H
         exact absurd H (by simp)
     · rw [if_neg c3] at H
       exact absurd H (by simp)
   · rw [if_neg c2] at H
     have c2b0 : decide (x11_1 < (l0.length : Int)) = false := decide_eq_false c2
     clear c2
     replace H := Option.bind_eq_some_iff.mp H
     obtain ⟨t287, A60, H⟩ := H
     replace H : (slices_Concat_byte_byte.l1 k1 t287 l0 (l0.length : Int) 0) = some r := H
     have A6 := Aside0.mk A60
     clear A60
     have H' := Aside0.mk H
     clear H
     go_wp2_with (first | ((with_reducible refine gate_callee (f := 61) rfl ?_); refine goesL_ (some 24) rfl rfl Try.func61 (by kernel_rfl) rfl #[.slice none 0 0, .int .i64 x3_1] rfl (by (try simp only [List.map_toArray, List.map_cons, List.map_nil]); first | done | rfl | (simp only [List.length_drop, List.length_take]; rfl)) ?_; (refine (slices_Grow_byte_byte.calls _ _ ([] : List Int) x3_1 t287 _ ?side1 ?side2 A6.out).mono ?_); (case side1 => exact Kd.C_nil _ _); (case side2 => exact Nat.le_refl _); rintro e w7 ⟨v288, rfl, ho0, hb⟩; refine ⟨_, rfl, ?_⟩; have n0_ := Aside0.mk (Kd.R_lower ho0 (below_size (by repeat (first | (with_reducible first | exact HB.out | apply below_alloc | apply pw_below_drewN | apply below_drew1) | exact HB.out)))); have n1_ := Aside0.mk (below_step (by repeat (first | (with_reducible first | exact HB.out | apply below_alloc | apply pw_below_drewN | apply below_drew1) | exact HB.out)) hb); clear HB; have HO289 := n0_; have HB := n1_; clear n0_ n1_; (try clear hb); (try clear hb2); (try clear hk); (try clear hi); (try clear ho0)))
     go_loopg [6, 27] k1 (fun kq v6 v27 w' => ∃ (x6_2 : List Int) (x27_2 : Int), v27 = .int .i64 x27_2 ∧ Aside0 (slices_Concat_byte_byte.l1 kq x6_2 l0 (l0.length : Int) x27_2 = some r) ∧ Aside0 (kq ≤ k1) ∧ Aside0 (Kd.R (Kd.int .u8) 5 w' w.heap.size (fun _ => True) v6 x6_2) ∧ Aside0 (Below w.heap.size w w'))
     case atStart => exact ⟨(t287), (0), (by first | rfl | (simp; done) | (simp [*]; done)), H', ⟨Nat.le_refl _⟩, ⟨by (with_reducible repeat (first | apply Kd.R_alloc | apply Kd.R_drewN | apply Kd.R_drew)); exact HO289.out⟩, ⟨by repeat (first | (with_reducible first | exact HB.out | apply below_alloc | apply pw_below_drewN | apply below_drew1) | exact HB.out)⟩⟩
     case round =>
      clear H'
      try clear c2
      try clear c2b0
      try clear p2
      try clear q2
      try clear hx2
      try clear c3
      try clear c3b0
      try clear c4
      try clear c4b0
      try clear c5
      try clear c5b0
      try clear c6
      try clear p6
      try clear hx286_0
      try clear p286
      try clear q286
      obtain ⟨x6_2, x27_2, rfl, HA, HK2, HO_6, HB⟩ := hrel
      cases gk with
      | zero => exact absurd HA.out (by simp [slices_Concat_byte_byte.l1])
      | succ k2 =>
       have H := HA.out
       clear HA
       simp only [slices_Concat_byte_byte.l1] at H
       by_cases c8 : x27_2 < (l0.length : Int)
       · rw [if_pos c8] at H
         have c8b0 : decide (x27_2 < (l0.length : Int)) = true := decide_eq_true c8
         clear c8
         by_cases c9 : 0 ≤ x27_2
         · rw [if_pos c9] at H
           have c9b0 : decide (0 ≤ x27_2) = true := decide_eq_true c9
           clear c9
           by_cases c10 : x27_2 < (l0.length : Int)
           · rw [if_pos c10] at H
             have c10b0 : decide (x27_2 < (l0.length : Int)) = true := decide_eq_true c10
             clear c10
             by_cases c11 : x6_2.length + (rd_L1 l0 x27_2).length < 140737488355328
             · rw [if_pos c11] at H
               have LMc11 := Aside0.mk c11
               clear c11
               obtain ⟨y291, hy291⟩ : ∃ y_ : List Int, y_ = (x6_2 ++ (rd_L1 l0 x27_2)) := ⟨_, rfl⟩
               replace H : (slices_Concat_byte_byte.l1 k2 y291 l0 (l0.length : Int) (wrap64 (x27_2 + 1))) = some r := by first | (rw [hy291]; with_reducible exact H) | (have H2_ := (Option.bind_some _ _).symm.trans H; rw [hy291]; with_reducible exact H2_) | (have H2_ := (Option.bind_some _ _).symm.trans H; with_reducible exact H2_) | with_reducible exact H | (rw [hy291]; exact H) | exact H
               have Ny291 := Aside0.mk hy291
               clear hy291
               have H' := Aside0.mk H
               clear H
               have p290 : 0 ≤ (x27_2 : Int) := of_decide_eq_true (by first | (with_reducible assumption) | assumption)
               have q290 : x27_2 < (l0.length : Int) := of_decide_eq_true (by first | (with_reducible assumption) | assumption)
               (try clear hHeld)
               obtain ⟨ad290, A290_0, c290_0, e290, hx290_0, hl290_0, hi290_0⟩ := at_L1 HR0.out x27_2 p290 q290
               cases e290
               replace hx290_0 := (HB.out.cell (World.block_lt_of_cell? w _ hx290_0)).trans hx290_0
               have HR290_0 := Aside0.mk hi290_0
               have HC290_0 := Aside0.mk hl290_0
               clear hi290_0 hl290_0
               replace p290 := eq_true p290
               replace q290 := eq_true q290
               go_wp2_with (first | ((with_reducible refine gate_builtin (b := .append) (xs := #[.tmp 31, .tmp 32]) rfl ?_); at_builtin; refine Kd.R_append_rows (Kd.int .u8) (w0 := w) w.heap.size rfl (.tmp 31) (.tmp 32) 23 5 (.int .u8 0) 1 rfl Try.underlying23 info5 rfl (by decide) (by omega) u6 x6_2 (rd_L1 l0 x27_2) _ _ _ (fun _ => True) (fun _ => False) rfl rfl ?aO ?aR (fun _ _ h => h) (fun _ h => h.elim) ?aF ?aB ?aS ?aL ?_; (case aR => repeat (first | exact (Kd.C_below HR290_0.out HB.out) | (with_reducible refine Kd.C_alloc ?_ _) | (with_reducible refine Kd.C_drewN ?_ _) | (with_reducible refine Kd.C_drew ?_))); (case aB => exact (by repeat (first | (with_reducible first | exact HB.out | apply below_alloc | apply pw_below_drewN | apply below_drew1) | exact HB.out))); (case aF => exact (fun _ _ => trivial)); (case aO => exact (by (with_reducible repeat (first | apply Kd.R_alloc | apply Kd.R_drewN | apply Kd.R_drew)); exact HO_6.out)); (case aS => exact (below_size (by repeat (first | (with_reducible first | exact HB.out | apply below_alloc | apply pw_below_drewN | apply below_drew1) | exact HB.out)))); (case aL => have := LMc11.out; omega); intro v292 w12 ho hb hg hat; rw [← Ny291.out] at ho; have n0_ := Aside0.mk (hb); have n1_ := Aside0.mk (ho); clear HB; clear HO_6; have HB := n0_; have HO293 := n1_; clear n0_ n1_; clear ho hb hg hat))
               go_roundg k2
               case measure => have := HK1.out; have := HK2.out; omega
               case rel => exact ⟨(y291), (wrap64 (x27_2 + 1)), (by first | rfl | (simp; done) | (simp [*]; done)), H', ⟨by have := HK1.out; have := HK2.out; omega⟩, ⟨by (with_reducible repeat (first | apply Kd.R_alloc | apply Kd.R_drewN | apply Kd.R_drew)); exact HO293.out⟩, ⟨by repeat (first | (with_reducible first | exact HB.out | apply below_alloc | apply pw_below_drewN | apply below_drew1) | exact HB.out)⟩⟩
             · rw [if_neg c11] at H
               exact absurd H (by simp)
           · rw [if_neg c10] at H
             exact absurd H (by simp)
         · rw [if_neg c9] at H
           exact absurd H (by simp)
       · rw [if_neg c8] at H
         have c8b0 : decide (x27_2 < (l0.length : Int)) = false := decide_eq_false c8
         clear c8
         obtain rfl := Option.some.inj H
         go_wp2
         go_ret
         exact ⟨_, by first | rfl | (simp [errW_none, errW_some] <;> rfl) | (simp [*, errW_none, errW_some] <;> rfl), by (with_reducible repeat (first | apply Kd.R_alloc | apply Kd.R_drewN | apply Kd.R_drew)); exact HO_6.out, by repeat (first | (with_reducible first | exact HB.out | apply below_alloc | apply pw_below_drewN | apply below_drew1) | exact HB.out)⟩
end Go.Proofs.Ytgjeahgagciagaa.Print
