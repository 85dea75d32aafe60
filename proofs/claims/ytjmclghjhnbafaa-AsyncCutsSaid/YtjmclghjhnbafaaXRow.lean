/- How what came in reads: words of this claim's own, over any program. -/
import Derived.Test.YtjmclghjhnbafaaPrint0
namespace Go.Proofs.Ytjmclghjhnbafaa.Print
open Go.RowKit Go.Proofs.YtjmclghjhnbafaaW.PrintWords Go.Proofs.YtjmclghjhnbafaaW.PrintLast Go.Proofs.YtjmclghjhnbafaaW.PrintMore
/-! ### how what came in reads: words of this claim's own, over any program -/
namespace XRow
variable {H : Type} {enc : TypeId × Value → H} {P : Program} {w : World} {α : Type}
/-- Whatever reads as data at type t, no heavier than a machine reaches, holds the cells of one x of kind d, in its range. -/
def Opens (enc : TypeId × Value → H) (P : Program) (w : World) (t : TypeId) (d : Kd α) (wf : α → Prop) : Prop :=
  ∀ fuel cs x, DataW.trod enc P w 0 (fun _ => true) true fuel t cs = some x → (∀ n ∈ x.1.weights P t, n ≤ reachBytes) → ∃ a, d.K w a cs ∧ wf a
theorem opens_int {t : TypeId} {k : IntKind} (ht : P.underlying t = some (.int k)) : Opens enc P w t (Kd.int k) (fun n => (Lit.int k n).wf = true) := by
  intro fuel cs x hx _
  obtain ⟨n, rfl, _, hw⟩ := DataW.trod_int ht hx
  exact ⟨n, rfl, hw⟩
theorem opens_bool {t : TypeId} (ht : P.underlying t = some .bool) : Opens enc P w t Kd.bool (fun _ => True) := by
  intro fuel cs x hx _
  obtain ⟨b, rfl, _⟩ := DataW.trod_bool ht hx
  exact ⟨b, rfl, trivial⟩
theorem cells_at {a : Addr} {n : Nat} {cs : List Value} (h : w.cells? 0 a n = some cs) : cs.length = n ∧ ∀ i u, cs[i]? = some u → w.cell? (a.add i) = some u := by
  obtain ⟨_, hlen, hc⟩ := World.cells?_some h
  refine ⟨hlen, fun i u hu => ?_⟩
  have hi : i < n := by rw [← hlen]; exact (List.getElem?_eq_some_iff.1 hu).1
  rw [← hu]
  exact hc i hi
theorem weights_all {e : TypeId} : ∀ {ds : List (DataW H)} {d : DataW H}, d ∈ ds → ∀ n ∈ d.weights P e, n ∈ DataW.weightsAll P e ds
  | [], _, h, _, _ => by simp at h
  | _ :: ds, d, h, n, hn => by
    simp only [DataW.weightsAll, List.mem_append]
    rcases List.mem_cons.1 h with rfl | h
    · exact Or.inl hn
    · exact Or.inr (weights_all h n hn)
theorem opens_slice {t e : TypeId} {d : Kd α} {wf : α → Prop} (ht : P.underlying t = some (.slice e)) (hC : P.cellsOf e = d.sz) {B : Nat} (hB : P.bytesOf e = B) (hE : Opens enc P w e d wf) :
    Opens enc P w t (Kd.slice e d) (fun l => (l.length ≤ 9223372036854775807 ∧ l.length * B ≤ 140737488351232) ∧ ∀ y ∈ l, wf y) := by
  intro fuel cs x hx hz
  rcases DataW.trod_slice ht hx with ⟨rfl, _⟩ | ⟨a, len, cap, elems, rest, n, _, rfl, he, _, hl, hm, hlen, hel, _, _⟩
  · exact ⟨[], ⟨none, 0, rfl, Nat.le_refl _, Kd.C_nil d w⟩, by simp, by simp⟩
  have hm' : cap ≤ 9223372036854775807 := by simpa [maxLen] using hm
  subst he
  simp only [DataW.weights, ht, List.mem_cons, List.mem_append] at hz
  have hB' : len * B ≤ 140737488351232 := by
    have h1 := hz _ (Or.inl rfl)
    rw [hB, List.length_map, hlen] at h1
    exact Nat.le_trans (Nat.mul_le_mul_right _ (Nat.le_add_right _ _)) h1
  have key : ∀ i, i < len → ∃ y, ∃ c, w.cells? 0 (a.add (i * d.sz)) d.sz = some c ∧ d.K w y c ∧ wf y := by
    intro i hi
    have h := hel i hi
    rw [hC, List.getElem?_eq_getElem (by omega)] at h
    obtain ⟨c, hc, ht⟩ := Option.bind_eq_some_iff.1 h
    obtain ⟨y, hk, hw⟩ := hE n c _ ht (fun m hm => hz m (Or.inr (Or.inl (weights_all (List.mem_map.2 ⟨_, List.getElem_mem _, rfl⟩) m hm))))
    exact ⟨y, c, hc, hk, hw⟩
  have hf : ∃ f : (i : Nat) → i < len → α, ∀ i (hi : i < len), ∃ c, w.cells? 0 (a.add (i * d.sz)) d.sz = some c ∧ d.K w (f i hi) c ∧ wf (f i hi) :=
    ⟨fun i hi => Classical.choose (key i hi), fun i hi => Classical.choose_spec (key i hi)⟩
  obtain ⟨f, hf⟩ := hf
  have hll : (List.ofFn (fun i : Fin len => f i.1 i.2)).length = len := by simp
  refine ⟨List.ofFn (fun i : Fin len => f i.1 i.2), ⟨some a, cap, by rw [hll], by rw [hll]; exact hl, rfl, by rw [hll]; omega, fun _ => ⟨a, rfl, fun j p hj => ?_⟩⟩, ⟨by rw [hll]; omega, by rw [hll]; exact hB'⟩, fun y hy => ?_⟩
  · obtain ⟨hj1, hj2⟩ := List.getElem?_eq_some_iff.1 hj
    rw [hll] at hj1
    have e : f j hj1 = p := by rw [← hj2]; simp
    obtain ⟨c, hc, hk, _⟩ := hf j hj1
    obtain ⟨hcl, hcc⟩ := cells_at hc
    refine ⟨c, hcl, e ▸ hk, fun i u hu => ?_⟩
    have h := hcc i u hu
    rwa [add_add] at h
  · obtain ⟨⟨i, hi⟩, rfl⟩ := List.mem_ofFn.1 hy
    obtain ⟨_, _, _, hw⟩ := hf i hi
    exact hw
theorem field_weights {t : TypeId} {fs : Array Field} {xs : List (DataW H × List MemPlace)} (ht : P.underlying t = some (.struct fs)) (hz : ∀ n ∈ (DataW.agg (xs.map (·.1))).weights P t, n ≤ reachBytes) {j : Nat} {f : Field} {x : DataW H × List MemPlace} (hf : fs[j]? = some f) (hx : xs[j]? = some x) : ∀ n ∈ x.1.weights P f.type, n ≤ reachBytes := by
  intro n hn
  refine hz n ?_
  simp only [DataW.weights, ht]
  exact DataW.weights_mem_each (j := j) (by simp [hf]) (by simp [hx]) n hn
theorem arg_weights {ts : List TypeId} {ds : List (DataW H)} (hsz : (DataW.weightsEach P ts ds).all (· ≤ reachBytes) = true) {j : Nat} {t : TypeId} {d : DataW H} (ht : ts[j]? = some t) (hd : ds[j]? = some d) : ∀ n ∈ d.weights P t, n ≤ reachBytes :=
  fun n hn => by simpa using List.all_eq_true.1 hsz n (DataW.weights_mem_each ht hd n hn)
theorem seg (cs : List Value) (o s : Nat) : cs.drop o = (cs.drop o).take s ++ cs.drop (o + s) := by rw [← List.drop_drop, List.take_append_drop]
theorem seg_last {cs : List Value} {o s : Nat} (h : cs.length = o + s) : cs.drop o = (cs.drop o).take s := by rw [List.take_of_length_le]; rw [List.length_drop]; omega
end XRow
end Go.Proofs.Ytjmclghjhnbafaa.Print
