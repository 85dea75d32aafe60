/- What the asynchronous deframer's Feed comes to, told as callers use it: the stores into its variable last. No condition but the rows' lengths. -/
import Derived.Test.YtjmclghjhnbafaaDf05g
namespace Go.Proofs.Ytjmclghjhnbafaa.Print
open Go.RowKit Go.Proofs.YtjmclghjhnbafaaW.PrintWords Go.Proofs.YtjmclghjhnbafaaW.PrintLast Go.Proofs.YtjmclghjhnbafaaW.PrintMore
set_option linter.unusedVariables false
set_option linter.unusedSimpArgs false
/-- What a chunk tells, and what is kept behind it. -/
def async_Deframer_Feed.f (a0 a1 : Int) (l2 : List Int) (b3 b4 b5 : Bool) (l6 : List Int) : Option (List S34 × List Int × Bool × Bool × Bool) :=
  if l6.length ≤ 100000 ∧ l2.length ≤ 100000000 ∧ (l6.all fun c => decide (0 ≤ c)) = true then some ((dfeed a0 a1 ⟨l2, b3, b4, b5⟩ l6).1, (dfeed a0 a1 ⟨l2, b3, b4, b5⟩ l6).2.data, (dfeed a0 a1 ⟨l2, b3, b4, b5⟩ l6).2.any, (dfeed a0 a1 ⟨l2, b3, b4, b5⟩ l6).2.esc, (dfeed a0 a1 ⟨l2, b3, b4, b5⟩ l6).2.long) else none
theorem async_New.box (a0 a1 : Int) (w : World) : Calls Try.prog 13 #[.int .u32 a0, .int .i64 a1] w fun e w' => ∃ g : Nat, e = .returned (.pointer (some ⟨g, 0, none⟩)) ∧ g = w.heap.size ∧ w'.heap[g]? = some (.cells #[.int .u32 a0, .int .i64 a1, .slice none 0 0, .bool false, .bool false, .bool false] 58 (0, 0)) ∧ Below w.heap.size w w' := by
  have hu58 := Try.underlying58
  have HBW := Aside0.mk (Below.refl w.heap.size w)
  go_enter Try.func13, Try.ntmps13
  go_wp2_with (first | ((with_reducible refine gate_dst (N := 8) rfl ?_); refine box_event ?hg (N := 8) ?hd (cs := #[.int .u32 a0, .int .i64 a1, .slice none 0 0, .bool false, .bool false, .bool false]) (t := 58) ?hr ?_; (case hd => rfl); (case hg => rfl); (case hr => first | (go_simp; done) | (go_simp; rfl)); intro gb101 hg w3 hbox hb; have HG := Aside0.mk hg; have BK := Aside0.mk hbox; have HB := Aside0.mk hb; clear hg hbox hb))
  go_ret
  exact ⟨_, rfl, HG.out, BK.out, HB.out⟩
/-- A row of octets isn't the variable. -/
theorem C_swap {W W' : World} {g : Nat} {f0 f1 : Int} {u : Value} {b3 b4 b5 : Bool} {A : Option Addr} {n : Nat} {xs : List Int} (hC : Kd.C (Kd.int .u8) W A n xs) (hk : ∀ k, k ≠ g → W'.heap[k]? = W.heap[k]?)
    (hg : W.heap[g]? = some (.cells #[.int .u32 f0, .int .i64 f1, u, .bool b3, .bool b4, .bool b5] 58 (0, 0))) (hu : ∀ x, u ≠ .int .u8 x) : Kd.C (Kd.int .u8) W' A n xs := by
  refine ⟨hC.1, hC.2.1, fun hn => ?_⟩
  obtain ⟨ad, hA, h⟩ := hC.2.2 hn
  refine ⟨ad, hA, fun j p hj => ?_⟩
  obtain ⟨cs, h1, h2, h3⟩ := h j p hj
  refine ⟨cs, h1, h2, fun i v hv => ?_⟩
  have h4 := h3 i v hv
  have hcs : cs = [Value.int .u8 p] := h2
  have hvv : v = .int .u8 p := by
    rw [hcs] at hv
    cases i with
    | zero => simpa using hv.symm
    | succ i => simp at hv
  by_cases hb : (ad.add (j * (Kd.int .u8).sz + i)).block = g
  · exfalso
    generalize ad.add (j * (Kd.int .u8).sz + i) = a at h4 hb
    unfold World.cell? at h4
    rw [hb, hg] at h4
    simp only at h4
    split at h4
    · cases h4
    · rw [hvv] at h4
      match hoff : a.off, h4 with
      | 0, h4 => simp at h4
      | 1, h4 => simp at h4
      | 2, h4 => simp at h4; exact hu _ h4
      | 3, h4 => simp at h4
      | 4, h4 => simp at h4
      | 5, h4 => simp at h4
      | k + 6, h4 => simp at h4
  · unfold World.cell? at h4 ⊢
    rw [hk _ hb]
    exact h4
theorem world_eq : ∀ {W W' : World}, W'.tape = W.tape → W'.drawn = W.drawn → W'.os = W.os → W'.output = W.output → (∀ k : Nat, W'.heap[k]? = W.heap[k]?) → W' = W
  | ⟨h, t, d, o, p⟩, ⟨h', t', d', o', p'⟩, h1, h2, h3, h4, hk => by
    have e : h' = h := Array.ext_getElem? hk
    simp only at h1 h2 h3 h4
    subst h1 h2 h3 h4 e
    rfl
theorem set_tape (W : World) (p : Addr) (v : Value) : (W.setCell p v).tape = W.tape := rfl
theorem set_drawn (W : World) (p : Addr) (v : Value) : (W.setCell p v).drawn = W.drawn := rfl
theorem set_os (W : World) (p : Addr) (v : Value) : (W.setCell p v).os = W.os := rfl
theorem set_output (W : World) (p : Addr) (v : Value) : (W.setCell p v).output = W.output := rfl
set_option maxHeartbeats 8000000 in
/-- The variable's four cells set back, and set again: the world as it was. -/
theorem back_again {W : World} {g : Nat} {f0 f1 : Int} {u : Value} {b3 b4 b5 : Bool} (hg : W.heap[g]? = some (.cells #[.int .u32 f0, .int .i64 f1, u, .bool b3, .bool b4, .bool b5] 58 (0, 0))) (z2 z3 z4 z5 : Value) :
    W = ((((((((W.setCell ⟨g, 2, none⟩ z2).setCell ⟨g, 3, none⟩ z3).setCell ⟨g, 4, none⟩ z4).setCell ⟨g, 5, none⟩ z5).setCell ⟨g, 2, none⟩ u).setCell ⟨g, 3, none⟩ (.bool b3)).setCell ⟨g, 4, none⟩ (.bool b4)).setCell ⟨g, 5, none⟩ (.bool b5)) := by
  symm
  refine world_eq (by simp only [set_tape]) (by simp only [set_drawn]) (by simp only [set_os]) (by simp only [set_output]) (fun k => ?_)
  by_cases hk : k = g
  · subst hk
    rw [hg]
    exact blk_put (blk_put (blk_put (blk_put (blk_put (blk_put (blk_put (blk_put hg 2 z2 rfl) 3 z3 rfl) 4 z4 rfl) 5 z5 rfl) 2 u rfl) 3 (.bool b3) rfl) 4 (.bool b4) rfl) 5 (.bool b5) rfl
  · have f : ∀ (W : World) (i : Nat) (v : Value), (W.setCell ⟨g, i, none⟩ v).heap[k]? = W.heap[k]? := fun W i v => Below.heap_setCell W ⟨g, i, none⟩ v k hk
    rw [f, f, f, f, f, f, f, f]
set_option maxHeartbeats 8000000 in
theorem dfx (g : Nat) (a0 a1 : Int) (P0_ : Nat → Prop) (u : Value) (l2 : List Int) (b3 b4 b5 : Bool) (A6 : Option Addr) (c6 : Nat) (l6 : List Int) (r1 : List S34) (r2 : List Int) (r3 r4 r5 : Bool) (w0 w : World) (hB : Below w0.heap.size w0 w)
    (ho : Kd.R (Kd.int .u8) 5 w w0.heap.size P0_ u l2) (hC : ∀ W', Kept w W' (fun k_ => P0_ k_) → Kd.C (Kd.int .u8) W' A6 l6.length l6) (hc : l6.length ≤ c6) (h : async_Deframer_Feed.f a0 a1 l2 b3 b4 b5 l6 = some (r1, r2, r3, r4, r5))
    (hG : w.heap[g]? = some (.cells #[.int .u32 a0, .int .i64 a1, u, .bool b3, .bool b4, .bool b5] 58 (0, 0))) (hge : w0.heap.size ≤ g) (hP : ¬ P0_ g) :
    Calls Try.prog 14 #[.pointer (some ⟨g, 0, none⟩), .slice A6 l6.length c6] w fun e w' => ∃ (W : World) (v u' : Value), e = .returned v ∧ w' = ((((W.setCell ⟨g, 2, none⟩ u').setCell ⟨g, 3, none⟩ (.bool r3)).setCell ⟨g, 4, none⟩ (.bool r4)).setCell ⟨g, 5, none⟩ (.bool r5)) ∧
      Kd.S k34 34 W w0.heap.size (fun k_ => (P0_ k_ ∨ w.heap.size ≤ k_) ∧ some k_ ≠ (u' : Value).ownBlock) v r1 ∧ Kd.R (Kd.int .u8) 5 W w0.heap.size (fun k_ => (P0_ k_ ∨ w.heap.size ≤ k_)) u' r2 ∧ Below w0.heap.size w0 W ∧ Kept w W (fun k_ => P0_ k_) := by
  unfold async_Deframer_Feed.f at h
  split at h
  · rename_i hb
    simp only [Option.some.injEq, Prod.mk.injEq] at h
    obtain ⟨rfl, rfl, rfl, rfl, rfl⟩ := h
    have hgl := blk_lt hG
    obtain ⟨Au, cu, hu⟩ := Kd.R_slice ho
    have hC' : ∀ W', Kept w W' (fun k_ => P0_ k_ ∨ k_ = g) → Kd.C (Kd.int .u8) W' A6 l6.length l6 := by
      intro W' hk
      have hK : Kept w { W' with heap := W'.heap.setIfInBounds g (.cells #[.int .u32 a0, .int .i64 a1, u, .bool b3, .bool b4, .bool b5] 58 (0, 0)) } (fun k_ => P0_ k_) := by
        refine ⟨by simpa using hk.1, fun i hi hn => ?_⟩
        by_cases hig : i = g
        · subst hig
          rw [hG]
          show (W'.heap.setIfInBounds i _)[i]? = _
          rw [Array.getElem?_setIfInBounds_self, if_pos (Nat.lt_of_lt_of_le hgl hk.1)]
        · show (W'.heap.setIfInBounds g _)[i]? = _
          rw [Array.getElem?_setIfInBounds_ne (fun e => hig e.symm)]
          exact hk.2 i hi (fun h => h.elim hn hig)
      refine C_swap (g := g) (hC _ hK) (fun k hkg => ?_) (f0 := a0) (f1 := a1) (u := u) (b3 := b3) (b4 := b4) (b5 := b5) ?_ (fun x e => by rw [hu] at e; cases e)
      · show _ = (W'.heap.setIfInBounds g _)[k]?
        rw [Array.getElem?_setIfInBounds_ne (fun e => hkg e.symm)]
      · show (W'.heap.setIfInBounds g _)[g]? = _
        rw [Array.getElem?_setIfInBounds_self, if_pos (Nat.lt_of_lt_of_le hgl hk.1)]
    refine (df_feed P0_ g u a0 a1 ⟨l2, b3, b4, b5⟩ A6 c6 l6 w0 w hB hG hge hP ho hC' hb.1 hb.2.1 (fun c hc => by simpa using List.all_eq_true.1 hb.2.2 c hc)).mono ?_
    rintro e w' ⟨vo, u', rfl, HL⟩
    have hgo : ∀ k, (P0_ k ∨ w.heap.size ≤ k) → k ≠ g := fun k hk e => hk.elim (fun h => hP (e ▸ h)) (fun h => by omega)
    refine ⟨_, vo, u', rfl, back_again HL.cell u (.bool b3) (.bool b4) (.bool b5), ?_, ?_, ?_, ?_⟩
    · refine Kd.S_mono (Kd.S_far (p := ⟨g, 5, none⟩) (Kd.S_far (p := ⟨g, 4, none⟩) (Kd.S_far (p := ⟨g, 3, none⟩) (Kd.S_far (p := ⟨g, 2, none⟩) HL.out ?_ _) ?_ _) ?_ _) ?_ _) (fun k hk => ⟨.inr hk.1, hk.2⟩)
      all_goals exact fun k hk => hgo k (.inr hk.1)
    · refine Kd.R_far (p := ⟨g, 5, none⟩) (Kd.R_far (p := ⟨g, 4, none⟩) (Kd.R_far (p := ⟨g, 3, none⟩) (Kd.R_far (p := ⟨g, 2, none⟩) HL.row ?_ _) ?_ _) ?_ _) ?_ _
      all_goals exact hgo
    · exact below_set (below_set (below_set (below_set HL.bel hge) hge) hge) hge
    · have hk := ((((HL.kept.setCell (p := ⟨g, 2, none⟩) (.inl (.inr rfl)) u).setCell (p := ⟨g, 3, none⟩) (.inl (.inr rfl)) (.bool b3)).setCell (p := ⟨g, 4, none⟩) (.inl (.inr rfl)) (.bool b4)).setCell (p := ⟨g, 5, none⟩) (.inl (.inr rfl)) (.bool b5))
      refine ⟨hk.1, fun i hi hn => ?_⟩
      by_cases hig : i = g
      · subst hig
        rw [hG]
        exact blk_put (blk_put (blk_put (blk_put HL.cell 2 u rfl) 3 (.bool b3) rfl) 4 (.bool b4) rfl) 5 (.bool b5) rfl
      · exact hk.2 i hi (fun h => h.elim hn hig)
  · cases h
end Go.Proofs.Ytjmclghjhnbafaa.Print
