/- A text that a program of this claim (wip/x) laid out of the translation: what Go functions come to, and that they come to it. Lean checks it. -/
import Derived.Test.YtppfoopecdmblaaDoorPrint0
import Derived.ArgAppend
import Derived.Test.YtppfoopecdmblaaDoorPrintAccmList
import Derived.Test.YtppfoopecdmblaaDoorPrintBitsTrailingZeros32
import Derived.Test.YtppfoopecdmblaaDoorPrintMarlinelaw04Speaks
import Derived.Test.YtppfoopecdmblaaDoorPrintMarlineref01Equal
import Derived.Test.YtppfoopecdmblaaDoorPrintStuffUnstuff
namespace Go.Proofs.YtppfoopecdmblaaDoor.Print
open Go.RowKit Go.Proofs.YtppfoopecdmblaaDoorW.PrintWords Go.Proofs.YtppfoopecdmblaaDoorW.PrintLast Go.Proofs.YtppfoopecdmblaaDoorW.PrintMore
attribute [local go_sem] max2_int min2_int max_two min_two max_three min_three max_four min_four   -- for this text's walks alone
set_option linter.unusedVariables false
set_option linter.unusedSimpArgs false

/-! ### words of this claim's own: a cut with a capacity, and an append onto what is full -/
theorem cut_to_max {P : Program} (t e : TypeId) (kh km : IntKind) {i : TypeInfo} (ht : P.underlying t = some (.slice e)) (hi : P.info? e = some i) (A : Option Addr) (n c : Nat) (j : Int) (h0 : 0 ≤ j) (hm : j ≤ n) (hc : n ≤ c) :
    ∀ W : World, (Instr.slice t (.slice A n c) none (some (.int kh j)) (some (.int km j))).run P W = .ok (.slice A j.toNat j.toNat) W := by
  intro W
  have hel : P.elem t = e := by simp [Program.elem, ht]
  have hu : P.underlying t = some (.slice (P.elem t)) := by rw [hel]; exact ht
  have ha : (A.map fun x => x.add 0) = A := by cases A <;> simp [Addr.add]
  rw [run_slice_hm W t A n c hu kh km j j h0 (by omega) (by omega), hel]
  simp [sizeOf, typeInfo, hi, sliced, Result.andThen, ha]
section
variable {P : Program} {ops : Array Oper} {o : Oper} {a : Act} {Q : Exit → Act → World → Prop} {Kc : Act → World → Prop}
theorem R_append_full_step (k : IntKind) {w0 W : World} (base : Nat) (hw : Region.wanted o (yielded ops a.tmps) = true) (s x : Operand) (t e : TypeId) (z : Value) (bytes : Nat)
    (ho : o.op = .call { callee := .builtin .append, args := #[s, x], argTypes := #[t, t] })
    (ht : P.underlying t = some (.slice e)) (hinfo : (P.info? e).map (fun i => (i.zero, i.size, i.bytes)) = some (some z, 1, bytes)) (hz : z.cells.size = 1) (hb0 : 0 < bytes)
    (xs ys : List Int) (A A2 : Option Addr) (m c : Nat) (hs : a.eval s = .slice A xs.length xs.length) (hx : a.eval x = .slice A2 m c)
    (HS : Kd.C (Kd.int k) W A xs.length xs) (HR : Kd.C (Kd.int k) W A2 m ys) (hm0 : 0 < m) (ok : Nat → Prop) (hfresh : ∀ k, W.heap.size ≤ k → ok k)
    (HB : Below base w0 W) (hbase : base ≤ W.heap.size) (hl : (xs.length + m) * bytes ≤ 140737488355328)
    (h : ∀ v1 w1, Kd.R (Kd.int k) e w1 base ok v1 (xs ++ ys) → Below base w0 w1 → W.grownBy w1 none → (∃ b, v1.ownBlock = some b ∧ W.heap.size ≤ b) → Kc (a.put o.dst v1) w1) :
    if Region.wanted o (yielded ops a.tmps) = true then Oper.wp P o a W Kc Q else Kc (a.put o.dst undef) W := by
  obtain ⟨i0, hi, hzz⟩ := Option.map_eq_some_iff.1 hinfo
  simp only [Prod.mk.injEq] at hzz
  obtain ⟨hz0, hz1, hz2⟩ := hzz
  have hm : ys.length = m := HR.1
  have hlen : xs.length + m ≤ 140737488355328 := Nat.le_trans (Nat.le_mul_of_pos_right _ hb0) hl
  obtain ⟨ad, rfl, _⟩ := HR.2.2 hm0
  have one : ∀ {B : Addr} {n : Nat} {zs : List Int}, Kd.C (Kd.int k) W (some B) n zs → ∃ inner : List Value, Reps (fun (x : Int) cs => cs = [Value.int k x]) 1 zs inner ∧ (∀ j u, inner[j]? = some u → W.cell? (B.add j) = some u) ∧ ∀ u ∈ inner, u.oneCell' = true := by
    intro B n zs hC
    obtain ⟨inner, h1, h2⟩ := ReadsRow.inner_ hC
    refine ⟨inner, h1, h2, fun u hu => ?_⟩
    obtain ⟨q, hq, rfl⟩ := List.mem_iff_getElem.1 hu
    have hql : q < zs.length := by have h3 := h1.1; have e1 : (Kd.int k).sz = 1 := rfl; rw [e1] at h3; omega
    have h3 := h1.2 q _ (List.getElem?_eq_getElem hql)
    replace h3 : (inner.drop (q * 1)).take 1 = [Value.int k zs[q]] := h3
    rw [Nat.mul_one, List.drop_eq_getElem_cons hq] at h3
    simp only [List.take_succ_cons, List.take_zero, List.cons.injEq, and_true] at h3
    rw [h3]
    rfl
  obtain ⟨news, hnr, hnc, hone⟩ := one HR
  have hrun : ∃ v1 w1, (Builtin.append_ #[t, t] o.type #[.slice A xs.length xs.length, .slice (some ad) m c]).run P W = .ok v1 w1 ∧ Kd.R (Kd.int k) e w1 base ok v1 (xs ++ ys) ∧ W.grownBy w1 none ∧ (∃ b, v1.ownBlock = some b ∧ W.heap.size ≤ b) := by
    have fin : ∀ (v1 : Value) (w1 : World) (inner : List Value), w1.ownsRow W.heap.size e 1 v1 (xs.length + m) (inner ++ news) → Reps (fun (x : Int) cs => cs = [Value.int k x]) 1 xs inner →
        Kd.R (Kd.int k) e w1 base ok v1 (xs ++ ys) ∧ (∃ b, v1.ownBlock = some b ∧ W.heap.size ≤ b) := by
      intro v1 w1 inner hown hr
      refine ⟨⟨fun k_ hk_ => hfresh k_ (own_base hown k_ hk_), inner ++ news, by rw [List.length_append, hm]; exact own_weaken hown hbase, Kd.reps_append hr hnr⟩, ?_⟩
      rcases hown.2 with ⟨rfl, hn⟩ | ⟨g, cap, cur, rfl, hg, _⟩
      · omega
      · exact ⟨g, rfl, hg⟩
    cases A with
    | none =>
      have h0 : xs.length = 0 := by
        rcases Nat.eq_zero_or_pos xs.length with h0 | h0
        · exact h0
        · obtain ⟨ad, h, _⟩ := HS.2.2 h0
          cases h
      obtain rfl : xs = [] := List.eq_nil_of_length_eq_zero h0
      obtain ⟨v1, w1, hr, h2, hg, _⟩ := run_append_own (P := P) W W.heap.size t o.type e i0 z 1 bytes ht hi hz0 hz1 hz2 hz (by omega) (.slice none 0 0) 0 [] (World.ownsRow_nil W _ e 1) ad m c news (by rw [hnr.1, hm]) hnc hone (by simp only [maxLen]; omega) (by simpa using hl) (Nat.le_refl _)
      obtain ⟨f1, f2⟩ := fin v1 w1 [] (by simpa using h2) (Reps.none _ _)
      exact ⟨v1, w1, hr, f1, hg, f2⟩
    | some b =>
      obtain ⟨olds, hor, hoc, _⟩ := one HS
      obtain ⟨v1, w1, hr, h2, hg⟩ := run_append_arg_grows (P := P) W t o.type e i0 z 1 bytes ht hi hz0 hz1 hz2 hz (by omega) b xs.length xs.length olds hor.1 hoc ad m c news (by rw [hnr.1, hm]) hnc (by omega) (by simp only [maxLen]; omega) hl
      obtain ⟨f1, f2⟩ := fin v1 w1 olds h2 hor
      exact ⟨v1, w1, hr, f1, hg, f2⟩
  obtain ⟨v1, w1, hr1, h1, hg, hat⟩ := hrun
  rw [if_pos hw]
  unfold Oper.wp execOp
  simp only [ho, resolve, invoke, builtin, Sem.run_bind, Sem.run_pure, Result.andThen_ok, List.map_toArray, List.map_cons, List.map_nil, hs, hx, hr1]
  exact h v1 w1 h1 (HB.grown hg hbase (fun k hk => by cases hk)) hg hat
end
/-! ### marlinelaw04_StuffNoise: function 3 -/
mutual
def marlinelaw04_StuffNoise.j0 : Nat → Int → List Int → List Int → Bool → Option (Bool)
  | 0, _, _, _, _ => none
  | k + 1, x0, x1, x2, x27 => if x27 = true then ((marlinelaw04_speaks.f k).bind fun t136 => (some t136)) else ((accm_List.f k x0).bind fun t137 => (if (t137.length : Int) = 0 then (some (x0 == 0)) else ((some (([] : List Int) : List Int)).bind fun y140 => (if y140.length + x1.length < 140737488355328 then (marlinelaw04_StuffNoise.l0 k x0 x1 t137 (y140 ++ x1) x2 (x2.length : Int) 0) else (none)))))
def marlinelaw04_StuffNoise.l0 : Nat → Int → List Int → List Int → List Int → List Int → Int → Int → Option (Bool)
  | 0, _, _, _, _, _, _, _ => none
  | k + 1, x0, x1, x7, x8, x39, x40, x41 => if x41 < x40 then (if 0 ≤ x41 then (if x41 < (x39.length : Int) then (if (wrap64 ((x8.length : Int) + 1)) = 0 then (none) else (if 0 ≤ (Int.tmod (wrap64 (rd x39 x41)) (wrap64 ((x8.length : Int) + 1))) then (if (Int.tmod (wrap64 (rd x39 x41)) (wrap64 ((x8.length : Int) + 1))) ≤ (x8.length : Int) then ((some (x8.take ((Int.tmod (wrap64 (rd x39 x41)) (wrap64 ((x8.length : Int) + 1))) : Int).toNat : List Int)).bind fun y147 => (if (x7.length : Int) = 0 then (none) else (if 0 ≤ (Int.tmod x41 (x7.length : Int)) then (if (Int.tmod x41 (x7.length : Int)) < (x7.length : Int) then ((some (([rd x7 (Int.tmod x41 (x7.length : Int))] : List Int) : List Int)).bind fun y152 => ((some (x8.drop ((Int.tmod (wrap64 (rd x39 x41)) (wrap64 ((x8.length : Int) + 1))) : Int).toNat : List Int)).bind fun y155 => (if y152.length + y155.length < 140737488355328 then ((some (y152 ++ y155 : List Int)).bind fun y159 => (if y159.length + y147.length < 140737488355328 then (marlinelaw04_StuffNoise.l0 k x0 x1 x7 (y147 ++ y159) x39 x40 (wrap64 (x41 + 1))) else (none))) else (none)))) else (none)) else (none)))) else (none)) else (none))) else (none)) else (none)) else ((stuff_Unstuff.f k x0 x1).bind fun bt165 => ((stuff_Unstuff.f k x0 x8).bind fun bt169 => (if bt165.2 = bt169.2 then ((marlineref01_Equal.f k bt165.1 bt169.1).bind fun t173 => (some t173)) else (none))))
end
def marlinelaw04_StuffNoise.f (k : Nat) (a0 : Int) (l1 : List Int) (l2 : List Int) : Option (Bool) := (marlinelaw04_speaks.f k).bind fun t135 => (if t135 = true then (if (l1.length : Int) > 400 then (marlinelaw04_StuffNoise.j0 k a0 l1 l2 true) else (marlinelaw04_StuffNoise.j0 k a0 l1 l2 (decide ((l2.length : Int) > 40)))) else (marlinelaw04_StuffNoise.j0 k a0 l1 l2 true))
theorem marlinelaw04_StuffNoise.mono_l : ∀ k, (∀ y0 y1 y2 y3, LeO (marlinelaw04_StuffNoise.j0 k y0 y1 y2 y3) (marlinelaw04_StuffNoise.j0 (k + 1) y0 y1 y2 y3)) ∧ (∀ y0 y1 y2 y3 y4 y5 y6, LeO (marlinelaw04_StuffNoise.l0 k y0 y1 y2 y3 y4 y5 y6) (marlinelaw04_StuffNoise.l0 (k + 1) y0 y1 y2 y3 y4 y5 y6))
  | 0 => ⟨fun _ _ _ _ r h => by simp [marlinelaw04_StuffNoise.j0] at h, fun _ _ _ _ _ _ _ r h => by simp [marlinelaw04_StuffNoise.l0] at h⟩
  | k + 1 => by
    obtain ⟨ih0, ih1⟩ := marlinelaw04_StuffNoise.mono_l k
    refine ⟨?_, ?_⟩
    · intro y0 y1 y2 y3
      unfold marlinelaw04_StuffNoise.j0
      repeat' first
      | (with_reducible exact ih0 _ _ _ _)
      | (with_reducible exact ih1 _ _ _ _ _ _ _)
      | (with_reducible exact accm_List.mono _ _)
      | (with_reducible exact marlinelaw04_speaks.mono _)
      | (with_reducible exact marlineref01_Equal.mono _ _ _)
      | (with_reducible exact stuff_Unstuff.mono _ _ _)
      | (with_reducible exact LeO.refl _)
      | (with_reducible exact LeO.none _)
      | (with_reducible refine LeO.ite ?_ ?_)
      | (with_reducible refine LeO.bind ?_ (fun _ => ?_))
      | exact ih0 _ _ _ _
      | exact ih1 _ _ _ _ _ _ _
      | exact accm_List.mono _ _
      | exact marlinelaw04_speaks.mono _
      | exact marlineref01_Equal.mono _ _ _
      | exact stuff_Unstuff.mono _ _ _
      | exact LeO.none _
      | refine LeO.ite ?_ ?_
      | refine LeO.bind ?_ (fun _ => ?_)
    · intro y0 y1 y2 y3 y4 y5 y6
      unfold marlinelaw04_StuffNoise.l0
      repeat' first
      | (with_reducible exact ih0 _ _ _ _)
      | (with_reducible exact ih1 _ _ _ _ _ _ _)
      | (with_reducible exact accm_List.mono _ _)
      | (with_reducible exact marlinelaw04_speaks.mono _)
      | (with_reducible exact marlineref01_Equal.mono _ _ _)
      | (with_reducible exact stuff_Unstuff.mono _ _ _)
      | (with_reducible exact LeO.refl _)
      | (with_reducible exact LeO.none _)
      | (with_reducible refine LeO.ite ?_ ?_)
      | (with_reducible refine LeO.bind ?_ (fun _ => ?_))
      | exact ih0 _ _ _ _
      | exact ih1 _ _ _ _ _ _ _
      | exact accm_List.mono _ _
      | exact marlinelaw04_speaks.mono _
      | exact marlineref01_Equal.mono _ _ _
      | exact stuff_Unstuff.mono _ _ _
      | exact LeO.none _
      | refine LeO.ite ?_ ?_
      | refine LeO.bind ?_ (fun _ => ?_)
theorem marlinelaw04_StuffNoise.mono : ∀ a0 a1 a2 k, LeO (marlinelaw04_StuffNoise.f k a0 a1 a2) (marlinelaw04_StuffNoise.f (k + 1) a0 a1 a2) := by
  intro a0 a1 a2 k
  obtain ⟨ih0, ih1⟩ := marlinelaw04_StuffNoise.mono_l k
  unfold marlinelaw04_StuffNoise.f
  repeat' first
      | (with_reducible exact ih0 _ _ _ _)
      | (with_reducible exact ih1 _ _ _ _ _ _ _)
      | (with_reducible exact accm_List.mono _ _)
      | (with_reducible exact marlinelaw04_speaks.mono _)
      | (with_reducible exact marlineref01_Equal.mono _ _ _)
      | (with_reducible exact stuff_Unstuff.mono _ _ _)
      | (with_reducible exact LeO.refl _)
      | (with_reducible exact LeO.none _)
      | (with_reducible refine LeO.ite ?_ ?_)
      | (with_reducible refine LeO.bind ?_ (fun _ => ?_))
      | exact ih0 _ _ _ _
      | exact ih1 _ _ _ _ _ _ _
      | exact accm_List.mono _ _
      | exact marlinelaw04_speaks.mono _
      | exact marlineref01_Equal.mono _ _ _
      | exact stuff_Unstuff.mono _ _ _
      | exact LeO.none _
      | refine LeO.ite ?_ ?_
      | refine LeO.bind ?_ (fun _ => ?_)
def marlinelaw04_StuffNoise.T11 : Bool × List (List Nat × List Nat) := (true, [([], []), ([], []), ([], []), ([0, 1, 2], [0, 1, 2]), ([], []), ([], []), ([], []), ([6], [6]), ([5, 7], [5, 7]), ([4, 8], [4, 8]), ([9], [9]), ([10], [10]), ([], []), ([], []), ([12, 13], [12, 13]), ([11, 14], [11, 14]), ([3, 15, 15], [3, 15]), ([16, 16, 0, 1, 2, 3, 4, 5, 6, 7, 8, 9, 10, 11, 12, 13, 14, 15, 16], [0, 12, 16])])
def marlinelaw04_StuffNoise.B11 : List Nat := [0, 0, 0, 7, 0, 0, 0, 64, 224, 496, 1008, 2032, 0, 0, 12288, 32752, 65535, 131071]
theorem marlinelaw04_StuffNoise.tab11 : rtab .any (opsOf Tryd.f3 11) = marlinelaw04_StuffNoise.T11 := by kernel_rfl
theorem marlinelaw04_StuffNoise.bits11 : waitsOk marlinelaw04_StuffNoise.T11.2 marlinelaw04_StuffNoise.B11 = true := by kernel_rfl
set_option maxHeartbeats 8000000 in
set_option maxRecDepth 100000 in
theorem marlinelaw04_StuffNoise.calls (k : Nat) (a0 : Int) (A1 : Option Addr) (c1 : Nat) (l1 : List Int) (A2 : Option Addr) (c2 : Nat) (l2 : List Int) (r : Bool) (w : World) (hr1 : Kd.C (Kd.int .u8) w A1 l1.length l1) (hc1 : l1.length ≤ c1) (hr2 : Kd.C (Kd.int .u16) w A2 l2.length l2) (hc2 : l2.length ≤ c2) (h : marlinelaw04_StuffNoise.f k a0 l1 l2 = some r) (hGL : GL w := by first | exact hGL | exact hGL.below HB.out | exact hGL.below (by repeat (first | (with_reducible first | exact HB.out | apply below_alloc | apply pw_below_drewN | apply below_drew1) | exact HB.out))) :
    Calls Tryd.prog 3 #[.int .u32 a0, .slice A1 l1.length c1, .slice A2 l2.length c2] w fun e w' => e = .returned (.bool r) ∧ Below w.heap.size w w' := by
  have HR1 := Aside0.mk hr1
  have HC1 := Aside0.mk hc1
  clear hr1 hc1
  have HR2 := Aside0.mk hr2
  have HC2 := Aside0.mk hc2
  clear hr2 hc2
  have HB := Aside0.mk (Below.refl w.heap.size w)
  have H : ((marlinelaw04_speaks.f k).bind fun t135 => (if t135 = true then (if (l1.length : Int) > 400 then (marlinelaw04_StuffNoise.j0 k a0 l1 l2 true) else (marlinelaw04_StuffNoise.j0 k a0 l1 l2 (decide ((l2.length : Int) > 40)))) else (marlinelaw04_StuffNoise.j0 k a0 l1 l2 true))) = some r := h
  clear h
  have HC4 := Aside0.mk H
  clear H
  go_enter Tryd.func3, Tryd.ntmps3
  go_upto_region 1 with (fail)
  go_cut [27] (fun v27 wc => ∃ (kq : Nat) (x27_3 : Bool), v27 = .bool x27_3 ∧ Aside0 (marlinelaw04_StuffNoise.j0 kq a0 l1 l2 x27_3 = some r) ∧ Aside0 (kq ≤ k) ∧ Aside0 (Below w.heap.size w wc))
  case first =>
    have H := HC4.out
    clear HC4
    replace H := Option.bind_eq_some_iff.mp H
    obtain ⟨t135, A50, H⟩ := H
    replace H : (if t135 = true then (if (l1.length : Int) > 400 then (marlinelaw04_StuffNoise.j0 k a0 l1 l2 true) else (marlinelaw04_StuffNoise.j0 k a0 l1 l2 (decide ((l2.length : Int) > 40)))) else (marlinelaw04_StuffNoise.j0 k a0 l1 l2 true)) = some r := H
    have A5 := Aside0.mk A50
    clear A50
    by_cases c6 : t135 = true
    · subst c6
      have H1 : (if (l1.length : Int) > 400 then (marlinelaw04_StuffNoise.j0 k a0 l1 l2 true) else (marlinelaw04_StuffNoise.j0 k a0 l1 l2 (decide ((l2.length : Int) > 40)))) = some r := by rw [if_pos rfl] at H; exact H
      clear H
      have H := H1
      clear H1
      by_cases c7 : (l1.length : Int) > 400
      · rw [if_pos c7] at H
        have c7b0 : decide (400 < (l1.length : Int)) = true := decide_eq_true c7
        have c7b1 : decide (400 < l1.length) = true := decide_eq_true (by omega)
        clear c7
        (first | rw [c7b0] | (simp only [i64_w, i32_w]; rw [c7b0]) | skip)
        have H' := Aside0.mk H
        clear H
        go_wp2_with (first | ((with_reducible refine gate_callee (f := 4) rfl ?_); refine goesL_ (some 16) rfl rfl Tryd.func4 (by kernel_rfl) rfl #[] rfl (by (try simp only [List.map_toArray, List.map_cons, List.map_nil]); first | done | rfl | (simp only [List.length_drop, List.length_take]; rfl)) ?_; (with_reducible refine (marlinelaw04_speaks.calls k  true _ A5.out).mono ?_); rintro e w8 ⟨rfl, hb⟩; refine ⟨_, rfl, ?_⟩; have n0_ := Aside0.mk (below_step (by repeat (first | (with_reducible first | exact HB.out | apply below_alloc | apply pw_below_drewN | apply below_drew1) | exact HB.out)) hb); clear HB; have HB := n0_; clear n0_; (try clear hb); (try clear hb2); (try clear hk); (try clear hi)))
        go_meet
        case rel => exact ⟨_, (true), (by first | rfl | (simp; done) | (simp [*]; done)), H', ⟨by first | omega | exact Nat.le_refl _⟩, ⟨by repeat (first | (with_reducible first | exact HB.out | apply below_alloc | apply pw_below_drewN | apply below_drew1) | exact HB.out)⟩⟩
      · rw [if_neg c7] at H
        have c7b0 : decide (400 < (l1.length : Int)) = false := decide_eq_false c7
        have c7b1 : decide (400 < l1.length) = false := decide_eq_false (by omega)
        clear c7
        (first | rw [c7b0] | (simp only [i64_w, i32_w]; rw [c7b0]) | skip)
        have H' := Aside0.mk H
        clear H
        go_wp2_with (first | ((with_reducible refine gate_callee (f := 4) rfl ?_); refine goesL_ (some 16) rfl rfl Tryd.func4 (by kernel_rfl) rfl #[] rfl (by (try simp only [List.map_toArray, List.map_cons, List.map_nil]); first | done | rfl | (simp only [List.length_drop, List.length_take]; rfl)) ?_; (with_reducible refine (marlinelaw04_speaks.calls k  true _ A5.out).mono ?_); rintro e w9 ⟨rfl, hb⟩; refine ⟨_, rfl, ?_⟩; have n0_ := Aside0.mk (below_step (by repeat (first | (with_reducible first | exact HB.out | apply below_alloc | apply pw_below_drewN | apply below_drew1) | exact HB.out)) hb); clear HB; have HB := n0_; clear n0_; (try clear hb); (try clear hb2); (try clear hk); (try clear hi)))
        go_meet
        case rel => exact ⟨_, (decide ((l2.length : Int) > 40)), (by first | rfl | (simp; done) | (simp [*]; done)), H', ⟨by first | omega | exact Nat.le_refl _⟩, ⟨by repeat (first | (with_reducible first | exact HB.out | apply below_alloc | apply pw_below_drewN | apply below_drew1) | exact HB.out)⟩⟩
    · replace c6 := Bool.eq_false_iff.mpr c6
      subst c6
      have H1 : (marlinelaw04_StuffNoise.j0 k a0 l1 l2 true) = some r := by rw [if_neg (show ¬ (false = true) by decide)] at H; exact H
      clear H
      have H := H1
      clear H1
      have H' := Aside0.mk H
      clear H
      go_wp2_with (first | ((with_reducible refine gate_callee (f := 4) rfl ?_); refine goesL_ (some 16) rfl rfl Tryd.func4 (by kernel_rfl) rfl #[] rfl (by (try simp only [List.map_toArray, List.map_cons, List.map_nil]); first | done | rfl | (simp only [List.length_drop, List.length_take]; rfl)) ?_; (with_reducible refine (marlinelaw04_speaks.calls k  false _ A5.out).mono ?_); rintro e w10 ⟨rfl, hb⟩; refine ⟨_, rfl, ?_⟩; have n0_ := Aside0.mk (below_step (by repeat (first | (with_reducible first | exact HB.out | apply below_alloc | apply pw_below_drewN | apply below_drew1) | exact HB.out)) hb); clear HB; have HB := n0_; clear n0_; (try clear hb); (try clear hb2); (try clear hk); (try clear hi)))
      go_meet
      case rel => exact ⟨_, (true), (by first | rfl | (simp; done) | (simp [*]; done)), H', ⟨by first | omega | exact Nat.le_refl _⟩, ⟨by repeat (first | (with_reducible first | exact HB.out | apply below_alloc | apply pw_below_drewN | apply below_drew1) | exact HB.out)⟩⟩
  case rest =>
    clear HC4
    try clear c1
    try clear c2
    try clear p2
    try clear c3
    try clear c4
    try clear c6
    try clear c7
    try clear c7b0
    try clear c7b1
    obtain ⟨kq, x27_3, rfl, HA, HJ3, HB⟩ := hcut
    cases kq with
    | zero => exact absurd HA.out (by simp [marlinelaw04_StuffNoise.j0])
    | succ kj3 =>
      have H := HA.out
      clear HA
      simp only [marlinelaw04_StuffNoise.j0] at H
      by_cases c11 : x27_3 = true
      · subst c11
        have H1 : ((marlinelaw04_speaks.f kj3).bind fun t136 => (some t136)) = some r := by rw [if_pos rfl] at H; exact H
        clear H
        have H := H1
        clear H1
        replace H := Option.bind_eq_some_iff.mp H
        obtain ⟨t136, A120, H⟩ := H
        replace H : (some t136) = some r := H
        have A12 := Aside0.mk A120
        clear A120
        obtain rfl := Option.some.inj H
        go_wp2_with (first | ((with_reducible refine gate_callee (f := 4) rfl ?_); refine goesL_ (some 28) rfl rfl Tryd.func4 (by kernel_rfl) rfl #[] rfl (by (try simp only [List.map_toArray, List.map_cons, List.map_nil]); first | done | rfl | (simp only [List.length_drop, List.length_take]; rfl)) ?_; (with_reducible refine (marlinelaw04_speaks.calls kj3  t136 _ A12.out).mono ?_); rintro e w13 ⟨rfl, hb⟩; refine ⟨_, rfl, ?_⟩; have n0_ := Aside0.mk (below_step (by repeat (first | (with_reducible first | exact HB.out | apply below_alloc | apply pw_below_drewN | apply below_drew1) | exact HB.out)) hb); clear HB; have HB := n0_; clear n0_; (try clear hb); (try clear hb2); (try clear hk); (try clear hi)))
        go_ret
        exact ⟨by first | rfl | (simp [errW_none, errW_some] <;> rfl) | (simp [*, errW_none, errW_some] <;> rfl), by repeat (first | (with_reducible first | exact HB.out | apply below_alloc | apply pw_below_drewN | apply below_drew1) | exact HB.out)⟩
      · replace c11 := Bool.eq_false_iff.mpr c11
        subst c11
        have H1 : ((accm_List.f kj3 a0).bind fun t137 => (if (t137.length : Int) = 0 then (some (a0 == 0)) else ((some (([] : List Int) : List Int)).bind fun y140 => (if y140.length + l1.length < 140737488355328 then (marlinelaw04_StuffNoise.l0 kj3 a0 l1 t137 (y140 ++ l1) l2 (l2.length : Int) 0) else (none))))) = some r := by rw [if_neg (show ¬ (false = true) by decide)] at H; exact H
        clear H
        have H := H1
        clear H1
        replace H := Option.bind_eq_some_iff.mp H
        obtain ⟨t137, A140, H⟩ := H
        replace H : (if (t137.length : Int) = 0 then (some (a0 == 0)) else ((some (([] : List Int) : List Int)).bind fun y140 => (if y140.length + l1.length < 140737488355328 then (marlinelaw04_StuffNoise.l0 kj3 a0 l1 t137 (y140 ++ l1) l2 (l2.length : Int) 0) else (none)))) = some r := H
        have A14 := Aside0.mk A140
        clear A140
        by_cases c15 : (t137.length : Int) = 0
        · rw [if_pos c15] at H
          have c15b0 : ((t137.length : Int) == 0) = true := beq_iff_eq.mpr c15
          have c15b1 : ((t137.length : Int) != 0) = false := bne_eq_false_iff_eq.mpr c15
          clear c15
          obtain rfl := Option.some.inj H
          go_wp2_with (first | ((with_reducible refine gate_callee (f := 5) rfl ?_); refine goesL_ (some 30) rfl rfl Tryd.func5 (by kernel_rfl) rfl #[.int .u32 a0] rfl (by (try simp only [List.map_toArray, List.map_cons, List.map_nil]); first | done | rfl | (simp only [List.length_drop, List.length_take]; rfl)) ?_; (with_reducible refine (accm_List.calls kj3 a0 t137 _ A14.out).mono ?_); rintro e w16 ⟨v138, rfl, ho0, hb⟩; refine ⟨_, rfl, ?_⟩; have n0_ := Aside0.mk (Kd.R_lower ho0 (below_size (by repeat (first | (with_reducible first | exact HB.out | apply below_alloc | apply pw_below_drewN | apply below_drew1) | exact HB.out)))); have n1_ := Aside0.mk (below_step (by repeat (first | (with_reducible first | exact HB.out | apply below_alloc | apply pw_below_drewN | apply below_drew1) | exact HB.out)) hb); clear HB; have HO139 := n0_; have HB := n1_; clear n0_ n1_; (try clear hb); (try clear hb2); (try clear hk); (try clear hi); (try clear ho0); obtain ⟨Ao17, co17, eo17⟩ := Kd.R_slice HO139.out; subst eo17))
          go_ret
          exact ⟨by first | rfl | (simp [errW_none, errW_some] <;> rfl) | (simp [*, errW_none, errW_some] <;> rfl), by repeat (first | (with_reducible first | exact HB.out | apply below_alloc | apply pw_below_drewN | apply below_drew1) | exact HB.out)⟩
        · rw [if_neg c15] at H
          have c15b0 : ((t137.length : Int) == 0) = false := beq_eq_false_iff_ne.mpr c15
          have c15b1 : ((t137.length : Int) != 0) = true := bne_iff_ne.mpr c15
          have c15b2 : ¬ (t137 = []) := fun h_ => c15 (by rw [h_]; rfl)
          obtain ⟨y140, hy140⟩ : ∃ y_ : List Int, y_ = (([] : List Int)) := ⟨_, rfl⟩
          replace H : (if y140.length + l1.length < 140737488355328 then (marlinelaw04_StuffNoise.l0 kj3 a0 l1 t137 (y140 ++ l1) l2 (l2.length : Int) 0) else (none)) = some r := by first | (rw [hy140]; with_reducible exact H) | (have H2_ := (Option.bind_some _ _).symm.trans H; rw [hy140]; with_reducible exact H2_) | (have H2_ := (Option.bind_some _ _).symm.trans H; with_reducible exact H2_) | with_reducible exact H | (rw [hy140]; exact H) | exact H
          have Ny140 := Aside0.mk hy140
          clear hy140
          by_cases c18 : y140.length + l1.length < 140737488355328
          · rw [if_pos c18] at H
            have LMc18 := Aside0.mk c18
            clear c18
            obtain ⟨y143, hy143⟩ : ∃ y_ : List Int, y_ = (y140 ++ l1) := ⟨_, rfl⟩
            replace H : (marlinelaw04_StuffNoise.l0 kj3 a0 l1 t137 y143 l2 (l2.length : Int) 0) = some r := by first | (rw [hy143]; with_reducible exact H) | (have H2_ := (Option.bind_some _ _).symm.trans H; rw [hy143]; with_reducible exact H2_) | (have H2_ := (Option.bind_some _ _).symm.trans H; with_reducible exact H2_) | with_reducible exact H | (rw [hy143]; exact H) | exact H
            have Ny143 := Aside0.mk hy143
            clear hy143
            have H' := Aside0.mk H
            clear H
            go_wp2_with (first | ((with_reducible refine gate_callee (f := 5) rfl ?_); refine goesL_ (some 30) rfl rfl Tryd.func5 (by kernel_rfl) rfl #[.int .u32 a0] rfl (by (try simp only [List.map_toArray, List.map_cons, List.map_nil]); first | done | rfl | (simp only [List.length_drop, List.length_take]; rfl)) ?_; (with_reducible refine (accm_List.calls kj3 a0 t137 _ A14.out).mono ?_); rintro e w19 ⟨v138, rfl, ho0, hb⟩; refine ⟨_, rfl, ?_⟩; have n0_ := Aside0.mk (Kd.R_lower ho0 (below_size (by repeat (first | (with_reducible first | exact HB.out | apply below_alloc | apply pw_below_drewN | apply below_drew1) | exact HB.out)))); have n1_ := Aside0.mk (below_step (by repeat (first | (with_reducible first | exact HB.out | apply below_alloc | apply pw_below_drewN | apply below_drew1) | exact HB.out)) hb); clear HB; have HO139 := n0_; have HB := n1_; clear n0_ n1_; (try clear hb); (try clear hb2); (try clear hk); (try clear hi); (try clear ho0); obtain ⟨Ao20, co20, eo20⟩ := Kd.R_slice HO139.out; subst eo20) | ((with_reducible refine gate_dst (N := 36) rfl ?_); (try (refine gate_guard (by rfl) ?_; dsimp only)); refine Kd.R_lit (Kd.int .u8) _ 5 ?hg (N := 36) ?hd (xs := ([] : List Int)) (inner := []) (ok := fun _ => True) (okp := fun _ => True) ?hr ?hp (fun _ hk => hk) trivial (Below.refl _ _) (Nat.le_refl _) (by simp) ?_; (case hd => rfl); (case hg => rfl); (case hr => first | (go_simp; done) | (go_simp; simp only [IntKind.wrap_u8, IntKind.wrap_u16, IntKind.wrap_u32, IntKind.wrap_u64]; done) | (go_simp; simp only [IntKind.wrap_u8, IntKind.wrap_u16, IntKind.wrap_u32, IntKind.wrap_u64, Int.tmod_eq_emod_of_nonneg (Int.natCast_nonneg _), Int.emod_emod]; done) | (go_simp; rfl)); (case hp => exact (Reps.none _ _)); intro v141 w21 ho22 hb hg_ hnew_; clear hg_ hnew_; (first | rw [← Ny140.out] at ho22 | (simp only [Int.reduceToNat] at ho22; rw [← Ny140.out] at ho22)); have n0_ := Aside0.mk (Kd.R_elder' (by (with_reducible repeat (first | apply Kd.R_alloc | apply Kd.R_drewN | apply Kd.R_drew)); exact HO139.out) (Kd.R_base ho22) hb); have n1_ := Aside0.mk (Kd.R_lower (Kd.R_new' ho22 (Kd.R_lt (by (with_reducible repeat (first | apply Kd.R_alloc | apply Kd.R_drewN | apply Kd.R_drew)); exact HO139.out))) (below_size (by repeat (first | (with_reducible first | exact HB.out | apply below_alloc | apply pw_below_drewN | apply below_drew1) | exact HB.out)))); have n2_ := Aside0.mk (below_step (by repeat (first | (with_reducible first | exact HB.out | apply below_alloc | apply pw_below_drewN | apply below_drew1) | exact HB.out)) hb); clear HO139; clear HB; have HO139 := n0_; have HO142 := n1_; have HB := n2_; clear n0_ n1_ n2_; clear hb ho22) | ((with_reducible refine gate_builtin (b := .append) (xs := #[.tmp 36, .tmp 37]) rfl ?_); (try (refine gate_guard (by rfl) ?_; dsimp only)); at_builtin; refine Kd.R_append_rows (Kd.int .u8) (w0 := w) w.heap.size rfl (.tmp 36) (.tmp 37) 23 5 (.int .u8 0) 1 rfl Tryd.underlying23 info5 rfl (by decide) (by omega) v141 y140 l1 _ _ _ (fun k_ => some k_ ≠ (.slice Ao20 t137.length co20 : Value).ownBlock) (fun _ => False) rfl rfl ?aO ?aR (fun _ _ h => h) (fun _ h => h.elim) ?aF ?aB ?aS ?aL ?_; (case aR => repeat (first | exact (Kd.C_below HR1.out HB.out) | (with_reducible refine Kd.C_alloc ?_ _) | (with_reducible refine Kd.C_drewN ?_ _) | (with_reducible refine Kd.C_drew ?_))); (case aB => exact (by repeat (first | (with_reducible first | exact HB.out | apply below_alloc | apply pw_below_drewN | apply below_drew1) | exact HB.out))); (case aF => exact (fun k_ hk => Kd.fresh' (Kd.R_lt (by (with_reducible repeat (first | apply Kd.R_alloc | apply Kd.R_drewN | apply Kd.R_drew)); exact HO139.out)) k_ hk)); (case aO => exact (by (with_reducible repeat (first | apply Kd.R_alloc | apply Kd.R_drewN | apply Kd.R_drew)); exact Kd.R_mono HO142.out (fun _ hk => hk.2))); (case aS => exact (below_size (by repeat (first | (with_reducible first | exact HB.out | apply below_alloc | apply pw_below_drewN | apply below_drew1) | exact HB.out)))); (case aL => have := LMc18.out; omega); intro v144 w23 ho hb hg hat; rw [← Ny143.out] at ho; have n0_ := Aside0.mk (Kd.R_after (ok := (fun _ => True)) (by (with_reducible repeat (first | apply Kd.R_alloc | apply Kd.R_drewN | apply Kd.R_drew)); exact HO139.out) hg hat); have n1_ := Aside0.mk (hb); have n2_ := Aside0.mk (ho); clear HO139; clear HB; clear HO142; have HO139 := n0_; have HB := n1_; have HO145 := n2_; clear n0_ n1_ n2_; clear ho hb hg hat))
            go_loopg [8, 41] kj3 (fun kq v8 v41 w' => ∃ (x8_2 : List Int) (x41_2 : Int), v41 = .int .i64 x41_2 ∧ Aside0 (marlinelaw04_StuffNoise.l0 kq a0 l1 t137 x8_2 l2 (l2.length : Int) x41_2 = some r) ∧ Aside0 (kq ≤ kj3) ∧ Aside0 (Kd.R (Kd.int .u8) 5 w' w.heap.size (fun k_ => some k_ ≠ (v8 : Value).ownBlock) (.slice Ao20 t137.length co20) t137) ∧ Aside0 (Kd.R (Kd.int .u8) 5 w' w.heap.size (fun k_ => some k_ ≠ ((.slice Ao20 t137.length co20) : Value).ownBlock) v8 x8_2) ∧ Aside0 (Below w.heap.size w w'))
            case atStart => exact ⟨(y143), (0), (by first | rfl | (simp; done) | (simp [*]; done)), H', ⟨Nat.le_refl _⟩, ⟨by (with_reducible repeat (first | apply Kd.R_alloc | apply Kd.R_drewN | apply Kd.R_drew)); exact Kd.R_mono HO139.out (fun _ hk => hk.2)⟩, ⟨by (with_reducible repeat (first | apply Kd.R_alloc | apply Kd.R_drewN | apply Kd.R_drew)); exact HO145.out⟩, ⟨by repeat (first | (with_reducible first | exact HB.out | apply below_alloc | apply pw_below_drewN | apply below_drew1) | exact HB.out)⟩⟩
            case round =>
              clear H'
              try clear c1
              try clear c2
              try clear p2
              try clear c3
              try clear c4
              try clear c5
              try clear c6
              try clear c7
              try clear c7b0
              try clear c7b1
              try clear c11
              try clear c15
              try clear c15b0
              try clear c15b1
              try clear c15b2
              try clear c18
              try clear p2
              obtain ⟨x8_2, x41_2, rfl, HA, HK2, HO_7, HO_8, HB⟩ := hrel
              cases gk with
              | zero => exact absurd HA.out (by simp [marlinelaw04_StuffNoise.l0])
              | succ k2 =>
                have H := HA.out
                clear HA
                simp only [marlinelaw04_StuffNoise.l0] at H
                by_cases c24 : x41_2 < (l2.length : Int)
                · rw [if_pos c24] at H
                  have c24b0 : decide (x41_2 < (l2.length : Int)) = true := decide_eq_true c24
                  clear c24
                  by_cases c25 : 0 ≤ x41_2
                  · rw [if_pos c25] at H
                    have c25b0 : decide (0 ≤ x41_2) = true := decide_eq_true c25
                    clear c25
                    by_cases c26 : x41_2 < (l2.length : Int)
                    · rw [if_pos c26] at H
                      have c26b0 : decide (x41_2 < (l2.length : Int)) = true := decide_eq_true c26
                      clear c26
                      by_cases c27 : (wrap64 ((x8_2.length : Int) + 1)) = 0
                      · rw [if_pos c27] at H
                        exact absurd H (by simp)
                      · rw [if_neg c27] at H
                        have c27b0 : ((wrap64 ((x8_2.length : Int) + 1)) == 0) = false := beq_eq_false_iff_ne.mpr c27
                        have c27b1 : ((wrap64 ((x8_2.length : Int) + 1)) != 0) = true := bne_iff_ne.mpr c27
                        obtain ⟨ji28, hji28⟩ : ∃ j_ : Int, (Int.tmod (wrap64 (rd l2 x41_2)) (wrap64 ((x8_2.length : Int) + 1))) = j_ := ⟨_, rfl⟩
                        replace H : (if 0 ≤ (ji28) then (if (ji28) ≤ (x8_2.length : Int) then ((some (x8_2.take ((ji28) : Int).toNat : List Int)).bind fun y147 => (if (t137.length : Int) = 0 then (none) else (if 0 ≤ (Int.tmod x41_2 (t137.length : Int)) then (if (Int.tmod x41_2 (t137.length : Int)) < (t137.length : Int) then ((some (([rd t137 (Int.tmod x41_2 (t137.length : Int))] : List Int) : List Int)).bind fun y152 => ((some (x8_2.drop ((ji28) : Int).toNat : List Int)).bind fun y155 => (if y152.length + y155.length < 140737488355328 then ((some (y152 ++ y155 : List Int)).bind fun y159 => (if y159.length + y147.length < 140737488355328 then (marlinelaw04_StuffNoise.l0 k2 a0 l1 t137 (y147 ++ y159) l2 (l2.length : Int) (wrap64 (x41_2 + 1))) else (none))) else (none)))) else (none)) else (none)))) else (none)) else (none)) = some r := by first | (rw [hji28] at H; exact H) | (simp only [hji28] at H ⊢; exact H)
                        by_cases c29 : 0 ≤ (ji28)
                        · rw [if_pos c29] at H
                          have c29b0 := eq_true c29
                          have c29b1 : decide (0 ≤ (ji28)) = true := decide_eq_true c29
                          clear c29
                          by_cases c30 : (ji28) ≤ (x8_2.length : Int)
                          · rw [if_pos c30] at H
                            have c30b0 := eq_true c30
                            have c30b1 : decide ((ji28) ≤ (x8_2.length : Int)) = true := decide_eq_true c30
                            clear c30
                            obtain ⟨y147, hy147⟩ : ∃ y_ : List Int, y_ = (x8_2.take ((ji28) : Int).toNat) := ⟨_, rfl⟩
                            replace H : (if (t137.length : Int) = 0 then (none) else (if 0 ≤ (Int.tmod x41_2 (t137.length : Int)) then (if (Int.tmod x41_2 (t137.length : Int)) < (t137.length : Int) then ((some (([rd t137 (Int.tmod x41_2 (t137.length : Int))] : List Int) : List Int)).bind fun y152 => ((some (x8_2.drop ((ji28) : Int).toNat : List Int)).bind fun y155 => (if y152.length + y155.length < 140737488355328 then ((some (y152 ++ y155 : List Int)).bind fun y159 => (if y159.length + y147.length < 140737488355328 then (marlinelaw04_StuffNoise.l0 k2 a0 l1 t137 (y147 ++ y159) l2 (l2.length : Int) (wrap64 (x41_2 + 1))) else (none))) else (none)))) else (none)) else (none))) = some r := by first | (rw [hy147]; with_reducible exact H) | (have H2_ := (Option.bind_some _ _).symm.trans H; rw [hy147]; with_reducible exact H2_) | (have H2_ := (Option.bind_some _ _).symm.trans H; with_reducible exact H2_) | with_reducible exact H | (rw [hy147]; exact H) | exact H
                            have Ny147 := Aside0.mk hy147
                            clear hy147
                            by_cases c31 : (t137.length : Int) = 0
                            · rw [if_pos c31] at H
                              exact absurd H (by simp)
                            · rw [if_neg c31] at H
                              have c31b0 : ((t137.length : Int) == 0) = false := beq_eq_false_iff_ne.mpr c31
                              have c31b1 : ((t137.length : Int) != 0) = true := bne_iff_ne.mpr c31
                              have c31b2 : ¬ (t137 = []) := fun h_ => c31 (by rw [h_]; rfl)
                              obtain ⟨ji32, hji32⟩ : ∃ j_ : Int, (Int.tmod x41_2 (t137.length : Int)) = j_ := ⟨_, rfl⟩
                              replace H : (if 0 ≤ (ji32) then (if (ji32) < (t137.length : Int) then ((some (([rd t137 (ji32)] : List Int) : List Int)).bind fun y152 => ((some (x8_2.drop ((ji28) : Int).toNat : List Int)).bind fun y155 => (if y152.length + y155.length < 140737488355328 then ((some (y152 ++ y155 : List Int)).bind fun y159 => (if y159.length + y147.length < 140737488355328 then (marlinelaw04_StuffNoise.l0 k2 a0 l1 t137 (y147 ++ y159) l2 (l2.length : Int) (wrap64 (x41_2 + 1))) else (none))) else (none)))) else (none)) else (none)) = some r := by first | (rw [hji32] at H; exact H) | (simp only [hji32] at H ⊢; exact H)
                              by_cases c33 : 0 ≤ (ji32)
                              · rw [if_pos c33] at H
                                have c33b0 : decide (0 ≤ (ji32)) = true := decide_eq_true c33
                                clear c33
                                by_cases c34 : (ji32) < (t137.length : Int)
                                · rw [if_pos c34] at H
                                  have c34b0 : decide ((ji32) < (t137.length : Int)) = true := decide_eq_true c34
                                  clear c34
                                  obtain ⟨y152, hy152⟩ : ∃ y_ : List Int, y_ = (([rd t137 (ji32)] : List Int)) := ⟨_, rfl⟩
                                  replace H : ((some (x8_2.drop ((ji28) : Int).toNat : List Int)).bind fun y155 => (if y152.length + y155.length < 140737488355328 then ((some (y152 ++ y155 : List Int)).bind fun y159 => (if y159.length + y147.length < 140737488355328 then (marlinelaw04_StuffNoise.l0 k2 a0 l1 t137 (y147 ++ y159) l2 (l2.length : Int) (wrap64 (x41_2 + 1))) else (none))) else (none))) = some r := by first | (rw [hy152]; with_reducible exact H) | (have H2_ := (Option.bind_some _ _).symm.trans H; rw [hy152]; with_reducible exact H2_) | (have H2_ := (Option.bind_some _ _).symm.trans H; with_reducible exact H2_) | with_reducible exact H | (rw [hy152]; exact H) | exact H
                                  have Ny152 := Aside0.mk hy152
                                  clear hy152
                                  have c35b0 := eq_true (of_decide_eq_true (by first | (with_reducible assumption) | assumption) : 0 ≤ (ji28))
                                  have c36b0 := eq_true (of_decide_eq_true (by first | (with_reducible assumption) | assumption) : (ji28) ≤ (x8_2.length : Int))
                                  obtain ⟨y155, hy155⟩ : ∃ y_ : List Int, y_ = (x8_2.drop ((ji28) : Int).toNat) := ⟨_, rfl⟩
                                  replace H : (if y152.length + y155.length < 140737488355328 then ((some (y152 ++ y155 : List Int)).bind fun y159 => (if y159.length + y147.length < 140737488355328 then (marlinelaw04_StuffNoise.l0 k2 a0 l1 t137 (y147 ++ y159) l2 (l2.length : Int) (wrap64 (x41_2 + 1))) else (none))) else (none)) = some r := by first | (rw [hy155]; with_reducible exact H) | (have H2_ := (Option.bind_some _ _).symm.trans H; rw [hy155]; with_reducible exact H2_) | (have H2_ := (Option.bind_some _ _).symm.trans H; with_reducible exact H2_) | with_reducible exact H | (rw [hy155]; exact H) | exact H
                                  have Ny155 := Aside0.mk hy155
                                  clear hy155
                                  by_cases c37 : y152.length + y155.length < 140737488355328
                                  · rw [if_pos c37] at H
                                    have LMc37 := Aside0.mk c37
                                    clear c37
                                    obtain ⟨y159, hy159⟩ : ∃ y_ : List Int, y_ = (y152 ++ y155) := ⟨_, rfl⟩
                                    replace H : (if y159.length + y147.length < 140737488355328 then (marlinelaw04_StuffNoise.l0 k2 a0 l1 t137 (y147 ++ y159) l2 (l2.length : Int) (wrap64 (x41_2 + 1))) else (none)) = some r := by first | (rw [hy159]; with_reducible exact H) | (have H2_ := (Option.bind_some _ _).symm.trans H; rw [hy159]; with_reducible exact H2_) | (have H2_ := (Option.bind_some _ _).symm.trans H; with_reducible exact H2_) | with_reducible exact H | (rw [hy159]; exact H) | exact H
                                    have Ny159 := Aside0.mk hy159
                                    clear hy159
                                    by_cases c38 : y159.length + y147.length < 140737488355328
                                    · rw [if_pos c38] at H
                                      have LMc38 := Aside0.mk c38
                                      clear c38
                                      obtain ⟨y162, hy162⟩ : ∃ y_ : List Int, y_ = (y147 ++ y159) := ⟨_, rfl⟩
                                      replace H : (marlinelaw04_StuffNoise.l0 k2 a0 l1 t137 y162 l2 (l2.length : Int) (wrap64 (x41_2 + 1))) = some r := by first | (rw [hy162]; with_reducible exact H) | (have H2_ := (Option.bind_some _ _).symm.trans H; rw [hy162]; with_reducible exact H2_) | (have H2_ := (Option.bind_some _ _).symm.trans H; with_reducible exact H2_) | with_reducible exact H | (rw [hy162]; exact H) | exact H
                                      have Ny162 := Aside0.mk hy162
                                      clear hy162
                                      have H' := Aside0.mk H
                                      clear H
                                      have p146 : 0 ≤ (x41_2 : Int) := of_decide_eq_true (by first | (with_reducible assumption) | assumption)
                                      have q146 : x41_2 < (l2.length : Int) := of_decide_eq_true (by first | (with_reducible assumption) | assumption)
                                      obtain ⟨ad146, e146, hx146_0⟩ := Kd.at_int HR2.out x41_2 p146 q146
                                      cases e146
                                      replace hx146_0 := (HB.out.cell (World.block_lt_of_cell? w _ hx146_0)).trans hx146_0
                                      replace p146 := eq_true p146
                                      replace q146 := eq_true q146
                                      obtain ⟨Ao39, co39, eo39⟩ := Kd.R_slice HO_8.out
                                      subst eo39
                                      try go_wp2
                                      have n0_ := Aside0.mk (Kd.R_drew HO_7.out)
                                      have n1_ := Aside0.mk (Kd.R_drew HO_8.out)
                                      have n2_ := Aside0.mk (below_drew1 HB.out)
                                      clear HO_7
                                      clear HO_8
                                      clear HB
                                      have HO_7 := n0_
                                      have HO_8 := n1_
                                      have HB := n2_
                                      clear n0_ n1_ n2_
                                      have q41 : ((ji28) : Int) ≤ ((x8_2.length : Int) : Int) := of_decide_eq_true (by first | (with_reducible assumption) | assumption)
                                      obtain ⟨i041, hi041, _, hsz41, _⟩ := info_parts info5
                                      have hroom41 : x8_2.length ≤ co39 := (Kd.R_reads' HO_8.out).2.1
                                      have hC41 : Kd.C (Kd.int .u8) _ Ao39 x8_2.length x8_2 := (Kd.R_reads' HO_8.out).2.2
                                      have hcut41 := cut_to_max (P := Tryd.prog) 23 5 .i64 .i64 Tryd.underlying23 hi041 Ao39 x8_2.length co39 (ji28) (of_decide_eq_true (by first | (with_reducible assumption) | assumption)) q41 hroom41
                                      have hr41 := Kd.C_take (m := ((ji28) : Int).toNat) hC41 (by omega)
                                      have hy41 : y147.length = ((ji28) : Int).toNat := (by rw [Ny147.out, List.length_take]; omega)
                                      rw [← Ny147.out] at hr41
                                      rw [← hy41] at hcut41
                                      have HR150 := Aside0.mk hr41
                                      have HC150 := Aside0.mk (show y147.length ≤ co39 from by omega)
                                      clear hr41 hC41 hroom41 hi041 hsz41
                                      have KY41 := Aside0.mk hy41
                                      clear hy41
                                      have KL41 := Aside0.mk (show ((ji28) : Int).toNat ≤ x8_2.length from by omega)
                                      replace q41 := eq_true q41
                                      have p151 : 0 ≤ ((ji32) : Int) := of_decide_eq_true (by first | (with_reducible assumption) | assumption)
                                      have q151 : (ji32) < (t137.length : Int) := of_decide_eq_true (by first | (with_reducible assumption) | assumption)
                                      obtain ⟨ad151, e151, hx151_0⟩ := Kd.at_int (Kd.R_reads' HO_7.out).2.2 (ji32) p151 q151
                                      cases e151
                                      replace p151 := eq_true p151
                                      replace q151 := eq_true q151
                                      have q42 : ((ji28) : Int) ≤ ((x8_2.length : Int) : Int) := of_decide_eq_true (by first | (with_reducible assumption) | assumption)
                                      obtain ⟨i042, hi042, _, hsz42, _⟩ := info_parts info5
                                      have hroom42 : x8_2.length ≤ co39 := (Kd.R_reads' HO_8.out).2.1
                                      have hC42 : Kd.C (Kd.int .u8) _ Ao39 x8_2.length x8_2 := (Kd.R_reads' HO_8.out).2.2
                                      have q042 : (0 : Int) ≤ ((ji28) : Int) := of_decide_eq_true (by first | (with_reducible assumption) | assumption)
                                      have hcut42 := cut_from (P := Tryd.prog) 23 5 .i64 Tryd.underlying23 hi042 1 hsz42 Ao39 x8_2.length co39 (ji28) q042 q42
                                      have hr42 := Kd.C_drop (m := ((ji28) : Int).toNat) (c := co39) hC42 (by omega) hroom42
                                      obtain ⟨A42, hA42⟩ : ∃ A1_, A1_ = (if co39 = ((ji28) : Int).toNat then Ao39 else (Ao39 : Option Addr).map (·.add (((ji28) : Int).toNat * 1))) := ⟨_, rfl⟩
                                      obtain ⟨c42, hc42⟩ : ∃ c1_, c1_ = co39 - ((ji28) : Int).toNat := ⟨_, rfl⟩
                                      have hy42 : y155.length = x8_2.length - ((ji28) : Int).toNat := (by rw [Ny155.out, List.length_drop] <;> omega)
                                      rw [show (x8_2).drop ((ji28) : Int).toNat = y155 from Ny155.out.symm] at hr42
                                      replace hr42 : Kd.C (Kd.int .u8) _ A42 y155.length y155 := (by rw [hA42]; exact hr42)
                                      rw [← hy42, ← hA42, ← hc42] at hcut42
                                      have HR158 := Aside0.mk hr42
                                      have HC158 := Aside0.mk (show y155.length ≤ c42 from by rw [hy42, hc42]; exact Nat.sub_le_sub_right hroom42 _)
                                      clear hr42 hC42 hroom42 hi042 hsz42 hc42
                                      have KY42 := Aside0.mk hy42
                                      have KA42 := Aside0.mk hA42
                                      clear hy42 hA42
                                      have KL42 := Aside0.mk (show ((ji28) : Int).toNat ≤ x8_2.length from by omega)
                                      replace q42 := eq_true q42
                                      refine start_ (n := 18) (S := fun w' => w'.cell? (ad151.add ((ji32)).toNat) = some (.int .u8 (rd t137 (ji32)))) (ds := [15, 16]) #[false, false, false, false, false, false, false, false, false, false, false, false, false, false, false, false, false, false] (by kernel_rfl) rfl rfl (hx151_0) (fun hHeld => ?_); refine with_tabW marlinelaw04_StuffNoise.tab11 marlinelaw04_StuffNoise.bits11 (fun HT_ HW_ => ?_)
                                      generalize wr.drew = w40 at HO_7 HO_8 HB HR150 HR158 hx151_0 hHeld ⊢
                                      refine pure_ (i := 0) (N := some 52) (v := ?_) (a' := ?_) #[true, false, false, false, false, false, false, false, false, false, false, false, false, false, false, false, false, false] rfl rfl (any_of HT_.out (by kernel_rfl)) (fun _ _ _ h => h) (Or.inl ⟨by rfl, ?_⟩) ?_ ?_
                                      rotate_left
                                      · intro w'
                                        go_simp
                                        with_reducible rfl
                                      rotate_left
                                      · simp only [Act.put, List.setIfInBounds_toArray, List.set_cons_zero, List.set_cons_succ, i64_w, i32_w]
                                        rfl
                                      refine pure_ (i := 1) (N := some 53) (v := ?_) (a' := ?_) #[true, true, false, false, false, false, false, false, false, false, false, false, false, false, false, false, false, false] rfl rfl (any_of HT_.out (by kernel_rfl)) (fun _ _ _ h => h) (Or.inl ⟨by rfl, ?_⟩) ?_ ?_
                                      rotate_left
                                      · intro w'
                                        go_simp
                                        with_reducible rfl
                                      rotate_left
                                      · simp only [Act.put, List.setIfInBounds_toArray, List.set_cons_zero, List.set_cons_succ, i64_w, i32_w]
                                        rfl
                                      refine pure_ (i := 2) (N := some 54) (v := ?_) (a' := ?_) #[true, true, true, false, false, false, false, false, false, false, false, false, false, false, false, false, false, false] rfl rfl (any_of HT_.out (by kernel_rfl)) (fun _ _ _ h => h) (Or.inl ⟨by rfl, ?_⟩) ?_ ?_
                                      rotate_left
                                      · intro w'
                                        go_simp
                                        with_reducible rfl
                                      rotate_left
                                      · simp only [Act.put, List.setIfInBounds_toArray, List.set_cons_zero, List.set_cons_succ, i64_w, i32_w]
                                        rfl
                                      refine pure_ (i := 3) (N := some 55) (v := ?_) (a' := ?_) #[true, true, true, true, false, false, false, false, false, false, false, false, false, false, false, false, false, false] rfl rfl (any_of HT_.out (by kernel_rfl)) (fun _ _ _ h => h) (Or.inl ⟨by rfl, ?_⟩) ?_ ?_
                                      rotate_left
                                      · intro w'
                                        go_simp
                                        with_reducible rfl
                                      rotate_left
                                      · simp only [Act.put, List.setIfInBounds_toArray, List.set_cons_zero, List.set_cons_succ, i64_w, i32_w]
                                        rfl
                                      refine pure_ (i := 4) (N := some 56) (v := ?_) (a' := ?_) #[true, true, true, true, true, false, false, false, false, false, false, false, false, false, false, false, false, false] rfl rfl (any_of HT_.out (by kernel_rfl)) (fun _ _ _ h => h) (Or.inl ⟨by rfl, ?_⟩) ?_ ?_
                                      rotate_left
                                      · intro w'
                                        go_simp
                                        with_reducible rfl
                                      rotate_left
                                      · simp only [Act.put, List.setIfInBounds_toArray, List.set_cons_zero, List.set_cons_succ, i64_w, i32_w]
                                        rfl
                                      refine pure_ (i := 5) (N := some 57) (v := ?_) (a' := ?_) #[true, true, true, true, true, true, false, false, false, false, false, false, false, false, false, false, false, false] rfl rfl (any_of HT_.out (by kernel_rfl)) (fun _ _ _ h => h) (Or.inl ⟨by rfl, ?_⟩) ?_ ?_
                                      rotate_left
                                      · intro w'
                                        go_simp
                                        with_reducible rfl
                                      rotate_left
                                      · simp only [Act.put, List.setIfInBounds_toArray, List.set_cons_zero, List.set_cons_succ, i64_w, i32_w]
                                        rfl
                                      refine pure_ (i := 6) (N := some 58) (v := ?_) (a' := ?_) #[true, true, true, true, true, true, true, false, false, false, false, false, false, false, false, false, false, false] rfl rfl (any_of HT_.out (by kernel_rfl)) (fun _ _ _ h => h) (Or.inl ⟨by rfl, ?_⟩) ?_ ?_
                                      rotate_left
                                      · intro w'
                                        go_simp
                                        with_reducible rfl
                                      rotate_left
                                      · simp only [Act.put, List.setIfInBounds_toArray, List.set_cons_zero, List.set_cons_succ, i64_w, i32_w]
                                        rfl
                                      refine pure_ (i := 7) (N := some 59) (v := ?_) (a' := ?_) #[true, true, true, true, true, true, true, true, false, false, false, false, false, false, false, false, false, false] rfl rfl (any_of HT_.out (by kernel_rfl)) (fun _ _ _ h => h) (Or.inl ⟨by rfl, ?_⟩) ?_ ?_
                                      rotate_left
                                      · intro w'
                                        go_simp
                                        with_reducible rfl
                                      rotate_left
                                      · simp only [Act.put, List.setIfInBounds_toArray, List.set_cons_zero, List.set_cons_succ, i64_w, i32_w]
                                        rfl
                                      refine pure_ (i := 8) (N := some 60) (v := ?_) (a' := ?_) #[true, true, true, true, true, true, true, true, true, false, false, false, false, false, false, false, false, false] rfl rfl (any_of HT_.out (by kernel_rfl)) (fun _ _ _ h => h) (Or.inl ⟨by rfl, ?_⟩) ?_ ?_
                                      rotate_left
                                      · intro w'
                                        go_simp
                                        with_reducible rfl
                                      rotate_left
                                      · simp only [Act.put, List.setIfInBounds_toArray, List.set_cons_zero, List.set_cons_succ, i64_w, i32_w]
                                        rfl
                                      refine pure_ (i := 9) (N := some 61) (v := ?_) (a' := ?_) #[true, true, true, true, true, true, true, true, true, true, false, false, false, false, false, false, false, false] rfl rfl (any_of HT_.out (by kernel_rfl)) (fun _ _ _ h => h) (Or.inl ⟨by rfl, ?_⟩) ?_ ?_
                                      rotate_left
                                      · intro w'
                                        go_simp
                                        with_reducible rfl
                                      rotate_left
                                      · simp only [Act.put, List.setIfInBounds_toArray, List.set_cons_zero, List.set_cons_succ, i64_w, i32_w]
                                        rfl
                                      refine pure_ (i := 12) (N := some 64) (v := ?_) (a' := ?_) #[true, true, true, true, true, true, true, true, true, true, false, false, true, false, false, false, false, false] rfl rfl (any_of HT_.out (by kernel_rfl)) (fun _ _ _ h => h) (Or.inl ⟨by rfl, ?_⟩) ?_ ?_
                                      rotate_left
                                      · intro w'
                                        go_simp
                                        with_reducible rfl
                                      rotate_left
                                      · simp only [Act.put, List.setIfInBounds_toArray, List.set_cons_zero, List.set_cons_succ, i64_w, i32_w]
                                        rfl
                                      refine pure_ (i := 13) (N := some 65) (v := ?_) (a' := ?_) #[true, true, true, true, true, true, true, true, true, true, false, false, true, true, false, false, false, false] rfl rfl (any_of HT_.out (by kernel_rfl)) (fun _ _ _ h => h) (Or.inl ⟨by rfl, ?_⟩) ?_ ?_
                                      rotate_left
                                      · intro w'
                                        go_simp
                                        with_reducible rfl
                                      rotate_left
                                      · simp only [Act.put, List.setIfInBounds_toArray, List.set_cons_zero, List.set_cons_succ, i64_w, i32_w]
                                        rfl
                                      refine pure_ (i := 14) (N := some 66) (v := ?_) (a' := ?_) #[true, true, true, true, true, true, true, true, true, true, false, false, true, true, true, false, false, false] rfl rfl (any_of HT_.out (by kernel_rfl)) (fun _ _ _ h => h) (Or.inl ⟨by rfl, ?_⟩) ?_ ?_
                                      rotate_left
                                      · intro w'
                                        go_simp
                                        with_reducible rfl
                                      rotate_left
                                      · simp only [Act.put, List.setIfInBounds_toArray, List.set_cons_zero, List.set_cons_succ, i64_w, i32_w]
                                        rfl
                                      refine take_ (i := 10) (N := some 62) (v := ?_) (a' := ?_) #[true, true, true, true, true, true, true, true, true, true, true, false, true, true, true, false, false, false] rfl rfl (take_ofW HT_.out HW_.out (by kernel_rfl)) (fun _ _ _ h => h) (Or.inl ⟨by rfl, ?_⟩) hHeld ?_ ?_
                                      rotate_left
                                      · intro w' s0
                                        go_simp
                                        with_reducible rfl
                                      rotate_left
                                      · simp only [Act.put, List.setIfInBounds_toArray, List.set_cons_zero, List.set_cons_succ, i64_w, i32_w]
                                        rfl
                                      refine one_ (i := 11) (N := some 63) #[true, true, true, true, true, true, true, true, true, true, true, true, true, true, true, false, false, false] rfl rfl (one_of HT_.out (by kernel_rfl)) (by decide) (fun K hK => ?_)
                                      refine Kd.R_lit_step (Kd.int .u8) _ 5 ?hg (N := 63) ?hd (xs := ([rd t137 (ji32)] : List Int)) (inner := [.int .u8 (rd t137 (ji32))]) (ok := fun _ => True) (okp := fun _ => True) ?hr ?hp (fun _ hk => hk) trivial (Below.refl _ _) (Nat.le_refl _) (by simp) ?_; (case hd => rfl); (case hg => rfl); (case hr => first | (go_simp; done) | (go_simp; simp only [IntKind.wrap_u8, IntKind.wrap_u16, IntKind.wrap_u32, IntKind.wrap_u64]; done) | (go_simp; simp only [IntKind.wrap_u8, IntKind.wrap_u16, IntKind.wrap_u32, IntKind.wrap_u64, Int.tmod_eq_emod_of_nonneg (Int.natCast_nonneg _), Int.emod_emod]; done) | (go_simp; rfl)); (case hp => exact (Reps.one (show Kd.M (Kd.int .u8) _ _ _ (rd t137 (ji32)) [.int .u8 (rd t137 (ji32))] from rfl) (Reps.none _ _)))
                                      intro v153 w43 ho44 hb hg_ hnew_
                                      have HS0_ := (hb.cell (World.block_lt_of_cell? _ _ (hHeld))).trans (hHeld)
                                      clear hg_ hnew_
                                      (first | rw [← Ny152.out] at ho44 | (simp only [Int.reduceToNat] at ho44; rw [← Ny152.out] at ho44))
                                      have n0_ := Aside0.mk (Kd.R_elder' (by (with_reducible repeat (first | apply Kd.R_alloc | apply Kd.R_drewN | apply Kd.R_drew)); exact HO_7.out) (Kd.R_base ho44) hb)
                                      have n1_ := Aside0.mk (Kd.R_elder' (by (with_reducible repeat (first | apply Kd.R_alloc | apply Kd.R_drewN | apply Kd.R_drew)); exact HO_8.out) (Kd.R_base ho44) hb)
                                      have n2_ := Aside0.mk (Kd.R_lower (Kd.R_new' (Kd.R_new' ho44 (Kd.R_lt (by (with_reducible repeat (first | apply Kd.R_alloc | apply Kd.R_drewN | apply Kd.R_drew)); exact HO_7.out))) (Kd.R_lt (by (with_reducible repeat (first | apply Kd.R_alloc | apply Kd.R_drewN | apply Kd.R_drew)); exact HO_8.out))) (below_size (by repeat (first | (with_reducible first | exact HB.out | apply below_alloc | apply pw_below_drewN | apply below_drew1) | exact HB.out))))
                                      have n3_ := Aside0.mk (Kd.C_below (by repeat (first | (with_reducible exact HR150.out) | (with_reducible refine Kd.C_alloc ?_ _) | (with_reducible refine Kd.C_drewN ?_ _) | (with_reducible refine Kd.C_drew ?_) | exact HR150.out)) hb)
                                      have n4_ := Aside0.mk (Kd.C_below (by repeat (first | (with_reducible exact HR158.out) | (with_reducible refine Kd.C_alloc ?_ _) | (with_reducible refine Kd.C_drewN ?_ _) | (with_reducible refine Kd.C_drew ?_) | exact HR158.out)) hb)
                                      have n5_ := Aside0.mk (below_step (by repeat (first | (with_reducible first | exact HB.out | apply below_alloc | apply pw_below_drewN | apply below_drew1) | exact HB.out)) hb)
                                      clear HO_7
                                      clear HO_8
                                      clear HR150
                                      clear HR158
                                      clear HB
                                      have HO_7 := n0_
                                      have HO_8 := n1_
                                      have HO154 := n2_
                                      have HR150 := n3_
                                      have HR158 := n4_
                                      have HB := n5_
                                      clear n0_ n1_ n2_ n3_ n4_ n5_
                                      clear hb ho44
                                      refine hK.out _ _ (HS0_) (fun hHeld => ?_)
                                      clear hK K
                                      refine norm_ (a' := ?_) ?_ ?_
                                      rotate_left
                                      · show Act.put _ (some 63) _ = _
                                        simp only [Act.put, List.setIfInBounds_toArray, List.set_cons_zero, List.set_cons_succ, i64_w, i32_w]
                                        rfl
                                      refine last_ (i := 15) (N := some 67) #[true, true, true, true, true, true, true, true, true, true, true, true, true, true, true, true, false, false] rfl rfl (one_of HT_.out (by kernel_rfl)) (by decide) (fun K hK => ?_)
                                      refine Kd.R_append_rows_step (Kd.int .u8) (w0 := w) w.heap.size (by rfl) (.tmp 63) (.tmp 66) 23 5 (.int .u8 0) 1 rfl Tryd.underlying23 info5 rfl (by decide) (by omega) v153 y152 y155 _ _ _ (fun k_ => some k_ ≠ (.slice (some ad151) t137.length co20 : Value).ownBlock ∧ some k_ ≠ (.slice Ao39 x8_2.length co39 : Value).ownBlock) (fun _ => False) rfl rfl ?aO ?aR (fun _ _ h => h) (fun _ h => h.elim) ?aF ?aB ?aS ?aL ?_
                                      (case aR => repeat (first | exact (by repeat (first | (with_reducible exact HR158.out) | (with_reducible refine Kd.C_alloc ?_ _) | (with_reducible refine Kd.C_drewN ?_ _) | (with_reducible refine Kd.C_drew ?_) | exact HR158.out)) | (with_reducible refine Kd.C_alloc ?_ _) | (with_reducible refine Kd.C_drewN ?_ _) | (with_reducible refine Kd.C_drew ?_)))
                                      (case aB => exact (by repeat (first | (with_reducible first | exact HB.out | apply below_alloc | apply pw_below_drewN | apply below_drew1) | exact HB.out)))
                                      (case aF => exact (fun k_ hk => ⟨Kd.fresh' (Kd.R_lt (by (with_reducible repeat (first | apply Kd.R_alloc | apply Kd.R_drewN | apply Kd.R_drew)); exact HO_7.out)) k_ hk, Kd.fresh' (Kd.R_lt (by (with_reducible repeat (first | apply Kd.R_alloc | apply Kd.R_drewN | apply Kd.R_drew)); exact HO_8.out)) k_ hk⟩))
                                      (case aO => exact (by (with_reducible repeat (first | apply Kd.R_alloc | apply Kd.R_drewN | apply Kd.R_drew)); exact Kd.R_mono HO154.out (fun _ hk => ⟨hk.1.2, hk.2⟩)))
                                      (case aS => exact (below_size (by repeat (first | (with_reducible first | exact HB.out | apply below_alloc | apply pw_below_drewN | apply below_drew1) | exact HB.out))))
                                      (case aL => have := LMc37.out; omega)
                                      intro v160 w45 ho hb hg hat
                                      rw [← Ny159.out] at ho
                                      have n0_ := Aside0.mk (Kd.R_after (ok := (fun k_ => some k_ ≠ (.slice Ao39 x8_2.length co39 : Value).ownBlock)) (by (with_reducible repeat (first | apply Kd.R_alloc | apply Kd.R_drewN | apply Kd.R_drew)); exact HO_7.out) hg hat)
                                      have n1_ := Aside0.mk (Kd.R_after (ok := (fun k_ => some k_ ≠ (.slice (some ad151) t137.length co20 : Value).ownBlock)) (by (with_reducible repeat (first | apply Kd.R_alloc | apply Kd.R_drewN | apply Kd.R_drew)); exact HO_8.out) hg hat)
                                      have n2_ := Aside0.mk (hb)
                                      have n3_ := Aside0.mk ((show Kd.C (Kd.int .u8) w45 Ao39 y147.length y147 from by rw [Ny147.out]; exact Kd.C_take (m := ((ji28) : Int).toNat) ((Kd.R_reads' (Kd.R_after (ok := (fun k_ => some k_ ≠ (.slice (some ad151) t137.length co20 : Value).ownBlock)) (by (with_reducible repeat (first | apply Kd.R_alloc | apply Kd.R_drewN | apply Kd.R_drew)); exact HO_8.out) hg hat)).2.2) KL41.out))
                                      have n4_ := Aside0.mk ((show Kd.C (Kd.int .u8) w45 A42 y155.length y155 from by rw [Ny155.out, KA42.out]; exact Kd.C_drop (m := ((ji28) : Int).toNat) (c := co39) ((Kd.R_reads' (Kd.R_after (ok := (fun k_ => some k_ ≠ (.slice (some ad151) t137.length co20 : Value).ownBlock)) (by (with_reducible repeat (first | apply Kd.R_alloc | apply Kd.R_drewN | apply Kd.R_drew)); exact HO_8.out) hg hat)).2.2) KL42.out ((Kd.R_reads' (Kd.R_after (ok := (fun k_ => some k_ ≠ (.slice (some ad151) t137.length co20 : Value).ownBlock)) (by (with_reducible repeat (first | apply Kd.R_alloc | apply Kd.R_drewN | apply Kd.R_drew)); exact HO_8.out) hg hat)).2.1)))
                                      have n5_ := Aside0.mk (ho)
                                      clear HO_7
                                      clear HO_8
                                      clear HB
                                      clear HR150
                                      clear HR158
                                      clear HO154
                                      have HO_7 := n0_
                                      have HO_8 := n1_
                                      have HB := n2_
                                      have HR150 := n3_
                                      have HR158 := n4_
                                      have HO161 := n5_
                                      clear n0_ n1_ n2_ n3_ n4_ n5_
                                      clear ho hb hg hat
                                      refine hK.out _ _ ?_
                                      clear hK K
                                      refine norm_ (a' := ?_) ?_ ?_
                                      rotate_left
                                      · show Act.put _ (some 67) _ = _
                                        simp only [Act.put, List.setIfInBounds_toArray, List.set_cons_zero, List.set_cons_succ, i64_w, i32_w]
                                        rfl
                                      refine last_ (i := 16) (N := some 68) #[true, true, true, true, true, true, true, true, true, true, true, true, true, true, true, true, true, false] rfl rfl (one_of HT_.out (by kernel_rfl)) (by decide) (fun K hK => ?_)
                                      obtain ⟨A67_, c67_, e67_⟩ := Kd.R_slice HO161.out
                                      subst e67_
                                      refine R_append_full_step .u8 (w0 := w) w.heap.size (by rfl) (.tmp 55) (.tmp 67) 23 5 (.int .u8 0) 1 rfl Tryd.underlying23 info5 rfl (by omega) y147 y159 _ _ _ _ rfl rfl ?aO ?aR ?aM (fun k_ => some k_ ≠ (.slice (some ad151) t137.length co20 : Value).ownBlock ∧ some k_ ≠ (.slice Ao39 x8_2.length co39 : Value).ownBlock) ?aF ?aB ?aS ?aL ?_
                                      (case aO => repeat (first | exact (by repeat (first | (with_reducible exact HR150.out) | (with_reducible refine Kd.C_alloc ?_ _) | (with_reducible refine Kd.C_drewN ?_ _) | (with_reducible refine Kd.C_drew ?_) | exact HR150.out)) | (with_reducible refine Kd.C_alloc ?_ _) | (with_reducible refine Kd.C_drewN ?_ _) | (with_reducible refine Kd.C_drew ?_)))
                                      (case aR => exact (Kd.R_reads' HO161.out).2.2)
                                      (case aM => have h1_ := Ny159.out; have h2_ := Ny152.out; rw [h1_, h2_]; simp)
                                      (case aB => exact (by repeat (first | (with_reducible first | exact HB.out | apply below_alloc | apply pw_below_drewN | apply below_drew1) | exact HB.out)))
                                      (case aF => exact (fun k_ hk => ⟨Kd.fresh' (Kd.R_lt (by (with_reducible repeat (first | apply Kd.R_alloc | apply Kd.R_drewN | apply Kd.R_drew)); exact HO_7.out)) k_ hk, Kd.fresh' (Kd.R_lt (by (with_reducible repeat (first | apply Kd.R_alloc | apply Kd.R_drewN | apply Kd.R_drew)); exact HO_8.out)) k_ hk⟩))
                                      (case aS => exact (below_size (by repeat (first | (with_reducible first | exact HB.out | apply below_alloc | apply pw_below_drewN | apply below_drew1) | exact HB.out))))
                                      (case aL => have := LMc38.out; omega)
                                      intro v163 w46 ho hb hg hat
                                      rw [← Ny162.out] at ho
                                      have n0_ := Aside0.mk (Kd.R_after (v := .slice none 0 0) (ok := (fun k_ => some k_ ≠ (.slice Ao39 x8_2.length co39 : Value).ownBlock)) (by (with_reducible repeat (first | apply Kd.R_alloc | apply Kd.R_drewN | apply Kd.R_drew)); exact Kd.R_mono HO_7.out (fun _ hk => ⟨hk.1, by simp [Value.ownBlock]⟩)) hg (.inr hat))
                                      have n1_ := Aside0.mk (Kd.R_after (v := .slice none 0 0) (ok := (fun k_ => some k_ ≠ (.slice (some ad151) t137.length co20 : Value).ownBlock)) (by (with_reducible repeat (first | apply Kd.R_alloc | apply Kd.R_drewN | apply Kd.R_drew)); exact Kd.R_mono HO_8.out (fun _ hk => ⟨hk.1, by simp [Value.ownBlock]⟩)) hg (.inr hat))
                                      have n2_ := Aside0.mk (hb)
                                      have n3_ := Aside0.mk ((show Kd.C (Kd.int .u8) w46 Ao39 y147.length y147 from by rw [Ny147.out]; exact Kd.C_take (m := ((ji28) : Int).toNat) ((Kd.R_reads' (Kd.R_after (v := .slice none 0 0) (ok := (fun k_ => some k_ ≠ (.slice (some ad151) t137.length co20 : Value).ownBlock)) (by (with_reducible repeat (first | apply Kd.R_alloc | apply Kd.R_drewN | apply Kd.R_drew)); exact Kd.R_mono HO_8.out (fun _ hk => ⟨hk.1, by simp [Value.ownBlock]⟩)) hg (.inr hat))).2.2) KL41.out))
                                      have n4_ := Aside0.mk ((show Kd.C (Kd.int .u8) w46 A42 y155.length y155 from by rw [Ny155.out, KA42.out]; exact Kd.C_drop (m := ((ji28) : Int).toNat) (c := co39) ((Kd.R_reads' (Kd.R_after (v := .slice none 0 0) (ok := (fun k_ => some k_ ≠ (.slice (some ad151) t137.length co20 : Value).ownBlock)) (by (with_reducible repeat (first | apply Kd.R_alloc | apply Kd.R_drewN | apply Kd.R_drew)); exact Kd.R_mono HO_8.out (fun _ hk => ⟨hk.1, by simp [Value.ownBlock]⟩)) hg (.inr hat))).2.2) KL42.out ((Kd.R_reads' (Kd.R_after (v := .slice none 0 0) (ok := (fun k_ => some k_ ≠ (.slice (some ad151) t137.length co20 : Value).ownBlock)) (by (with_reducible repeat (first | apply Kd.R_alloc | apply Kd.R_drewN | apply Kd.R_drew)); exact Kd.R_mono HO_8.out (fun _ hk => ⟨hk.1, by simp [Value.ownBlock]⟩)) hg (.inr hat))).2.1)))
                                      have n5_ := Aside0.mk (ho)
                                      clear HO_7
                                      clear HO_8
                                      clear HB
                                      clear HR150
                                      clear HR158
                                      clear HO161
                                      have HO_7 := n0_
                                      have HO_8 := n1_
                                      have HB := n2_
                                      have HR150 := n3_
                                      have HR158 := n4_
                                      have HO164 := n5_
                                      clear n0_ n1_ n2_ n3_ n4_ n5_
                                      clear ho hb hg hat
                                      refine hK.out _ _ ?_
                                      clear hK K
                                      refine norm_ (a' := ?_) ?_ ?_
                                      rotate_left
                                      · show Act.put _ (some 68) _ = _
                                        simp only [Act.put, List.setIfInBounds_toArray, List.set_cons_zero, List.set_cons_succ, i64_w, i32_w]
                                        rfl
                                      refine pure_ (i := 17) (N := some 8) (v := ?_) (a' := ?_) #[true, true, true, true, true, true, true, true, true, true, true, true, true, true, true, true, true, true] rfl rfl (any_of HT_.out (by kernel_rfl)) (fun _ _ _ h => h) (Or.inl ⟨by rfl, ?_⟩) ?_ ?_
                                      rotate_left
                                      · intro w'
                                        go_simp
                                        with_reducible rfl
                                      rotate_left
                                      · simp only [Act.put, List.setIfInBounds_toArray, List.set_cons_zero, List.set_cons_succ, i64_w, i32_w]
                                        rfl
                                      refine done_ (done_of HT_.out (by kernel_rfl)) ?_
                                      try go_wp2
                                      go_roundg k2
                                      case measure => have := HJ3.out; have := HK2.out; omega
                                      case rel => exact ⟨(y162), (wrap64 (x41_2 + 1)), (by first | rfl | (simp; done) | (simp [*]; done)), (by first | exact H' | (simp only [hji28, hji32]; exact H')), ⟨by have := HJ3.out; have := HK2.out; omega⟩, ⟨by (with_reducible repeat (first | apply Kd.R_alloc | apply Kd.R_drewN | apply Kd.R_drew)); exact Kd.R_mono HO_7.out (fun _ hk => hk.2)⟩, ⟨by (with_reducible repeat (first | apply Kd.R_alloc | apply Kd.R_drewN | apply Kd.R_drew)); exact Kd.R_mono HO164.out (fun _ hk => hk.1)⟩, ⟨by repeat (first | (with_reducible first | exact HB.out | apply below_alloc | apply pw_below_drewN | apply below_drew1) | exact HB.out)⟩⟩
                                    · rw [if_neg c38] at H
                                      exact absurd H (by simp)
                                  · rw [if_neg c37] at H
                                    exact absurd H (by simp)
                                · rw [if_neg c34] at H
                                  exact absurd H (by simp)
                              · rw [if_neg c33] at H
                                exact absurd H (by simp)
                          · rw [if_neg c30] at H
                            exact absurd H (by simp)
                        · rw [if_neg c29] at H
                          exact absurd H (by simp)
                    · rw [if_neg c26] at H
                      exact absurd H (by simp)
                  · rw [if_neg c25] at H
                    exact absurd H (by simp)
                · rw [if_neg c24] at H
                  have c24b0 : decide (x41_2 < (l2.length : Int)) = false := decide_eq_false c24
                  clear c24
                  replace H := Option.bind_eq_some_iff.mp H
                  obtain ⟨⟨t165, t166⟩, A470, H⟩ := H
                  replace H : ((stuff_Unstuff.f k2 a0 x8_2).bind fun bt169 => (if t166 = bt169.2 then ((marlineref01_Equal.f k2 t165 bt169.1).bind fun t173 => (some t173)) else (none))) = some r := H
                  have A47 := Aside0.mk A470
                  clear A470
                  replace H := Option.bind_eq_some_iff.mp H
                  obtain ⟨⟨t169, t170⟩, A480, H⟩ := H
                  replace H : (if t166 = t170 then ((marlineref01_Equal.f k2 t165 t169).bind fun t173 => (some t173)) else (none)) = some r := H
                  have A48 := Aside0.mk A480
                  clear A480
                  by_cases c49 : t166 = t170
                  · rw [if_pos c49] at H
                    have c49b0 : (t166 == t170) = true := beq_iff_eq.mpr c49
                    have c49b1 : (t166 != t170) = false := bne_eq_false_iff_eq.mpr c49
                    clear c49
                    replace H := Option.bind_eq_some_iff.mp H
                    obtain ⟨t173, A500, H⟩ := H
                    replace H : (some t173) = some r := H
                    have A50 := Aside0.mk A500
                    clear A500
                    obtain rfl := Option.some.inj H
                    go_wp2_with (first | ((with_reducible refine gate_callee (f := 6) rfl ?_); refine goesL_ (some 73) rfl rfl Tryd.func6 (by kernel_rfl) rfl #[.int .u32 a0, .slice A1 l1.length c1] rfl (by (try simp only [List.map_toArray, List.map_cons, List.map_nil]); first | done | rfl | (simp only [List.length_drop, List.length_take]; rfl)) ?_; (with_reducible refine (stuff_Unstuff.calls k2 a0 _ _ l1 t165 t166 _ ?side1 ?side2 A47.out).mono ?_); (case side1 => repeat (first | exact (Kd.C_below HR1.out HB.out) | (with_reducible refine Kd.C_alloc ?_ _) | (with_reducible refine Kd.C_drewN ?_ _) | (with_reducible refine Kd.C_drew ?_))); (case side2 => exact HC1.out); rintro e w51 ⟨v167, rfl, ho0, hb⟩; refine ⟨_, rfl, ?_⟩; have n0_ := Aside0.mk (Kd.R_elder' (by (with_reducible repeat (first | apply Kd.R_alloc | apply Kd.R_drewN | apply Kd.R_drew)); exact HO_8.out) (Kd.R_base ho0) hb); have n1_ := Aside0.mk (Kd.R_lower (Kd.R_new' ho0 (Kd.R_lt (by (with_reducible repeat (first | apply Kd.R_alloc | apply Kd.R_drewN | apply Kd.R_drew)); exact HO_8.out))) (below_size (by repeat (first | (with_reducible first | exact HB.out | apply below_alloc | apply pw_below_drewN | apply below_drew1) | exact HB.out)))); have n2_ := Aside0.mk (below_step (by repeat (first | (with_reducible first | exact HB.out | apply below_alloc | apply pw_below_drewN | apply below_drew1) | exact HB.out)) hb); clear HO_8; clear HB; have HO_8 := n0_; have HO168 := n1_; have HB := n2_; clear n0_ n1_ n2_; (try clear hb); (try clear hb2); (try clear hk); (try clear hi); (try clear ho0); obtain ⟨Ao52, co52, eo52⟩ := Kd.R_slice HO_8.out; subst eo52) | ((with_reducible refine gate_callee (f := 6) rfl ?_); refine goesL_ (some 79) rfl rfl Tryd.func6 (by kernel_rfl) rfl #[.int .u32 a0, .slice Ao52 x8_2.length co52] rfl (by (try simp only [List.map_toArray, List.map_cons, List.map_nil]); first | done | rfl | (simp only [List.length_drop, List.length_take]; rfl)) ?_; (with_reducible refine (stuff_Unstuff.calls k2 a0 _ _ x8_2 t169 t170 _ ?side1 ?side2 A48.out).mono ?_); (case side1 => repeat (first | exact (Kd.R_reads' HO_8.out).2.2 | (with_reducible refine Kd.C_alloc ?_ _) | (with_reducible refine Kd.C_drewN ?_ _) | (with_reducible refine Kd.C_drew ?_))); (case side2 => exact (Kd.R_reads' HO_8.out).2.1); rintro e w53 ⟨v171, rfl, ho0, hb⟩; refine ⟨_, rfl, ?_⟩; have n0_ := Aside0.mk (Kd.R_elder' (by (with_reducible repeat (first | apply Kd.R_alloc | apply Kd.R_drewN | apply Kd.R_drew)); exact HO_8.out) (Kd.R_base ho0) hb); have n1_ := Aside0.mk (Kd.R_elder' (by (with_reducible repeat (first | apply Kd.R_alloc | apply Kd.R_drewN | apply Kd.R_drew)); exact HO168.out) (Kd.R_base ho0) hb); have n2_ := Aside0.mk (Kd.R_lower (Kd.R_new' (Kd.R_new' ho0 (Kd.R_lt (by (with_reducible repeat (first | apply Kd.R_alloc | apply Kd.R_drewN | apply Kd.R_drew)); exact HO_8.out))) (Kd.R_lt (by (with_reducible repeat (first | apply Kd.R_alloc | apply Kd.R_drewN | apply Kd.R_drew)); exact HO168.out))) (below_size (by repeat (first | (with_reducible first | exact HB.out | apply below_alloc | apply pw_below_drewN | apply below_drew1) | exact HB.out)))); have n3_ := Aside0.mk (below_step (by repeat (first | (with_reducible first | exact HB.out | apply below_alloc | apply pw_below_drewN | apply below_drew1) | exact HB.out)) hb); clear HO_8; clear HO168; clear HB; have HO_8 := n0_; have HO168 := n1_; have HO172 := n2_; have HB := n3_; clear n0_ n1_ n2_ n3_; (try clear hb); (try clear hb2); (try clear hk); (try clear hi); (try clear ho0); obtain ⟨Ao54, co54, eo54⟩ := Kd.R_slice HO168.out; subst eo54; obtain ⟨Ao55, co55, eo55⟩ := Kd.R_slice HO172.out; subst eo55) | (go_at_call 7; (with_reducible refine (marlineref01_Equal.calls k2 _ _ t165 _ _ t169 t173 _ ?side1 ?side2 ?side3 ?side4 A50.out).mono ?_); (case side1 => repeat (first | exact (Kd.R_reads' HO168.out).2.2 | (with_reducible refine Kd.C_alloc ?_ _) | (with_reducible refine Kd.C_drewN ?_ _) | (with_reducible refine Kd.C_drew ?_))); (case side2 => exact (Kd.R_reads' HO168.out).2.1); (case side3 => repeat (first | exact (Kd.R_reads' HO172.out).2.2 | (with_reducible refine Kd.C_alloc ?_ _) | (with_reducible refine Kd.C_drewN ?_ _) | (with_reducible refine Kd.C_drew ?_))); (case side4 => exact (Kd.R_reads' HO172.out).2.1); rintro e w' ⟨rfl, ⟨nd, rfl⟩⟩))
                    go_ret
                    exact ⟨by first | rfl | (simp [errW_none, errW_some] <;> rfl) | (simp [*, errW_none, errW_some] <;> rfl), by repeat (first | (with_reducible first | exact HB.out | apply below_alloc | apply pw_below_drewN | apply below_drew1) | exact HB.out)⟩
                  · rw [if_neg c49] at H
                    exact absurd H (by simp)
          · rw [if_neg c18] at H
            exact absurd H (by simp)

/-- THE ONE PURE STATEMENT of marlinelaw04_StuffNoise: yours. -/
def marlinelaw04_StuffNoise.Pure : Prop := ∀ (a0 : Int) (l1 : List Int) (l2 : List Int), (Lit.int .u32 a0).wf = true → l1.length ≤ maxLen → l1.length * 1 ≤ 140737488351232 → (∀ x ∈ l1, (Lit.int .u8 x).wf = true) → l2.length ≤ maxLen → l2.length * 2 ≤ 140737488351232 → (∀ x ∈ l2, (Lit.int .u16 x).wf = true) → ∃ k, marlinelaw04_StuffNoise.f k a0 l1 l2 = some true
theorem marlinelaw04_StuffNoise.walk (P : marlinelaw04_StuffNoise.Pure) (a0 : Int) (a1 : Option Addr) (len1 cap1 : Nat) (z1 : List Int) (a2 : Option Addr) (len2 cap2 : Nat) (z2 : List Int) (w : World) (hGL : GL w) (w0 : (Lit.int .u32 a0).wf = true) (w1 : (a1 = none ∧ len1 = 0 ∧ cap1 = 0 ∧ z1 = []) ∨ ∃ x, a1 = some x ∧ len1 ≤ cap1 ∧ cap1 ≤ maxLen ∧ z1.length = cap1 ∧ (∀ i, i < z1.length → w.cell? (x.add i) = some (.int .u8 (z1.getD i 0))) ∧ ∀ n ∈ z1, (Lit.int .u8 n).wf = true) (y1 : len1 * 1 ≤ 140737488351232) (w2 : (a2 = none ∧ len2 = 0 ∧ cap2 = 0 ∧ z2 = []) ∨ ∃ x, a2 = some x ∧ len2 ≤ cap2 ∧ cap2 ≤ maxLen ∧ z2.length = cap2 ∧ (∀ i, i < z2.length → w.cell? (x.add i) = some (.int .u16 (z2.getD i 0))) ∧ ∀ n ∈ z2, (Lit.int .u16 n).wf = true) (y2 : len2 * 2 ≤ 140737488351232) :
    Calls Tryd.prog 3 #[.int .u32 a0, .slice a1 len1 cap1, .slice a2 len2 cap2] w fun e w' => e = .returned (.bool true) ∧ Below w.heap.size w w' := by
  obtain ⟨l1, rfl, hr1, hm1, hw1, hc1⟩ := ReadsInt.ofRowC w1
  obtain ⟨l2, rfl, hr2, hm2, hw2, hc2⟩ := ReadsInt.ofRowC w2
  obtain ⟨k, h⟩ := P a0 l1 l2 w0 hm1 y1 hw1 hm2 y2 hw2
  refine (marlinelaw04_StuffNoise.calls k a0 _ _ l1 _ _ l2 true w (Kd.C_of_reads (d := (0 : Int)) (h1 := fun _ => rfl) hr1) hc1 (Kd.C_of_reads (d := (0 : Int)) (h1 := fun _ => rfl) hr2) hc2 h).mono ?_
  rintro e w' ⟨rfl, hd⟩
  exact ⟨rfl, hd⟩

end Go.Proofs.YtppfoopecdmblaaDoor.Print
