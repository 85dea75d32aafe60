/- A text that a program of this claim (wip/x) laid out of the translation: what Go functions come to, and that they come to it. Lean checks it. -/
import Derived.Test.YtppfoopecdmblaaDoorPrint0
import Derived.Test.YtppfoopecdmblaaDoorPrintAccmHas
import Derived.Test.YtppfoopecdmblaaDoorPrintBytesIndexByte
import Derived.Test.YtppfoopecdmblaaDoorPrintSlicesCloneByteByte
namespace Go.Proofs.YtppfoopecdmblaaDoor.Print
open Go.RowKit Go.Proofs.YtppfoopecdmblaaDoorW.PrintWords Go.Proofs.YtppfoopecdmblaaDoorW.PrintLast Go.Proofs.YtppfoopecdmblaaDoorW.PrintMore
attribute [local go_sem] max2_int min2_int max_two min_two max_three min_three max_four min_four   -- for this text's walks alone
set_option linter.unusedVariables false
set_option linter.unusedSimpArgs false

/-! ### stuff_Unstuff: function 6 -/
def stuff_Unstuff.has (m c : Int) : Bool := (Go.bits .and .u32 (shr .u32 m c) 1) == 1
/-- What is read of octets, escape by escape; o: what was read ahead. -/
def stuff_Unstuff.l0 : Nat → List Int → List Int → Option (List Int × Int)
  | 0, _, _ => none
  | k + 1, x, o => (bytes_IndexByte.f x 125).bind fun t => if t < 0 then (if o.length + x.length < 140737488355328 then some (o ++ x, 0) else none) else if t + 1 = (x.length : Int) then some ([], 10) else if o.length + x.length < 140737488355328 then stuff_Unstuff.l0 k (x.drop (t + 2).toNat) ((o ++ x.take t.toNat) ++ [Go.bits .xor .u8 (rd x (t + 1)) 32]) else none
def stuff_Unstuff.f (k : Nat) (a0 : Int) (l1 : List Int) : Option (List Int × Int) :=
  if (l1.all fun x => decide (0 ≤ x ∧ x < 256)) = true ∧ l1.length < 140737488355328 then (bytes_IndexByte.f l1 126).bind fun t => if 0 ≤ t then some ([], 4) else stuff_Unstuff.l0 k (l1.filter fun x => !stuff_Unstuff.has a0 x) [] else none
theorem stuff_Unstuff.mono_l : ∀ k x o, LeO (stuff_Unstuff.l0 k x o) (stuff_Unstuff.l0 (k + 1) x o)
  | 0, _, _ => LeO.none _
  | k + 1, x, o => by
    show LeO (Option.bind _ _) (Option.bind _ _)
    refine LeO.bind (LeO.refl _) (fun t => ?_)
    refine LeO.ite (LeO.refl _) (LeO.ite (LeO.refl _) (LeO.ite ?_ (LeO.refl _)))
    exact stuff_Unstuff.mono_l k _ _
theorem stuff_Unstuff.mono (k : Nat) (a0 : Int) (l1 : List Int) : LeO (stuff_Unstuff.f k a0 l1) (stuff_Unstuff.f (k + 1) a0 l1) := by
  unfold stuff_Unstuff.f
  refine LeO.ite (LeO.bind (LeO.refl _) (fun t => LeO.ite (LeO.refl _) ?_)) (LeO.refl _)
  exact stuff_Unstuff.mono_l k _ _
theorem stuff_Unstuff.idx_bd {l : List Int} {c t : Int} (h : bytes_IndexByte.f l c = some t) : -1 ≤ t ∧ t < l.length := by
  have e := Option.some.inj h
  subst e
  refine ⟨Go.Lib.indexByte_ge _ _, ?_⟩
  rcases Int.lt_or_le (Go.Lib.indexByte (Go.Lib.bytesOf l) c.toNat.toUInt8) 0 with h0 | h0
  · omega
  · obtain ⟨o, ho⟩ := Int.eq_ofNat_of_zero_le h0
    have h1 := (Go.Lib.indexByte_some ho).1
    have h2 := (List.getElem?_eq_some_iff.1 h1).1
    have h3 : (Go.Lib.bytesOf l).length = l.length := by simp [Go.Lib.bytesOf]
    omega
def stuff_Unstuff.ren : Go.Shelf.Ren := ⟨fun | 10 => 11 | 6 => 18 | n => n, fun | 22 => 23 | 23 => 5 | 25 => 39 | 3 => 3 | 4 => 4 | 0 => 0 | n => n, fun | n => n⟩
theorem stuff_Unstuff.lays : Go.Proofs.SlLaysH.n10 Tryd.prog stuff_Unstuff.ren := {
  mixed := by kernel_rfl
  f6 := ⟨Tryd.f18.name, by decide, Tryd.func18.trans (congrArg some (by kernel_rfl))⟩
  f10 := ⟨Tryd.f11.name, by decide, Tryd.func11.trans (congrArg some (by kernel_rfl))⟩
  t0 := Tryd.underlying0
  a0 := Tryd.isAgg0
  z0 := Tryd.sizeOf0
  v0 := Tryd.zeroValue0
  t3 := Tryd.underlying3
  a3 := Tryd.isAgg3
  z3 := Tryd.sizeOf3
  v3 := Tryd.zeroValue3
  t4 := Tryd.underlying4
  a4 := Tryd.isAgg4
  z4 := Tryd.sizeOf4
  v4 := Tryd.zeroValue4
  t22 := Tryd.underlying23
  a22 := Tryd.isAgg23
  z22 := Tryd.sizeOf23
  v22 := Tryd.zeroValue23
  a23 := Tryd.isAgg5
  z23 := Tryd.sizeOf5
  t25 := Tryd.underlying39
  a25 := Tryd.isAgg39
  z25 := Tryd.sizeOf39
  v25 := Tryd.zeroValue39 }
set_option maxRecDepth 100000 in
theorem stuff_Unstuff.gives (m : Int) (x : UInt8) (B : Nat) (W : World) (hc : W.cell? ⟨B, 0, none⟩ = some (.int .u32 m)) :
    FnGives Tryd.prog 13 #[.pointer (some ⟨B, 0, none⟩)] #[.int .u8 (x.toNat : Int)] (.bool (stuff_Unstuff.has m (x.toNat : Int))) W := by
  show Calls Tryd.prog 13 #[.int .u8 (x.toNat : Int), .pointer (some ⟨B, 0, none⟩)] W _
  have hx : accm_Has.f m (x.toNat : Int) = some (stuff_Unstuff.has m (x.toNat : Int)) := if_pos (Int.natCast_nonneg _)
  go_enter Tryd.func13, Tryd.ntmps13
  go_wp2_with (first | (go_at_call 14; refine (accm_Has.calls m (x.toNat : Int) _ _ hx).mono ?_; rintro e w' ⟨rfl, ⟨⟨nd, rfl⟩⟩⟩))
  go_ret
  exact ⟨rfl, _, rfl⟩
def stuff_Unstuff.u8 (l : List Int) : Array UInt8 := (l.map fun z => UInt8.ofNat z.toNat).toArray
theorem stuff_Unstuff.u8_back {l : List Int} (h : (l.all fun x => decide (0 ≤ x ∧ x < 256)) = true) (p : Int → Bool) : ((stuff_Unstuff.u8 l).toList.filter fun x => p (x.toNat : Int)).map (fun x => (x.toNat : Int)) = l.filter p := by
  unfold stuff_Unstuff.u8
  induction l with
  | nil => rfl
  | cons c t ih =>
    simp only [List.all_cons, Bool.and_eq_true, decide_eq_true_eq] at h
    have ih := ih h.2
    have hc : (((UInt8.ofNat c.toNat).toNat : Nat) : Int) = c := by
      rw [UInt8.toNat_ofNat', Nat.mod_eq_of_lt (by omega)]
      omega
    simp only [List.map_cons, List.filter_cons, hc] at ih ⊢
    split
    · rw [List.map_cons, hc, ih]
    · exact ih
theorem stuff_Unstuff.add0 (g i : Nat) : (⟨g, 0, none⟩ : Addr).add i = ⟨g, i, none⟩ := add_plain g i
set_option maxRecDepth 100000 in
theorem stuff_Unstuff.del (m : Int) (b : Nat) (xs : List Int) (v : Value) (W : World) (B : Nat) (hbyte : (xs.all fun x => decide (0 ≤ x ∧ x < 256)) = true) (ho : Kd.R (Kd.int .u8) 5 W B (fun _ => True) v xs) (hb : b < B) (hc : W.cell? ⟨b, 0, none⟩ = some (.int .u32 m)) :
    Calls Tryd.prog 11 #[v, .func (.func 13) #[] #[.pointer (some ⟨b, 0, none⟩)]] W fun e w' => ∃ (A : Option Addr) (c : Nat), e = .returned (.slice A (xs.filter fun x => !stuff_Unstuff.has m x).length c) ∧ (xs.filter fun x => !stuff_Unstuff.has m x).length ≤ c ∧ Kd.C (Kd.int .u8) w' A (xs.filter fun x => !stuff_Unstuff.has m x).length (xs.filter fun x => !stuff_Unstuff.has m x) ∧ Below B W w' := by
  obtain ⟨_, inner, ⟨hlen, hown⟩, hrep⟩ := ho
  have hBW : b < W.heap.size := World.block_lt_of_cell? W _ hc
  rcases hown with ⟨rfl, h0⟩ | ⟨g, cap, cur, rfl, hg, hh, hnc, hcm, hcs, hct⟩
  · obtain rfl : xs = [] := List.eq_nil_of_length_eq_zero h0
    have hIF := fun (W : World) => AnyE.slices_IndexFunc_empty (P := Tryd.prog) (ρ := stuff_Unstuff.ren) { stuff_Unstuff.lays with } none 0 (.func (.func 13) #[] #[.pointer (some ⟨b, 0, none⟩)]) W
    have HIF := Aside0.mk hIF
    clear hIF hrep hlen
    go_enter Tryd.func11, Tryd.ntmps11
    go_wp2_with (first | (go_at_call 18; refine (HIF.out _).mono ?_; rintro e w' ⟨rfl, rfl⟩))
    go_ret
    exact ⟨none, 0, rfl, Nat.le_refl _, Kd.C_nil _ _, Below.refl _ _⟩
  · have hsz : (stuff_Unstuff.u8 xs).size = xs.length := by simp [stuff_Unstuff.u8]
    have hcm' : cap ≤ 9223372036854775807 := by simpa [maxLen] using hcm
    have hC := (Kd.R_reads' (d := Kd.int .u8) (e := 5) (w := W) (base := B) (ok := fun _ => True) (A := some ⟨g, 0, none⟩) (n := xs.length) (c := cap) (xs := xs) ⟨fun _ _ => trivial, inner, ⟨hlen, .inr ⟨g, cap, cur, rfl, hg, hh, hnc, hcm, hcs, hct⟩⟩, hrep⟩).2.2
    have hbyte' : ∀ i (hi : i < xs.length), 0 ≤ xs[i] ∧ xs[i] < 256 := fun i hi => by simpa using List.all_eq_true.1 hbyte _ (List.getElem_mem hi)
    have hH : Go.Sort.Holds (fun x : UInt8 => Value.int .u8 (x.toNat : Int)) W g 0 (stuff_Unstuff.u8 xs) := fun j hj => by
      rw [hsz] at hj
      have hu : ((stuff_Unstuff.u8 xs)[j]!.toNat : Int) = xs[j] := by
        rw [getElem!_pos _ j (by rw [hsz]; exact hj)]
        simp only [stuff_Unstuff.u8, List.getElem_toArray, List.getElem_map, UInt8.toNat_ofNat']
        have := hbyte' j hj
        rw [Nat.mod_eq_of_lt (by omega)]
        omega
      obtain ⟨ad, e, hx⟩ := Kd.at_int hC (j : Int) (by omega) (by omega)
      injection e with e
      subst e
      rw [Int.toNat_natCast, stuff_Unstuff.add0] at hx
      refine ⟨?_, ?_⟩
      · show W.cell? ⟨g, 0 + j, none⟩ = _
        rw [Nat.zero_add, hx]
        show _ = some (Value.int .u8 (((stuff_Unstuff.u8 xs)[j]!.toNat : Nat) : Int))
        rw [hu]
        simp [rd, hj]
      · rw [Nat.zero_add]
        exact blk_frozen hh j
    have eg : ∀ args w, (callFunc 13 args).run Tryd.prog w = .ok (.enter 13 args) w := enters_of Tryd.func13 (by kernel_rfl) rfl
    have hp : PredAt Tryd.prog 13 #[.pointer (some ⟨b, 0, none⟩)] (fun x : UInt8 => Value.int .u8 (x.toNat : Int)) (fun x => stuff_Unstuff.has m (x.toNat : Int)) W :=
      fun W' x hb' => stuff_Unstuff.gives m x b W' ((hb'.cell (p := ⟨b, 0, none⟩) hBW).trans hc)
    have hpo : PredOver Tryd.prog 13 #[.pointer (some ⟨b, 0, none⟩)] (fun x : UInt8 => Value.int .u8 (x.toNat : Int)) (fun x => stuff_Unstuff.has m (x.toNat : Int)) g 0 (stuff_Unstuff.u8 xs).size W :=
      fun n os dk x _ => stuff_Unstuff.gives m x b _ (by
        unfold sortWorld
        rw [Go.Sort.cell?_grow _ _ _ (by show b < (Go.Sort.putRow _ _ _ _ _).heap.size; rw [Go.Sort.size_putRow]; exact hBW), Go.Sort.cell?_putRow_other _ _ g 0 _ _ (Or.inl (by show b ≠ g; omega))]
        exact hc)
    have hcon := AnyE.slices_DeleteFunc stuff_Unstuff.lays (fun x : UInt8 => Value.int .u8 (x.toNat : Int)) (fun _ => rfl) (fun x => stuff_Unstuff.has m (x.toNat : Int)) 13 #[.pointer (some ⟨b, 0, none⟩)] eg (0 : UInt8) Tryd.zeroValue5 g 0 cap (stuff_Unstuff.u8 xs) W hp hpo hH (by rw [hsz]; omega) (by rw [hsz]; exact hnc)
    rw [hsz] at hcon
    refine Calls.mono hcon ?_
    rintro e w' ⟨rfl, q, rfl⟩
    have hfl := stuff_Unstuff.u8_back hbyte (fun x => !stuff_Unstuff.has m x)
    have hll : ((stuff_Unstuff.u8 xs).toList.filter fun x => !stuff_Unstuff.has m (x.toNat : Int)).length = (xs.filter fun x => !stuff_Unstuff.has m x).length := by rw [← hfl, List.length_map]
    have hle : (xs.filter fun x => !stuff_Unstuff.has m x).length ≤ xs.length := List.length_filter_le _ _
    refine ⟨some ⟨g, 0, none⟩, cap, by rw [hll], by omega, ⟨rfl, by omega, fun _ => ⟨⟨g, 0, none⟩, rfl, fun j p hj => ?_⟩⟩, ?_⟩
    · have hjl := (List.getElem?_eq_some_iff.1 hj).1
      generalize hF : ((stuff_Unstuff.u8 xs).toList.filter fun x => !stuff_Unstuff.has m (x.toNat : Int)) = F at hll hfl ⊢
      have hS : ((F ++ List.replicate (xs.length - F.length) (0 : UInt8)).toArray).size = (stuff_Unstuff.u8 xs).size := by simp [hsz]; omega
      have hh2 := Go.Sort.holds_putRow (fun x : UInt8 => Value.int .u8 (x.toNat : Int)) (Go.Sort.ahead W q) g 0 (stuff_Unstuff.u8 xs) (F ++ List.replicate (xs.length - F.length) (0 : UInt8)).toArray (fun j hj => hH j hj) hS
      have h3 := (hh2 j (by rw [hS, hsz]; omega)).1
      refine ⟨[.int .u8 p], rfl, rfl, fun i u hu => ?_⟩
      cases i with
      | succ i => simp at hu
      | zero =>
        simp only [List.getElem?_cons_zero, Option.some.injEq] at hu
        subst hu
        show World.cell? _ ((⟨g, 0, none⟩ : Addr).add (j * 1 + 0)) = _
        rw [stuff_Unstuff.add0, show j * 1 + 0 = j by omega]
        rw [Nat.zero_add] at h3
        rw [h3, getElem!_pos _ j (by rw [hS, hsz]; omega)]
        have hjF : j < F.length := by omega
        rw [List.getElem_toArray, List.getElem_append_left hjF]
        rw [← hfl, List.getElem?_map, List.getElem?_eq_getElem hjF] at hj
        simp only [Option.map_some, Option.some.injEq] at hj
        show some (Value.int .u8 ((F[j].toNat : Nat) : Int)) = _
        rw [hj]
    · refine ⟨rfl, rfl, rfl, by rw [Go.Sort.size_putRow]; exact Nat.le_refl _, fun i hi => ?_⟩
      show (Go.Sort.putRow _ _ _ _ _).heap[i]? = _
      unfold Go.Sort.putRow Go.Sort.mapBlock
      rw [Array.getElem?_modify, if_neg (by omega)]
      rfl
set_option maxHeartbeats 8000000 in
set_option maxRecDepth 100000 in
theorem stuff_Unstuff.calls (k : Nat) (a0 : Int) (A1 : Option Addr) (c1 : Nat) (l1 : List Int) (r1 : List Int) (r2 : Int) (w : World) (hr1 : Kd.C (Kd.int .u8) w A1 l1.length l1) (hc1 : l1.length ≤ c1) (h : stuff_Unstuff.f k a0 l1 = some (r1, r2)) :
    Calls Tryd.prog 6 #[.int .u32 a0, .slice A1 l1.length c1] w fun e w' => ∃ v0_ : Value, e = .returned (.tuple #[v0_, .int .i64 r2]) ∧ Kd.R (Kd.int .u8) 5 w' w.heap.size (fun _ => True) v0_ r1 ∧ Below w.heap.size w w' := by
  unfold stuff_Unstuff.f at h
  by_cases hg : (l1.all fun x => decide (0 ≤ x ∧ x < 256)) = true ∧ l1.length < 140737488355328
  · rw [if_pos hg] at h
    obtain ⟨hbyte, hlim⟩ := hg
    obtain ⟨t0, h0, h⟩ := Option.bind_eq_some_iff.mp h
    have HI := Aside0.mk h0
    have HR1 := Aside0.mk hr1
    have HC1 := Aside0.mk hc1
    have HBY := Aside0.mk hbyte
    have HLIM := Aside0.mk hlim
    clear h0 hr1 hc1 hbyte hlim
    by_cases ht : 0 ≤ t0
    · rw [if_pos ht] at h
      simp only [Option.some.injEq, Prod.mk.injEq] at h
      obtain ⟨rfl, rfl⟩ := h
      have d0 : decide (0 ≤ t0) = true := decide_eq_true ht
      have T0 := Aside0.mk ht
      clear ht
      go_enter Tryd.func6, Tryd.ntmps6
      go_wp2_with (first | (go_at_call 10; refine (bytes_IndexByte.calls A1 c1 l1 126 t0 _ ?s1 HC1.out HI.out).mono ?_; (case s1 => repeat (first | exact HR1.out | (with_reducible refine Kd.C_alloc ?_ _))); rintro e w' ⟨rfl, ⟨⟨nd, rfl⟩⟩⟩))
      go_ret2
      exact ⟨_, rfl, Kd.R_nil _ _ _ _ _, by repeat (first | exact Below.refl _ _ | apply pw_below_drewN | apply below_alloc)⟩
    · rw [if_neg ht] at h
      have d0 : decide (0 ≤ t0) = false := decide_eq_false ht
      have HH := Aside0.mk h
      clear ht h
      have hcl : slices_Clone_byte_byte.f l1 = some l1 := if_pos HLIM.out
      have HCL := Aside0.mk hcl
      clear hcl
      go_enter Tryd.func6, Tryd.ntmps6
      go_wp2_with (first | (go_at_call 10; refine (bytes_IndexByte.calls A1 c1 l1 126 t0 _ ?s1 HC1.out HI.out).mono ?_; (case s1 => repeat (first | exact HR1.out | (with_reducible refine Kd.C_alloc ?_ _))); rintro e w' ⟨rfl, ⟨⟨nd, rfl⟩⟩⟩) | (go_at_call 12; refine (slices_Clone_byte_byte.calls A1 c1 l1 l1 ((w.alloc (.cells #[.int .u32 a0] 22)).drewN nd) ?s1 HC1.out HCL.out).mono ?_; (case s1 => repeat (first | exact HR1.out | (with_reducible refine Kd.C_alloc ?_ _) | (with_reducible refine Kd.C_drewN ?_ _))); rintro e w1 ⟨v1, rfl, ho1, hb1⟩; have HO1 := Aside0.mk ho1; have HB1 := Aside0.mk (show Below w.heap.size w w1 from below_step (pw_below_drewN (below_alloc (Below.refl _ _) _) _) hb1); have HX1 := Aside0.mk (show w1.cell? ⟨w.heap.size, 0, none⟩ = some (.int .u32 a0) from (hb1.cell (p := ⟨w.heap.size, 0, none⟩) (by simp)).trans (by simp)); have HS1 := Aside0.mk (show w.heap.size < ((w.alloc (.cells #[.int .u32 a0] 22)).drewN nd).heap.size by simp); clear ho1 hb1) | (go_at_call 11; refine (stuff_Unstuff.del a0 w.heap.size l1 v1 w1 _ HBY.out (Kd.R_mono HO1.out (fun _ _ => trivial)) HS1.out HX1.out).mono ?_; rintro e w2 ⟨A2, c2, rfl, hl2, hC2, hb2⟩; have HB2 := Aside0.mk (show Below w.heap.size w w2 from below_weaken HB1.out (Nat.le_of_lt HS1.out) hb2); have HC2 := Aside0.mk hC2; have HL2 := Aside0.mk hl2; clear hl2 hC2 hb2))
      clear HO1 HX1 HS1 HB1 HI HR1 HC1 HBY HCL d0
      have HFL : Aside0 ((l1.filter fun x => !stuff_Unstuff.has a0 x).length < 140737488355328) := ⟨Nat.lt_of_le_of_lt (List.length_filter_le _ _) HLIM.out⟩
      generalize (l1.filter fun x => !stuff_Unstuff.has a0 x) = x0 at HH HC2 HL2 HFL ⊢
      clear HLIM
      go_loopg [6, 7] k (fun kq v6 v7 w' => ∃ (A : Option Addr) (c : Nat) (x o : List Int), v6 = .slice A x.length c ∧ Aside0 (stuff_Unstuff.l0 kq x o = some (r1, r2)) ∧ Aside0 (kq ≤ k) ∧ Aside0 (Kd.C (Kd.int .u8) w2 A x.length x ∧ x.length ≤ c) ∧ Aside0 (Kd.R (Kd.int .u8) 5 w' w2.heap.size (fun _ => True) v7 o) ∧ Aside0 (Below w2.heap.size w2 w'))
      case atStart => exact ⟨A2, c2, x0, [], rfl, HH, ⟨Nat.le_refl _⟩, ⟨HC2.out, HL2.out⟩, ⟨Kd.R_nil _ _ _ _ _⟩, ⟨Below.refl _ _⟩⟩
      case round =>
        clear HH HC2 HL2 HFL
        obtain ⟨A, c, x, o, rfl, HA, HK1, HX, HO, HB⟩ := hrel
        cases gk with
        | zero => exact absurd HA.out (by simp [stuff_Unstuff.l0])
        | succ k1 =>
          have H := HA.out
          clear HA
          simp only [stuff_Unstuff.l0] at H
          obtain ⟨t, ht0, H⟩ := Option.bind_eq_some_iff.mp H
          obtain ⟨hb1, hb2⟩ := stuff_Unstuff.idx_bd ht0
          have hxl : x.length ≤ 9223372036854775807 := HX.out.1.2.1
          have HT := Aside0.mk ht0
          clear ht0
          by_cases q1 : t < 0
          · rw [if_pos q1] at H
            by_cases hl : o.length + x.length < 140737488355328
            · rw [if_pos hl] at H
              simp only [Option.some.injEq, Prod.mk.injEq] at H
              obtain ⟨rfl, rfl⟩ := H
              have d0 : decide (t < 0) = true := decide_eq_true q1
              have HL := Aside0.mk hl
              clear hl q1
              go_wp2_with (first | (go_at_call 10; refine (bytes_IndexByte.calls A c x 125 t _ (Kd.C_below HX.out.1 HB.out) HX.out.2 HT.out).mono ?_; rintro e w5 ⟨rfl, hd⟩; have n0_ := Aside0.mk (Kd.R_below HO.out hd.below); have n1_ := Aside0.mk (below_step HB.out hd.below); clear HO HB hd; have HO := n0_; have HB := n1_; clear n0_ n1_) | ((with_reducible refine gate_builtin (b := .append) (xs := #[.tmp 21, .tmp 22]) rfl ?_); at_builtin; refine Kd.R_append_rows (Kd.int .u8) (w0 := w2) w2.heap.size rfl (.tmp 21) (.tmp 22) 23 5 (.int .u8 0) 1 rfl Tryd.underlying23 info5 rfl (by decide) (by omega) u7 o x _ _ _ (fun _ => True) (fun _ => False) rfl rfl HO.out (Kd.C_below HX.out.1 HB.out) (fun _ _ h => h) (fun _ h => h.elim) (fun _ _ => trivial) HB.out (below_size HB.out) (by have := HL.out; omega) ?_; intro v9 w6 ho hb hg hat; have HO9 := Aside0.mk ho; have HB9 := Aside0.mk hb; clear ho hb hg hat))
              go_ret2
              exact ⟨_, rfl, Kd.R_lower HO9.out (below_size HB2.out), below_step HB2.out HB9.out⟩
            · rw [if_neg hl] at H
              cases H
          · rw [if_neg q1] at H
            have d0 : decide (t < 0) = false := decide_eq_false q1
            have ht : 0 ≤ t := by omega
            clear q1
            by_cases q2 : t + 1 = (x.length : Int)
            · rw [if_pos q2] at H
              simp only [Option.some.injEq, Prod.mk.injEq] at H
              obtain ⟨rfl, rfl⟩ := H
              have d1 : (t + 1 == (x.length : Int)) = true := by simpa using q2
              clear q2
              go_wp2_with (first | (go_at_call 10; refine (bytes_IndexByte.calls A c x 125 t _ (Kd.C_below HX.out.1 HB.out) HX.out.2 HT.out).mono ?_; rintro e w5 ⟨rfl, hd⟩; have n0_ := Aside0.mk (Kd.R_below HO.out hd.below); have n1_ := Aside0.mk (below_step HB.out hd.below); clear HO HB hd; have HO := n0_; have HB := n1_; clear n0_ n1_))
              go_ret2
              exact ⟨_, rfl, Kd.R_nil _ _ _ _ _, below_step HB2.out HB.out⟩
            · rw [if_neg q2] at H
              by_cases hl : o.length + x.length < 140737488355328
              · rw [if_pos hl] at H
                have H' := Aside0.mk H
                clear H
                have HL1 := Aside0.mk hl
                clear hl
                have d1 : (t + 1 == (x.length : Int)) = false := by simpa using q2
                have ht2 : t + 1 < (x.length : Int) := by omega
                clear q2
                obtain ⟨ad, eA, hcell2⟩ := Kd.at_int HX.out.1 (t + 1) (by omega) ht2
                subst eA
                have HTK := Aside0.mk (show Kd.C (Kd.int .u8) w2 (some ad) t.toNat (x.take t.toNat) from by
                  have h3 := Kd.C_take HX.out.1 (m := t.toNat) (by omega)
                  rw [List.length_take, Nat.min_eq_left (by omega)] at h3
                  exact h3)
                have hw1 : wrap64 (t + 1) = t + 1 := by unfold wrap64; omega
                have hcell2 : w2.cell? (ad.add (wrap64 (t + 1)).toNat) = some (.int .u8 (rd x (t + 1))) := by rw [hw1]; exact hcell2
                have HE2 := Aside0.mk hcell2
                have HW1 := Aside0.mk hw1
                clear hw1
                clear hcell2
                go_wp2_with (first | (go_at_call 10; refine (bytes_IndexByte.calls (some ad) c x 125 t _ (Kd.C_below HX.out.1 HB.out) HX.out.2 HT.out).mono ?_; rintro e w5 ⟨rfl, hd⟩; have n0_ := Aside0.mk (Kd.R_below HO.out hd.below); have n1_ := Aside0.mk (below_step HB.out hd.below); clear HO HB hd; have HO := n0_; have HB := n1_; clear n0_ n1_))
                have n0_ := Aside0.mk (Kd.R_drew HO.out)
                have n1_ := Aside0.mk (below_drew HB.out)
                clear HO HB
                have HO := n0_
                have HB := n1_
                clear n0_ n1_
                have hcell2 := HE2.out
                have hcellB : w5.drew.cell? (ad.add (wrap64 (t + 1)).toNat) = some (.int .u8 (rd x (t + 1))) := ((HB.out.cell (World.block_lt_of_cell? w2 _ hcell2)).trans hcell2)
                obtain ⟨i0, hi0, _, hsz0, _⟩ := info_parts info5
                have hroom : x.length ≤ c := HX.out.2
                have hcut1 := cut_to (P := Tryd.prog) 23 5 .i64 Tryd.underlying23 hi0 (some ad) x.length c t ht (by omega) hroom
                have hcut2 := cut_from (P := Tryd.prog) 23 5 .i64 Tryd.underlying23 hi0 1 hsz0 (some ad) x.length c (t + 2) (by omega) (by omega)
                have hd2 := Kd.C_drop (m := (t + 2).toNat) (c := c) HX.out.1 (by omega) hroom
                obtain ⟨A9, hA9⟩ : ∃ A1, A1 = (if c = (t + 2).toNat then (some ad) else ((some ad) : Option Addr).map (·.add ((t + 2).toNat * 1))) := ⟨_, rfl⟩
                obtain ⟨c9, hc9⟩ : ∃ c1, c1 = c - (t + 2).toNat := ⟨_, rfl⟩
                have hy9 : (x.drop (t + 2).toNat).length = x.length - (t + 2).toNat := List.length_drop
                rw [← hy9, ← hA9, ← hc9] at hcut2
                have HD9 := Aside0.mk (show Kd.C (Kd.int .u8) w2 A9 (x.drop (t + 2).toNat).length (x.drop (t + 2).toNat) ∧ (x.drop (t + 2).toNat).length ≤ c9 from ⟨by rw [hA9]; exact hd2, by rw [hy9, hc9]; omega⟩)
                clear hd2 hroom hi0 hsz0 hA9 hc9 hy9 HX
                have ht1 : (0 ≤ wrap64 (t + 1)) = True := eq_true (by rw [HW1.out]; omega)
                have ht3 : (wrap64 (t + 1) < (x.length : Int)) = True := eq_true (by rw [HW1.out]; exact ht2)
                refine start_ (n := 14) (S := fun w' => w'.cell? (ad.add (wrap64 (t + 1)).toNat) = some (.int .u8 (rd x (t + 1)))) (ds := []) #[false, false, false, false, false, false, false, false, false, false, false, false, false, false] (by kernel_rfl) rfl rfl (hcellB) (fun hHeld => ?_)
                generalize w5.drew = w50 at HO HB hHeld ⊢
                refine pure_ (i := 0) (N := some 30) (v := ?_) (a' := ?_) #[true, false, false, false, false, false, false, false, false, false, false, false, false, false] rfl rfl (by kernel_rfl) (fun _ _ _ h => h) (Or.inl ⟨by rfl, ?_⟩) ?_ ?_
                rotate_left
                · intro w'
                  go_simp
                  with_reducible rfl
                rotate_left
                · simp only [Act.put, List.setIfInBounds_toArray, List.set_cons_zero, List.set_cons_succ, i64_w, i32_w]
                  rfl
                refine pure_ (i := 1) (N := some 31) (v := ?_) (a' := ?_) #[true, true, false, false, false, false, false, false, false, false, false, false, false, false] rfl rfl (by kernel_rfl) (fun _ _ _ h => h) (Or.inl ⟨by rfl, ?_⟩) ?_ ?_
                rotate_left
                · intro w'
                  go_simp
                  with_reducible rfl
                rotate_left
                · simp only [Act.put, List.setIfInBounds_toArray, List.set_cons_zero, List.set_cons_succ, i64_w, i32_w]
                  rfl
                refine pure_ (i := 2) (N := some 32) (v := ?_) (a' := ?_) #[true, true, true, false, false, false, false, false, false, false, false, false, false, false] rfl rfl (by kernel_rfl) (fun _ _ _ h => h) (Or.inl ⟨by rfl, ?_⟩) ?_ ?_
                rotate_left
                · intro w'
                  go_simp
                  with_reducible rfl
                rotate_left
                · simp only [Act.put, List.setIfInBounds_toArray, List.set_cons_zero, List.set_cons_succ, i64_w, i32_w]
                  rfl
                refine pure_ (i := 3) (N := some 33) (v := ?_) (a' := ?_) #[true, true, true, true, false, false, false, false, false, false, false, false, false, false] rfl rfl (by kernel_rfl) (fun _ _ _ h => h) (Or.inl ⟨by rfl, ?_⟩) ?_ ?_
                rotate_left
                · intro w'
                  go_simp
                  with_reducible rfl
                rotate_left
                · simp only [Act.put, List.setIfInBounds_toArray, List.set_cons_zero, List.set_cons_succ, i64_w, i32_w]
                  rfl
                refine pure_ (i := 5) (N := some 35) (v := ?_) (a' := ?_) #[true, true, true, true, false, true, false, false, false, false, false, false, false, false] rfl rfl (by kernel_rfl) (fun _ _ _ h => h) (Or.inl ⟨by rfl, ?_⟩) ?_ ?_
                rotate_left
                · intro w'
                  go_simp
                  with_reducible rfl
                rotate_left
                · simp only [Act.put, List.setIfInBounds_toArray, List.set_cons_zero, List.set_cons_succ, i64_w, i32_w]
                  rfl
                refine pure_ (i := 6) (N := some 36) (v := ?_) (a' := ?_) #[true, true, true, true, false, true, true, false, false, false, false, false, false, false] rfl rfl (by kernel_rfl) (fun _ _ _ h => h) (Or.inl ⟨by rfl, ?_⟩) ?_ ?_
                rotate_left
                · intro w'
                  go_simp
                  with_reducible rfl
                rotate_left
                · simp only [Act.put, List.setIfInBounds_toArray, List.set_cons_zero, List.set_cons_succ, i64_w, i32_w]
                  rfl
                refine pure_ (i := 7) (N := some 37) (v := ?_) (a' := ?_) #[true, true, true, true, false, true, true, true, false, false, false, false, false, false] rfl rfl (by kernel_rfl) (fun _ _ _ h => h) (Or.inl ⟨by rfl, ?_⟩) ?_ ?_
                rotate_left
                · intro w'
                  go_simp
                  with_reducible rfl
                rotate_left
                · simp only [Act.put, List.setIfInBounds_toArray, List.set_cons_zero, List.set_cons_succ, i64_w, i32_w]
                  rfl
                refine pure_ (i := 8) (N := some 38) (v := ?_) (a' := ?_) #[true, true, true, true, false, true, true, true, true, false, false, false, false, false] rfl rfl (by kernel_rfl) (fun _ _ _ h => h) (Or.inl ⟨by rfl, ?_⟩) ?_ ?_
                rotate_left
                · intro w'
                  go_simp
                  with_reducible rfl
                rotate_left
                · simp only [Act.put, List.setIfInBounds_toArray, List.set_cons_zero, List.set_cons_succ, i64_w, i32_w]
                  rfl
                refine take_ (i := 9) (N := some 39) (v := ?_) (a' := ?_) #[true, true, true, true, false, true, true, true, true, true, false, false, false, false] rfl rfl (by kernel_rfl) (fun _ _ _ h => h) (Or.inl ⟨by rfl, ?_⟩) hHeld ?_ ?_
                rotate_left
                · intro w' s0
                  go_simp
                  with_reducible rfl
                rotate_left
                · simp only [Act.put, List.setIfInBounds_toArray, List.set_cons_zero, List.set_cons_succ, i64_w, i32_w]
                  rfl
                refine pure_ (i := 10) (N := some 40) (v := ?_) (a' := ?_) #[true, true, true, true, false, true, true, true, true, true, true, false, false, false] rfl rfl (by kernel_rfl) (fun _ _ _ h => h) (Or.inl ⟨by rfl, ?_⟩) ?_ ?_
                rotate_left
                · intro w'
                  go_simp
                  with_reducible rfl
                rotate_left
                · simp only [Act.put, List.setIfInBounds_toArray, List.set_cons_zero, List.set_cons_succ, i64_w, i32_w]
                  rfl
                refine join_ (σ := Value × Value) 2 #[true, true, true, true, true, true, true, true, true, true, true, true, false, false] (fun s_ => [(34, s_.1), (41, s_.2)]) (fun s_ w' => (w'.cell? (ad.add (wrap64 (t + 1)).toNat) = some (.int .u8 (rd x (t + 1)))) ∧ Kd.R (Kd.int .u8) 5 w' w2.heap.size (fun _ => True) s_.1 (o ++ x.take t.toNat) ∧ Kd.R (Kd.int .u8) 5 w' w2.heap.size (fun _ => True) s_.2 [Go.bits .xor .u8 (rd x (t + 1)) 32] ∧ Below w2.heap.size w2 w') ?_ ?_
                rotate_left
                · intro hCont
                  refine two_ (i := 4) (j := 11) (Ni := some 34) (Nj := some 41) #[true, true, true, true, true, true, true, true, true, true, true, false, false, false] #[true, true, true, true, false, true, true, true, true, true, true, true, false, false] rfl rfl rfl rfl (by kernel_rfl) (by decide) (by decide) (fun K hK => ?_) (fun K hK => ?_)
                  · skip
                    refine Kd.R_append_rows_step (Kd.int .u8) (w0 := w2) w2.heap.size (by rfl) (.tmp 30) (.tmp 33) 23 5 (.int .u8 0) 1 rfl Tryd.underlying23 info5 rfl (by decide) (by omega) u7 o (x.take t.toNat) _ _ _ (fun _ => True) (fun _ => False) rfl rfl ?aO ?aR (fun _ _ h => h) (fun _ h => h.elim) (fun _ _ => trivial) ?aB ?aS ?aL ?_
                    (case aR => first | exact Kd.C_below HTK.out HB.out | exact Kd.C_drew (Kd.C_below HTK.out HB.out))
                    (case aB => exact HB.out)
                    (case aO => exact Kd.R_mono HO.out (fun _ _ => trivial))
                    (case aS => exact (below_size HB.out))
                    (case aL => have := HL1.out; first | omega | (simp only [List.length_take]; omega))
                    intro v9 w5 ho hb hg hat
                    have n0_ := Aside0.mk (ho)
                    have n1_ := Aside0.mk (hb)
                    clear HO HB
                    have HO := n0_
                    have HB := n1_
                    clear n0_ n1_
                    clear ho hb hg hat
                    refine hK.out _ _ (((HB.out.cell (World.block_lt_of_cell? w2 _ hcell2)).trans hcell2)) (fun hHeld => ?_)
                    clear hK K
                    refine norm_ (a' := ?_) ?_ ?_
                    rotate_left
                    · show Act.put _ (some 34) _ = _
                      simp only [Act.put, List.setIfInBounds_toArray, List.set_cons_zero, List.set_cons_succ, i64_w, i32_w]
                      rfl
                    refine one_ (i := 11) (N := some 41) #[true, true, true, true, true, true, true, true, true, true, true, true, false, false] rfl rfl (by kernel_rfl) (by decide) (fun K hK => ?_)
                    refine Kd.R_lit_step (Kd.int .u8) _ 5 ?hg (N := 41) ?hd (xs := ([Go.bits .xor .u8 (rd x (t + 1)) 32] : List Int)) (inner := [.int .u8 (Go.bits .xor .u8 (rd x (t + 1)) 32)]) (ok := fun _ => True) (okp := fun _ => True) ?hr ?hp (fun _ hk => hk) trivial (Below.refl _ _) (Nat.le_refl _) (by simp) ?_; (case hd => rfl); (case hg => rfl); (case hr => first | (go_simp; done) | (go_simp; rfl)); (case hp => exact (Reps.one (show Kd.M (Kd.int .u8) _ _ _ (Go.bits .xor .u8 (rd x (t + 1)) 32) [.int .u8 (Go.bits .xor .u8 (rd x (t + 1)) 32)] from rfl) (Reps.none _ _)))
                    intro v10 w6 ho hb hg_ hnew_
                    have n0_ := Aside0.mk (Kd.R_below HO.out hb)
                    have n1_ := Aside0.mk (Kd.R_lower ho (below_size HB.out))
                    have n2_ := Aside0.mk (below_step HB.out hb)
                    clear HO HB
                    have HO := n0_
                    have HN := n1_
                    have HB := n2_
                    clear n0_ n1_ n2_
                    clear ho hb hg_ hnew_
                    refine hK.out _ _ (((HB.out.cell (World.block_lt_of_cell? w2 _ hcell2)).trans hcell2)) (fun hHeld => ?_)
                    clear hK K
                    refine norm_ (a' := ?_) ?_ ?_
                    rotate_left
                    · show Act.put _ (some 41) _ = _
                      simp only [Act.put, List.setIfInBounds_toArray, List.set_cons_zero, List.set_cons_succ, i64_w, i32_w]
                      rfl
                    exact norm_ (by simp only [putAll, Act.put, List.setIfInBounds_toArray, List.set_cons_zero, List.set_cons_succ]) (hCont (v9, v10) _ ⟨hHeld, Kd.R_mono HO.out (fun _ _ => trivial), Kd.R_mono HN.out (fun _ _ => trivial), HB.out⟩)
                  · skip
                    refine Kd.R_lit_step (Kd.int .u8) _ 5 ?hg (N := 41) ?hd (xs := ([Go.bits .xor .u8 (rd x (t + 1)) 32] : List Int)) (inner := [.int .u8 (Go.bits .xor .u8 (rd x (t + 1)) 32)]) (ok := fun _ => True) (okp := fun _ => True) ?hr ?hp (fun _ hk => hk) trivial (Below.refl _ _) (Nat.le_refl _) (by simp) ?_; (case hd => rfl); (case hg => rfl); (case hr => first | (go_simp; done) | (go_simp; rfl)); (case hp => exact (Reps.one (show Kd.M (Kd.int .u8) _ _ _ (Go.bits .xor .u8 (rd x (t + 1)) 32) [.int .u8 (Go.bits .xor .u8 (rd x (t + 1)) 32)] from rfl) (Reps.none _ _)))
                    intro v10 w6 ho hb hg_ hnew_
                    have n0_ := Aside0.mk (Kd.R_lower (Kd.R_new' ho (Kd.R_lt HO.out)) (below_size HB.out))
                    have n1_ := Aside0.mk (Kd.R_below HO.out hb)
                    have n2_ := Aside0.mk (below_step HB.out hb)
                    clear HO HB
                    have HN := n0_
                    have HO := n1_
                    have HB := n2_
                    clear n0_ n1_ n2_
                    clear ho hb hg_ hnew_
                    refine hK.out _ _ (((HB.out.cell (World.block_lt_of_cell? w2 _ hcell2)).trans hcell2)) (fun hHeld => ?_)
                    clear hK K
                    refine norm_ (a' := ?_) ?_ ?_
                    rotate_left
                    · show Act.put _ (some 41) _ = _
                      simp only [Act.put, List.setIfInBounds_toArray, List.set_cons_zero, List.set_cons_succ, i64_w, i32_w]
                      rfl
                    refine one_ (i := 4) (N := some 34) #[true, true, true, true, true, true, true, true, true, true, true, true, false, false] rfl rfl (by kernel_rfl) (by decide) (fun K hK => ?_)
                    refine Kd.R_append_rows_step (Kd.int .u8) (w0 := w2) w2.heap.size (by rfl) (.tmp 30) (.tmp 33) 23 5 (.int .u8 0) 1 rfl Tryd.underlying23 info5 rfl (by decide) (by omega) u7 o (x.take t.toNat) _ _ _ (fun _ => True) (fun _ => False) rfl rfl ?aO ?aR (fun _ _ h => h) (fun _ h => h.elim) (fun _ _ => trivial) ?aB ?aS ?aL ?_
                    (case aR => first | exact Kd.C_below HTK.out HB.out | exact Kd.C_drew (Kd.C_below HTK.out HB.out))
                    (case aB => exact HB.out)
                    (case aO => exact Kd.R_mono HO.out (fun _ _ => trivial))
                    (case aS => exact (below_size HB.out))
                    (case aL => have := HL1.out; first | omega | (simp only [List.length_take]; omega))
                    intro v9 w5 ho hb hg hat
                    have n0_ := Aside0.mk (Kd.R_after (ok := (fun _ => True)) HN.out hg hat)
                    have n1_ := Aside0.mk hb
                    have n2_ := Aside0.mk ho
                    clear HN HB HO
                    have HN := n0_
                    have HB := n1_
                    have HO := n2_
                    clear n0_ n1_ n2_
                    clear ho hb hg hat
                    refine hK.out _ _ (((HB.out.cell (World.block_lt_of_cell? w2 _ hcell2)).trans hcell2)) (fun hHeld => ?_)
                    clear hK K
                    refine norm_ (a' := ?_) ?_ ?_
                    rotate_left
                    · show Act.put _ (some 34) _ = _
                      simp only [Act.put, List.setIfInBounds_toArray, List.set_cons_zero, List.set_cons_succ, i64_w, i32_w]
                      rfl
                    exact norm_ (by simp only [putAll, Act.put, List.setIfInBounds_toArray, List.set_cons_zero, List.set_cons_succ]) (hCont (v9, v10) _ ⟨hHeld, Kd.R_mono HO.out (fun _ _ => trivial), Kd.R_mono HN.out (fun _ _ => trivial), HB.out⟩)
                rintro ⟨v9, v10⟩ w7 ⟨hS_, h0_, h1_, h2_⟩
                have n0_ : Aside0 _ := ⟨h0_⟩
                have n1_ : Aside0 _ := ⟨h1_⟩
                have n2_ : Aside0 _ := ⟨h2_⟩
                clear HO HB h0_ h1_ h2_
                have HO := n0_
                have HN := n1_
                have HB := n2_
                clear n0_ n1_ n2_
                have hHeld : w7.cell? (ad.add (wrap64 (t + 1)).toNat) = some (.int .u8 (rd x (t + 1))) := hS_
                obtain ⟨A10, c10, e10⟩ := Kd.R_slice HN.out
                subst e10
                refine norm_ (a' := ?_) ?_ ?_
                rotate_left
                · simp only [putAll, Act.put, List.setIfInBounds_toArray, List.set_cons_zero, List.set_cons_succ]
                  rfl
                refine one_ (i := 12) (N := some 42) #[true, true, true, true, true, true, true, true, true, true, true, true, true, false] rfl rfl (by kernel_rfl) (by decide) (fun K hK => ?_)
                refine Kd.R_append_rows_step (Kd.int .u8) (w0 := w2) w2.heap.size (by rfl) (.tmp 34) (.tmp 41) 23 5 (.int .u8 0) 1 rfl Tryd.underlying23 info5 rfl (by decide) (by omega) v9 (o ++ x.take t.toNat) [Go.bits .xor .u8 (rd x (t + 1)) 32] _ _ _ (fun _ => True) (fun _ => False) rfl rfl ?aO ?aR (fun _ _ h => h) (fun _ h => h.elim) (fun _ _ => trivial) ?aB ?aS ?aL ?_
                (case aR => exact (Kd.R_reads' HN.out).2.2)
                (case aB => exact HB.out)
                (case aO => exact Kd.R_mono HO.out (fun _ _ => trivial))
                (case aS => exact (below_size HB.out))
                (case aL => have := HL1.out; simp only [List.length_append, List.length_take, List.length_cons, List.length_nil]; omega)
                intro v11 w8 ho hb hg hat
                have n0_ := Aside0.mk ho
                have n1_ := Aside0.mk hb
                clear HO HB HN
                have HO := n0_
                have HB := n1_
                clear n0_ n1_
                clear ho hb hg hat
                refine hK.out _ _ (((HB.out.cell (World.block_lt_of_cell? w2 _ hcell2)).trans hcell2)) (fun hHeld => ?_)
                clear hK K
                refine norm_ (a' := ?_) ?_ ?_
                rotate_left
                · show Act.put _ (some 42) _ = _
                  simp only [Act.put, List.setIfInBounds_toArray, List.set_cons_zero, List.set_cons_succ, i64_w, i32_w]
                  rfl
                refine pure_ (i := 13) (N := some 7) (v := ?_) (a' := ?_) #[true, true, true, true, true, true, true, true, true, true, true, true, true, true] rfl rfl (by kernel_rfl) (fun _ _ _ h => h) (Or.inl ⟨by rfl, ?_⟩) ?_ ?_
                rotate_left
                · intro w'
                  go_simp
                  with_reducible rfl
                rotate_left
                · simp only [Act.put, List.setIfInBounds_toArray, List.set_cons_zero, List.set_cons_succ, i64_w, i32_w]
                  rfl
                refine done_ (by kernel_rfl) ?_
                go_wp2
                go_roundg k1
                case measure => have := HK1.out; omega
                case rel => exact ⟨A9, c9, x.drop (t + 2).toNat, (o ++ x.take t.toNat) ++ [Go.bits .xor .u8 (rd x (t + 1)) 32], by rw [List.length_drop], H', ⟨by have := HK1.out; omega⟩, HD9, HO, HB⟩
              · rw [if_neg hl] at H
                cases H
  · rw [if_neg hg] at h
    cases h


end Go.Proofs.YtppfoopecdmblaaDoor.Print
