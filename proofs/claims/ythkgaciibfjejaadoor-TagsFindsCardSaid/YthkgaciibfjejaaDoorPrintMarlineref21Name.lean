/- A text that a program of this claim (wip/x) laid out of the translation: what Go functions come to, and that they come to it. Lean checks it. -/
import Derived.Test.YthkgaciibfjejaaDoorPrint0
namespace Go.Proofs.YthkgaciibfjejaaDoor.Print
open Go.RowKit Go.Proofs.YthkgaciibfjejaaDoorW.PrintWords Go.Proofs.YthkgaciibfjejaaDoorW.PrintLast Go.Proofs.YthkgaciibfjejaaDoorW.PrintMore
attribute [local go_sem] max2_int min2_int max_two min_two max_three min_three max_four min_four   -- for this text's walks alone
set_option linter.unusedVariables false
set_option linter.unusedSimpArgs false

/-! ### marlineref21_Name: function 19 -/
def marlineref21_Name.l0 : Nat → Int → List Int → List ByteArray → Int → Option (ByteArray)
  | 0, _, _, _, _ => none
  | k + 1, x0, x3, x4, x5 => if x5 < 9 then (if 0 ≤ x5 then (if x5 < (x3.length : Int) then (if (rd x3 x5) = x0 then (if x5 < (x4.length : Int) then (some (rdOf ByteArray.empty x4 x5)) else (none)) else (marlineref21_Name.l0 k x0 x3 x4 (wrap64 (x5 + 1)))) else (none)) else (none)) else (some (⟨#[]⟩ : ByteArray))
def marlineref21_Name.f (k : Nat) (a0 : Int) : Option (ByteArray) := marlineref21_Name.l0 k a0 (([257, 258, 259, 260, 261, 272, 513, 514, 515] : List Int)) (([(⟨#[115, 101, 114, 118, 105, 99, 101]⟩ : ByteArray), (⟨#[110, 97, 109, 101]⟩ : ByteArray), (⟨#[117, 110, 105, 113, 117, 101]⟩ : ByteArray), (⟨#[99, 111, 111, 107, 105, 101]⟩ : ByteArray), (⟨#[118, 101, 110, 100, 111, 114]⟩ : ByteArray), (⟨#[114, 101, 108, 97, 121]⟩ : ByteArray), (⟨#[110, 111, 45, 115, 101, 114, 118, 105, 99, 101]⟩ : ByteArray), (⟨#[110, 111, 45, 115, 121, 115, 116, 101, 109]⟩ : ByteArray), (⟨#[101, 114, 114, 111, 114]⟩ : ByteArray)] : List ByteArray)) 0
theorem marlineref21_Name.mono_l : ∀ k, (∀ y0 y1 y2 y3, LeO (marlineref21_Name.l0 k y0 y1 y2 y3) (marlineref21_Name.l0 (k + 1) y0 y1 y2 y3))
  | 0 => fun _ _ _ _ r h => by simp [marlineref21_Name.l0] at h
  | k + 1 => by
    have ih0 := marlineref21_Name.mono_l k
    · intro y0 y1 y2 y3
      unfold marlineref21_Name.l0
      repeat' first
      | (with_reducible exact ih0 _ _ _ _)
      | (with_reducible exact LeO.refl _)
      | (with_reducible exact LeO.none _)
      | (with_reducible refine LeO.ite ?_ ?_)
      | (with_reducible refine LeO.bind ?_ (fun _ => ?_))
      | exact ih0 _ _ _ _
      | exact LeO.none _
      | refine LeO.ite ?_ ?_
      | refine LeO.bind ?_ (fun _ => ?_)
theorem marlineref21_Name.mono : ∀ a0 k, LeO (marlineref21_Name.f k a0) (marlineref21_Name.f (k + 1) a0) := by
  intro a0 k
  have ih0 := marlineref21_Name.mono_l k
  unfold marlineref21_Name.f
  repeat' first
      | (with_reducible exact ih0 _ _ _ _)
      | (with_reducible exact LeO.refl _)
      | (with_reducible exact LeO.none _)
      | (with_reducible refine LeO.ite ?_ ?_)
      | (with_reducible refine LeO.bind ?_ (fun _ => ?_))
      | exact ih0 _ _ _ _
      | exact LeO.none _
      | refine LeO.ite ?_ ?_
      | refine LeO.bind ?_ (fun _ => ?_)
set_option maxHeartbeats 8000000 in
set_option maxRecDepth 100000 in
theorem marlineref21_Name.calls (k : Nat) (a0 : Int) (r : ByteArray) (w : World) (h : marlineref21_Name.f k a0 = some r) :
    Calls Tryd.prog 19 #[.int .i64 a0] w fun e w' => e = .returned (.string r) ∧ Below w.heap.size w w' := by
  have HB := Aside0.mk (Below.refl w.heap.size w)
  have H : (marlineref21_Name.l0 k a0 (([257, 258, 259, 260, 261, 272, 513, 514, 515] : List Int)) (([(⟨#[115, 101, 114, 118, 105, 99, 101]⟩ : ByteArray), (⟨#[110, 97, 109, 101]⟩ : ByteArray), (⟨#[117, 110, 105, 113, 117, 101]⟩ : ByteArray), (⟨#[99, 111, 111, 107, 105, 101]⟩ : ByteArray), (⟨#[118, 101, 110, 100, 111, 114]⟩ : ByteArray), (⟨#[114, 101, 108, 97, 121]⟩ : ByteArray), (⟨#[110, 111, 45, 115, 101, 114, 118, 105, 99, 101]⟩ : ByteArray), (⟨#[110, 111, 45, 115, 121, 115, 116, 101, 109]⟩ : ByteArray), (⟨#[101, 114, 114, 111, 114]⟩ : ByteArray)] : List ByteArray)) 0) = some r := h
  clear h
  obtain ⟨y221, hy221⟩ : ∃ y_ : List Int, y_ = (([257, 258, 259, 260, 261, 272, 513, 514, 515] : List Int)) := ⟨_, rfl⟩
  replace H : (marlineref21_Name.l0 k a0 y221 (([(⟨#[115, 101, 114, 118, 105, 99, 101]⟩ : ByteArray), (⟨#[110, 97, 109, 101]⟩ : ByteArray), (⟨#[117, 110, 105, 113, 117, 101]⟩ : ByteArray), (⟨#[99, 111, 111, 107, 105, 101]⟩ : ByteArray), (⟨#[118, 101, 110, 100, 111, 114]⟩ : ByteArray), (⟨#[114, 101, 108, 97, 121]⟩ : ByteArray), (⟨#[110, 111, 45, 115, 101, 114, 118, 105, 99, 101]⟩ : ByteArray), (⟨#[110, 111, 45, 115, 121, 115, 116, 101, 109]⟩ : ByteArray), (⟨#[101, 114, 114, 111, 114]⟩ : ByteArray)] : List ByteArray)) 0) = some r := by first | (rw [hy221]; with_reducible exact H) | (have H2_ := (Option.bind_some _ _).symm.trans H; rw [hy221]; with_reducible exact H2_) | (have H2_ := (Option.bind_some _ _).symm.trans H; with_reducible exact H2_) | with_reducible exact H | (rw [hy221]; exact H) | exact H
  have Ny221 := Aside0.mk hy221
  clear hy221
  obtain ⟨y224, hy224⟩ : ∃ y_ : List ByteArray, y_ = (([(⟨#[115, 101, 114, 118, 105, 99, 101]⟩ : ByteArray), (⟨#[110, 97, 109, 101]⟩ : ByteArray), (⟨#[117, 110, 105, 113, 117, 101]⟩ : ByteArray), (⟨#[99, 111, 111, 107, 105, 101]⟩ : ByteArray), (⟨#[118, 101, 110, 100, 111, 114]⟩ : ByteArray), (⟨#[114, 101, 108, 97, 121]⟩ : ByteArray), (⟨#[110, 111, 45, 115, 101, 114, 118, 105, 99, 101]⟩ : ByteArray), (⟨#[110, 111, 45, 115, 121, 115, 116, 101, 109]⟩ : ByteArray), (⟨#[101, 114, 114, 111, 114]⟩ : ByteArray)] : List ByteArray)) := ⟨_, rfl⟩
  replace H : (marlineref21_Name.l0 k a0 y221 y224 0) = some r := by first | (rw [hy224]; with_reducible exact H) | (have H2_ := (Option.bind_some _ _).symm.trans H; rw [hy224]; with_reducible exact H2_) | (have H2_ := (Option.bind_some _ _).symm.trans H; with_reducible exact H2_) | with_reducible exact H | (rw [hy224]; exact H) | exact H
  have Ny224 := Aside0.mk hy224
  clear hy224
  have H' := Aside0.mk H
  clear H
  go_enter Tryd.func19, Tryd.ntmps19
  go_wp2_with (first | ((with_reducible refine gate_dst (N := 6) rfl ?_); refine Kd.R_lit (Kd.int .i64) _ 3 ?hg (N := 6) ?hd (xs := ([257, 258, 259, 260, 261, 272, 513, 514, 515] : List Int)) (inner := [.int .i64 257, .int .i64 258, .int .i64 259, .int .i64 260, .int .i64 261, .int .i64 272, .int .i64 513, .int .i64 514, .int .i64 515]) (ok := fun _ => True) (okp := fun _ => True) ?hr ?hp (fun _ hk => hk) trivial (Below.refl _ _) (Nat.le_refl _) (by simp) ?_; (case hd => rfl); (case hg => rfl); (case hr => first | (go_simp; done) | (go_simp; simp only [IntKind.wrap_u8, IntKind.wrap_u16, IntKind.wrap_u32, IntKind.wrap_u64]; done) | (go_simp; simp only [IntKind.wrap_u8, IntKind.wrap_u16, IntKind.wrap_u32, IntKind.wrap_u64, Int.tmod_eq_emod_of_nonneg (Int.natCast_nonneg _), Int.emod_emod]; done) | (go_simp; rfl)); (case hp => exact (Reps.one (show Kd.M (Kd.int .i64) _ _ _ 257 [.int .i64 257] from rfl) (Reps.one (show Kd.M (Kd.int .i64) _ _ _ 258 [.int .i64 258] from rfl) (Reps.one (show Kd.M (Kd.int .i64) _ _ _ 259 [.int .i64 259] from rfl) (Reps.one (show Kd.M (Kd.int .i64) _ _ _ 260 [.int .i64 260] from rfl) (Reps.one (show Kd.M (Kd.int .i64) _ _ _ 261 [.int .i64 261] from rfl) (Reps.one (show Kd.M (Kd.int .i64) _ _ _ 272 [.int .i64 272] from rfl) (Reps.one (show Kd.M (Kd.int .i64) _ _ _ 513 [.int .i64 513] from rfl) (Reps.one (show Kd.M (Kd.int .i64) _ _ _ 514 [.int .i64 514] from rfl) (Reps.one (show Kd.M (Kd.int .i64) _ _ _ 515 [.int .i64 515] from rfl) (Reps.none _ _))))))))))); intro v222 w2 ho3 hb hg_ hnew_; clear hg_ hnew_; (first | rw [← Ny221.out] at ho3 | (simp only [Int.reduceToNat] at ho3; rw [← Ny221.out] at ho3)); have n0_ := Aside0.mk (Kd.R_lower ho3 (below_size (by repeat (first | (with_reducible first | exact HB.out | apply below_alloc | apply pw_below_drewN | apply below_drew1) | exact HB.out)))); have n1_ := Aside0.mk (below_step (by repeat (first | (with_reducible first | exact HB.out | apply below_alloc | apply pw_below_drewN | apply below_drew1) | exact HB.out)) hb); clear HB; have HO223 := n0_; have HB := n1_; clear n0_ n1_; clear hb ho3) | ((with_reducible refine gate_dst (N := 7) rfl ?_); refine Kd.R_lit Kd.string _ 9 ?hg (N := 7) ?hd (xs := ([(⟨#[115, 101, 114, 118, 105, 99, 101]⟩ : ByteArray), (⟨#[110, 97, 109, 101]⟩ : ByteArray), (⟨#[117, 110, 105, 113, 117, 101]⟩ : ByteArray), (⟨#[99, 111, 111, 107, 105, 101]⟩ : ByteArray), (⟨#[118, 101, 110, 100, 111, 114]⟩ : ByteArray), (⟨#[114, 101, 108, 97, 121]⟩ : ByteArray), (⟨#[110, 111, 45, 115, 101, 114, 118, 105, 99, 101]⟩ : ByteArray), (⟨#[110, 111, 45, 115, 121, 115, 116, 101, 109]⟩ : ByteArray), (⟨#[101, 114, 114, 111, 114]⟩ : ByteArray)] : List ByteArray)) (inner := [.string (⟨#[115, 101, 114, 118, 105, 99, 101]⟩ : ByteArray), .string (⟨#[110, 97, 109, 101]⟩ : ByteArray), .string (⟨#[117, 110, 105, 113, 117, 101]⟩ : ByteArray), .string (⟨#[99, 111, 111, 107, 105, 101]⟩ : ByteArray), .string (⟨#[118, 101, 110, 100, 111, 114]⟩ : ByteArray), .string (⟨#[114, 101, 108, 97, 121]⟩ : ByteArray), .string (⟨#[110, 111, 45, 115, 101, 114, 118, 105, 99, 101]⟩ : ByteArray), .string (⟨#[110, 111, 45, 115, 121, 115, 116, 101, 109]⟩ : ByteArray), .string (⟨#[101, 114, 114, 111, 114]⟩ : ByteArray)]) (ok := fun _ => True) (okp := fun _ => True) ?hr ?hp (fun _ hk => hk) trivial (Below.refl _ _) (Nat.le_refl _) (by simp) ?_; (case hd => rfl); (case hg => rfl); (case hr => first | (go_simp; done) | (go_simp; simp only [IntKind.wrap_u8, IntKind.wrap_u16, IntKind.wrap_u32, IntKind.wrap_u64]; done) | (go_simp; simp only [IntKind.wrap_u8, IntKind.wrap_u16, IntKind.wrap_u32, IntKind.wrap_u64, Int.tmod_eq_emod_of_nonneg (Int.natCast_nonneg _), Int.emod_emod]; done) | (go_simp; rfl)); (case hp => exact (Reps.one (show Kd.M Kd.string _ _ _ (⟨#[115, 101, 114, 118, 105, 99, 101]⟩ : ByteArray) [.string (⟨#[115, 101, 114, 118, 105, 99, 101]⟩ : ByteArray)] from rfl) (Reps.one (show Kd.M Kd.string _ _ _ (⟨#[110, 97, 109, 101]⟩ : ByteArray) [.string (⟨#[110, 97, 109, 101]⟩ : ByteArray)] from rfl) (Reps.one (show Kd.M Kd.string _ _ _ (⟨#[117, 110, 105, 113, 117, 101]⟩ : ByteArray) [.string (⟨#[117, 110, 105, 113, 117, 101]⟩ : ByteArray)] from rfl) (Reps.one (show Kd.M Kd.string _ _ _ (⟨#[99, 111, 111, 107, 105, 101]⟩ : ByteArray) [.string (⟨#[99, 111, 111, 107, 105, 101]⟩ : ByteArray)] from rfl) (Reps.one (show Kd.M Kd.string _ _ _ (⟨#[118, 101, 110, 100, 111, 114]⟩ : ByteArray) [.string (⟨#[118, 101, 110, 100, 111, 114]⟩ : ByteArray)] from rfl) (Reps.one (show Kd.M Kd.string _ _ _ (⟨#[114, 101, 108, 97, 121]⟩ : ByteArray) [.string (⟨#[114, 101, 108, 97, 121]⟩ : ByteArray)] from rfl) (Reps.one (show Kd.M Kd.string _ _ _ (⟨#[110, 111, 45, 115, 101, 114, 118, 105, 99, 101]⟩ : ByteArray) [.string (⟨#[110, 111, 45, 115, 101, 114, 118, 105, 99, 101]⟩ : ByteArray)] from rfl) (Reps.one (show Kd.M Kd.string _ _ _ (⟨#[110, 111, 45, 115, 121, 115, 116, 101, 109]⟩ : ByteArray) [.string (⟨#[110, 111, 45, 115, 121, 115, 116, 101, 109]⟩ : ByteArray)] from rfl) (Reps.one (show Kd.M Kd.string _ _ _ (⟨#[101, 114, 114, 111, 114]⟩ : ByteArray) [.string (⟨#[101, 114, 114, 111, 114]⟩ : ByteArray)] from rfl) (Reps.none _ _))))))))))); intro v225 w4 ho5 hb hg_ hnew_; clear hg_ hnew_; (first | rw [← Ny224.out] at ho5 | (simp only [Int.reduceToNat] at ho5; rw [← Ny224.out] at ho5)); have n0_ := Aside0.mk (Kd.R_below (by (with_reducible repeat (first | apply Kd.R_alloc | apply Kd.R_drewN | apply Kd.R_drew)); exact HO223.out) hb); have n1_ := Aside0.mk (Kd.R_lower ho5 (below_size (by repeat (first | (with_reducible first | exact HB.out | apply below_alloc | apply pw_below_drewN | apply below_drew1) | exact HB.out)))); have n2_ := Aside0.mk (below_step (by repeat (first | (with_reducible first | exact HB.out | apply below_alloc | apply pw_below_drewN | apply below_drew1) | exact HB.out)) hb); clear HO223; clear HB; have HO223 := n0_; have HO226 := n1_; have HB := n2_; clear n0_ n1_ n2_; clear hb ho5))
  go_loopg [5] k (fun kq v5 w' => ∃ (x5_1 : Int), v5 = .int .i64 x5_1 ∧ Aside0 (marlineref21_Name.l0 kq a0 y221 y224 x5_1 = some r) ∧ Aside0 (kq ≤ k) ∧ Aside0 (Kd.R (Kd.int .i64) 3 w' w.heap.size (fun _ => True) v222 y221) ∧ Aside0 (Kd.R Kd.string 9 w' w.heap.size (fun _ => True) v225 y224) ∧ Aside0 (Below w.heap.size w w'))
  case atStart => exact ⟨(0), (by first | rfl | (simp; done) | (simp [*]; done)), H', ⟨Nat.le_refl _⟩, ⟨by (with_reducible repeat (first | apply Kd.R_alloc | apply Kd.R_drewN | apply Kd.R_drew)); exact HO223.out⟩, ⟨by (with_reducible repeat (first | apply Kd.R_alloc | apply Kd.R_drewN | apply Kd.R_drew)); exact HO226.out⟩, ⟨by repeat (first | (with_reducible first | exact HB.out | apply below_alloc | apply pw_below_drewN | apply below_drew1) | exact HB.out)⟩⟩
  case round =>
    clear H'
    try clear c1
    try clear p2
    obtain ⟨x5_1, rfl, HA, HK1, HO_3, HO_4, HB⟩ := hrel
    cases gk with
    | zero => exact absurd HA.out (by simp [marlineref21_Name.l0])
    | succ k1 =>
      have H := HA.out
      clear HA
      simp only [marlineref21_Name.l0] at H
      by_cases c6 : x5_1 < 9
      · rw [if_pos c6] at H
        have c6b0 : decide (x5_1 < 9) = true := decide_eq_true c6
        clear c6
        by_cases c7 : 0 ≤ x5_1
        · rw [if_pos c7] at H
          have c7b0 : decide (0 ≤ x5_1) = true := decide_eq_true c7
          clear c7
          by_cases c8 : x5_1 < (y221.length : Int)
          · rw [if_pos c8] at H
            have c8b0 : decide (x5_1 < (y221.length : Int)) = true := decide_eq_true c8
            clear c8
            by_cases c9 : (rd y221 x5_1) = a0
            · rw [if_pos c9] at H
              have c9b0 : ((rd y221 x5_1) == a0) = true := beq_iff_eq.mpr c9
              have c9b1 : ((rd y221 x5_1) != a0) = false := bne_eq_false_iff_eq.mpr c9
              clear c9
              by_cases c10 : x5_1 < (y224.length : Int)
              · rw [if_pos c10] at H
                have c10b0 : decide (x5_1 < (y224.length : Int)) = true := decide_eq_true c10
                clear c10
                obtain rfl := Option.some.inj H
                obtain ⟨Ao11, co11, eo11⟩ := Kd.R_slice HO_3.out
                subst eo11
                have p227 : 0 ≤ (x5_1 : Int) := of_decide_eq_true (by first | (with_reducible assumption) | assumption)
                have q227 : x5_1 < (y221.length : Int) := of_decide_eq_true (by first | (with_reducible assumption) | assumption)
                obtain ⟨ad227, e227, hx227_0⟩ := Kd.at_int (Kd.R_reads' HO_3.out).2.2 x5_1 p227 q227
                cases e227
                replace p227 := eq_true p227
                replace q227 := eq_true q227
                obtain ⟨Ao12, co12, eo12⟩ := Kd.R_slice HO_4.out
                subst eo12
                have p228 : 0 ≤ (x5_1 : Int) := of_decide_eq_true (by first | (with_reducible assumption) | assumption)
                have q228 : x5_1 < (y224.length : Int) := of_decide_eq_true (by first | (with_reducible assumption) | assumption)
                obtain ⟨ad228, e228, hx228_0⟩ := Kd.at_string (Kd.R_reads' HO_4.out).2.2 x5_1 p228 q228
                cases e228
                replace p228 := eq_true p228
                replace q228 := eq_true q228
                go_wp2
                go_ret
                exact ⟨by first | rfl | (simp [errW_none, errW_some] <;> rfl) | (simp [*, errW_none, errW_some] <;> rfl), by repeat (first | (with_reducible first | exact HB.out | apply below_alloc | apply pw_below_drewN | apply below_drew1) | exact HB.out)⟩
              · rw [if_neg c10] at H
                exact absurd H (by simp)
            · rw [if_neg c9] at H
              have c9b0 : ((rd y221 x5_1) == a0) = false := beq_eq_false_iff_ne.mpr c9
              have c9b1 : ((rd y221 x5_1) != a0) = true := bne_iff_ne.mpr c9
              have H' := Aside0.mk H
              clear H
              obtain ⟨Ao13, co13, eo13⟩ := Kd.R_slice HO_3.out
              subst eo13
              have p227 : 0 ≤ (x5_1 : Int) := of_decide_eq_true (by first | (with_reducible assumption) | assumption)
              have q227 : x5_1 < (y221.length : Int) := of_decide_eq_true (by first | (with_reducible assumption) | assumption)
              obtain ⟨ad227, e227, hx227_0⟩ := Kd.at_int (Kd.R_reads' HO_3.out).2.2 x5_1 p227 q227
              cases e227
              replace p227 := eq_true p227
              replace q227 := eq_true q227
              go_wp2
              go_roundg k1
              case measure => have := HK1.out; omega
              case rel => exact ⟨(wrap64 (x5_1 + 1)), (by first | rfl | (simp; done) | (simp [*]; done)), H', ⟨by have := HK1.out; omega⟩, ⟨by (with_reducible repeat (first | apply Kd.R_alloc | apply Kd.R_drewN | apply Kd.R_drew)); exact HO_3.out⟩, ⟨by (with_reducible repeat (first | apply Kd.R_alloc | apply Kd.R_drewN | apply Kd.R_drew)); exact HO_4.out⟩, ⟨by repeat (first | (with_reducible first | exact HB.out | apply below_alloc | apply pw_below_drewN | apply below_drew1) | exact HB.out)⟩⟩
          · rw [if_neg c8] at H
            exact absurd H (by simp)
        · rw [if_neg c7] at H
          exact absurd H (by simp)
      · rw [if_neg c6] at H
        have c6b0 : decide (x5_1 < 9) = false := decide_eq_false c6
        clear c6
        obtain rfl := Option.some.inj H
        go_wp2
        go_ret
        exact ⟨by first | rfl | (simp [errW_none, errW_some] <;> rfl) | (simp [*, errW_none, errW_some] <;> rfl), by repeat (first | (with_reducible first | exact HB.out | apply below_alloc | apply pw_below_drewN | apply below_drew1) | exact HB.out)⟩

end Go.Proofs.YthkgaciibfjejaaDoor.Print
