/- The walk of the asynchronous deframer's Feed: what it tells and keeps is what the plain words say. No condition but the rows' lengths. -/
import Derived.Test.YtjmclghjhnbafaaDf05f
import Derived.WalkMore
namespace Go.Proofs.Ytjmclghjhnbafaa.Print
open Go.RowKit Go.Proofs.YtjmclghjhnbafaaW.PrintWords Go.Proofs.YtjmclghjhnbafaaW.PrintLast Go.Proofs.YtjmclghjhnbafaaW.PrintMore
attribute [local go_sem] max2_int min2_int max_two min_two max_three min_three max_four min_four
set_option linter.unusedVariables false
set_option linter.unusedSimpArgs false
theorem info34 : (Try.prog.info? 34).map (fun i => (i.zero, i.size, i.bytes)) = some (some (.agg #[.int .i64 0, .slice none 0 0]), 2, 32) := by kernel_rfl
theorem Live.grow {w0 w W W' : World} {P0_ : Nat → Prop} {g : Nat} {recv most : Int} {s : Dst} {u vo vo' : Value} {outs outs' : List S34} (h : Live w0 w P0_ g recv most s u vo outs W) (hg : g < w.heap.size)
    (ho : Kd.S k34 34 W' w0.heap.size (fun k_ => w.heap.size ≤ k_ ∧ some k_ ≠ u.ownBlock) vo' outs') (hb : Below w0.heap.size w0 W') (hgr : W.grownBy W' vo.ownBlock) : Live w0 w P0_ g recv most s u vo' outs' W' := by
  refine ⟨blk_grown h.cell hgr (fun he => ?_), ?_, ho, hb, Kept.of_grown hgr h.kept (fun k hk => .inr ((Kd.S_R h.out).1 k hk).1)⟩
  · have := ((Kd.S_R h.out).1 g he.symm).1
    omega
  · have h1 := Kd.R_grown (ok := fun k => (P0_ k ∨ w.heap.size ≤ k) ∧ some k = u.ownBlock) h.ownP hgr (fun k hk he => ((Kd.S_R h.out).1 k he.symm).2 hk.2)
    exact Kd.R_mono h1 (fun k hk => hk.1)
set_option maxHeartbeats 16000000 in
set_option maxRecDepth 100000 in
theorem df_feed (P0_ : Nat → Prop) (g : Nat) (u : Value) (recv most : Int) (s : Dst) (A : Option Addr) (c0 : Nat) (l : List Int) (w0 w : World) (hB : Below w0.heap.size w0 w)
    (hg : w.heap[g]? = some (.cells (dcells recv most u s) 58 (0, 0))) (hge : w0.heap.size ≤ g) (hP : ¬ P0_ g) (ho : Kd.R (Kd.int .u8) 5 w w0.heap.size P0_ u s.data)
    (hC : ∀ W', Kept w W' (fun k_ => P0_ k_ ∨ k_ = g) → Kd.C (Kd.int .u8) W' A l.length l) (hl : l.length ≤ 100000) (hd : s.data.length ≤ 100000000) (hb : ∀ c ∈ l, 0 ≤ c) :
    Calls Try.prog 14 #[.pointer (some ⟨g, 0, none⟩), .slice A l.length c0] w fun x_ w' => ∃ vo u' : Value, x_ = .returned vo ∧ Live w0 w P0_ g recv most (dfeed recv most s l).2 u' vo (dfeed recv most s l).1 w' := by
  have hu58 := Try.underlying58
  have hu34 := Try.underlying34
  have HGL := Aside0.mk (blk_lt hg)
  have HGE := Aside0.mk hge
  have HP := Aside0.mk hP
  have HC := Aside0.mk hC
  have HLL := Aside0.mk hl
  have HD := Aside0.mk hd
  have HBY := Aside0.mk hb
  have L0 := Aside0.mk (show Live w0 w P0_ g recv most s u (.slice none 0 0) [] w from ⟨hg, Kd.R_mono ho (fun _ hk => .inl hk), Kd.S_nil _ _ _ _ _, hB, Kept.refl _ _⟩)
  clear hB hg hge hP ho hC hl hd hb
  go_enter Try.func14, Try.ntmps14
  go_wp2
  go_step3
  go_wp2
  go_step3
  go_wp2
  go_loopg [5, 12] (l.length + 1) (fun kq v5 v12 w' => ∃ (x : Int) (u' : Value), v12 = .int .i64 x ∧ Aside0 (0 ≤ x ∧ x.toNat + kq = l.length + 1) ∧ Aside0 (Live w0 w P0_ g recv most (dfeed recv most s (l.take x.toNat)).2 u' v5 (dfeed recv most s (l.take x.toNat)).1 w'))
  case atStart => exact ⟨0, u, rfl, ⟨Int.le_refl _, by simp⟩, L0⟩
  case round =>
    obtain ⟨x, u', rfl, hk, HL⟩ := hrel
    by_cases hi : x < (l.length : Int)
    · have hi0 : decide (x < (l.length : Int)) = true := decide_eq_true hi
      have p0 : 0 ≤ x := hk.out.1
      obtain ⟨ad, eA, hx0⟩ := Kd.at_int (HC.out wr HL.out.kept) x p0 hi
      subst eA
      have hcx : rd l x = l[x.toNat]'(by omega) := by
        unfold rd
        rw [List.getD_eq_getElem?_getD, List.getElem?_eq_getElem (by omega)]
        rfl
      have hstep := dfold_take recv most s l x.toNat (by omega)
      rw [← hcx] at hstep
      have hc0 : 0 ≤ rd l x := by rw [hcx]; exact HBY.out _ (List.getElem_mem _)
      have hlen := dfeed_len recv most (l.take x.toNat) ([], s)
      have hlen' : (l.take x.toNat).length ≤ l.length := by rw [List.length_take]; omega
      replace hlen : (dfeed recv most s (l.take x.toNat)).1.length ≤ 0 + (l.take x.toNat).length ∧ (dfeed recv most s (l.take x.toNat)).2.data.length ≤ s.data.length + (l.take x.toNat).length := hlen
      generalize rd l x = c at hx0 hstep hc0
      generalize dfeed recv most s (l.take x.toNat) = F at HL hstep hlen
      obtain ⟨outs, data, a, e, lg⟩ := F
      simp only at hlen
      have LEN := Aside0.mk (show outs.length ≤ 100000 ∧ data.length < 1000000000 from by have := HLL.out; have := HD.out; omega)
      have HS := Aside0.mk hstep
      have HI := Aside0.mk hi
      have PX := Aside0.mk p0
      have hx1 : wrap64 (x + 1) = x + 1 := by have := HLL.out; unfold wrap64; omega
      have hx2 : (x + 1).toNat = x.toNat + 1 := by omega
      have HX2 := Aside0.mk hx2
      have HH := Aside0.mk (show accm_Has.f recv c = some (hasb recv c) from by unfold accm_Has.f; rw [if_pos hc0]; rfl)
      clear hcx hstep hlen hlen' hc0 hx2
      replace p0 := eq_true p0
      replace hi := eq_true hi
      have hz0 : wr.cell? ⟨g, 0, none⟩ = some (.int .u32 recv) := (blk_cell HL.out.cell 0).trans rfl
      have hz3 : wr.cell? ⟨g, 3, none⟩ = some (.bool a) := (blk_cell HL.out.cell 3).trans rfl
      have hz4 : wr.cell? ⟨g, 4, none⟩ = some (.bool e) := (blk_cell HL.out.cell 4).trans rfl
      have hf3 := blk_frozen HL.out.cell 3
      have hf4 := blk_frozen HL.out.cell 4
      cases gk with
      | zero =>
        have := hk.out.2
        have := HI.out
        omega
      | succ k1 =>
        have done_ : ∀ (u2 vo2 : Value) (W2 : World) (p : List S34 × Dst), dstep recv most (outs, ⟨data, a, e, lg⟩) c = p → Live w0 w P0_ g recv most p.2 u2 vo2 p.1 W2 → Live w0 w P0_ g recv most (dfeed recv most s (l.take (x + 1).toNat)).2 u2 vo2 (dfeed recv most s (l.take (x + 1).toNat)).1 W2 := by
          intro u2 vo2 W2 p hp h
          rw [HX2.out, HS.out, hp]
          exact h
        have DN := Aside0.mk done_
        clear done_
        by_cases c126 : c = 126
        · subst c126
          cases a with
          | true => 
            go_wp2_with (first | (go_at_call 32; refine (df_end (fun k_ => (P0_ k_ ∨ w.heap.size ≤ k_) ∧ some k_ = u'.ownBlock) g u' recv most data true e lg w0 wr HL.out.bel HL.out.cell HGE.out HL.out.ownP LEN.out.2).mono ?_; rintro x_ w2 ⟨v, u2, rfl, hc2, hv, hu2, hb2, hk2⟩; have HL2 := Aside0.mk (HL.out.next (s' := ⟨[], false, false, false⟩) HGL.out HGE.out hc2 (Kd.R_mono hu2 (fun _ h => .inl h)) hb2 (hk2.mono (fun _ h => .inr h))); have HSO := Aside0.mk (HL.out.nextOld HGL.out (Kd.R_mono hu2 (fun _ h => .inl h)) (hk2.mono (fun _ h => .inr h))); have HV2 := Aside0.mk hv; have HU2 := Aside0.mk hu2; have HSZ := Aside0.mk hk2.1; clear hc2 hv hu2 hb2 hk2; obtain ⟨Av, cv, ev⟩ := Kd.R_slice HV2.out; subst ev) | ((with_reducible refine gate_dst (N := 8) rfl ?_); refine box_event ?hg (N := 8) ?hd (cs := #[.int .i64 0, .slice none 0 0]) (t := 34) ?hr ?_; (case hd => rfl); (case hg => rfl); (case hr => first | (go_simp; done) | (go_simp; rfl)); intro gs hgs w3 hbox hb; have BS := Aside0.mk hbox; have GS := Aside0.mk ((by rw [hgs]; exact Nat.le_refl _) : w2.heap.size ≤ gs); have HBX := Aside0.mk hb; clear hbox hb hgs; have hs0 : w3.cell? ⟨gs, 0, none⟩ = some (.int .i64 0) := (blk_cell BS.out 0).trans rfl; have hs1 : w3.cell? ⟨gs, 1, none⟩ = some (.slice none 0 0) := (blk_cell BS.out 1).trans rfl; have hfs0 := blk_frozen BS.out 0; have hfs1 := blk_frozen BS.out 1) | ((with_reducible refine gate_builtin (b := .append) (xs := #[.tmp 25, .tmp 27]) rfl ?_); at_builtin; have HW := Aside0.mk (show Below w2.heap.size w2 ((w3.setCell ⟨gs, 0, none⟩ (.int .i64 (dkind e lg))).setCell ⟨gs, 1, none⟩ (.slice Av (dseg data e lg).length cv)) from below_set (below_set HBX.out GS.out) GS.out); refine Kd.S_append k34 (w0 := w0) w0.heap.size rfl (.tmp 25) (.tmp 27) 29 34 (.agg #[.int .i64 0, .slice none 0 0]) 32 rfl Try.underlying29 info34 rfl (by decide) (by omega) _ outs (⟨dkind e lg, dseg data e lg⟩ : S34) [.int .i64 (dkind e lg), .slice Av (dseg data e lg).length cv] (fun k_ => w.heap.size ≤ k_ ∧ some k_ ≠ u2.ownBlock) (fun k_ => wr.heap.size ≤ k_) rfl (by first | rfl | (simp; done) | (simp; rfl) | (go_simp; done)) ?aP ?aK ?aF ?aO ?aB ?aS ?aL ?_; (case aP => exact k34_mkM _ _ _ (⟨dkind e lg, dseg data e lg⟩ : S34) (Kd.R_mono (Kd.R_lower (Kd.R_bound (Kd.R_below HV2.out HW.out)) HL.out.bel.size) (fun _ hk => hk.2.1))); (case aK => exact (fun k hk => ⟨⟨Nat.le_trans HL.out.kept.1 hk, fun he => by have := R_ownlt HL.out.row k (HU2.out.1 k he.symm).2.symm; omega⟩, fun he => by have := Kd.S_lt HL.out.out k he.symm; omega⟩)); (case aF => exact (fun k hk => ⟨Nat.le_trans HL.out.kept.1 (Nat.le_trans HSZ.out (Nat.le_trans HW.out.size hk)), fun he => by have := R_ownlt HL2.out.row k he.symm; have := HW.out.size; omega⟩)); (case aO => exact Kd.S_mono (Kd.S_below HSO.out HW.out) (fun k hk => ⟨hk.1, by have := hk.2; omega⟩)); (case aB => exact (HL2.out.below HW.out).bel); (case aS => exact (HL2.out.below HW.out).bel.size); (case aL => have := LEN.out.1; omega); intro vo2 w4 ho4 hb4 hg4 hat4; have HL5 := Aside0.mk ((HL2.out.below HW.out).grow HGL.out ho4 hb4 hg4); clear ho4 hb4 hg4 hat4))
            go_roundg k1
            case measure => have := hk.out.2; have := HI.out; omega
            case rel => exact ⟨x + 1, u2, (by first | rfl | (rw [hx1]; done) | (simp [hx1]; done)), ⟨by have := PX.out; have := hk.out; omega⟩, ⟨DN.out u2 _ _ (outs ++ [⟨dkind e lg, dseg data e lg⟩], ⟨[], false, false, false⟩) (by simp [dstep]) (HL5.out)⟩⟩
          | false =>
            go_wp2_with (first | (go_at_call 32; refine (df_end (fun k_ => (P0_ k_ ∨ w.heap.size ≤ k_) ∧ some k_ = u'.ownBlock) g u' recv most data false e lg w0 wr HL.out.bel HL.out.cell HGE.out HL.out.ownP LEN.out.2).mono ?_; rintro x_ w2 ⟨v, u2, rfl, hc2, hv, hu2, hb2, hk2⟩; have HL2 := Aside0.mk (HL.out.next (s' := ⟨[], false, false, false⟩) HGL.out HGE.out hc2 (Kd.R_mono hu2 (fun _ h => .inl h)) hb2 (hk2.mono (fun _ h => .inr h))); have HSO := Aside0.mk (HL.out.nextOld HGL.out (Kd.R_mono hu2 (fun _ h => .inl h)) (hk2.mono (fun _ h => .inr h))); have HV2 := Aside0.mk hv; have HU2 := Aside0.mk hu2; have HSZ := Aside0.mk hk2.1; clear hc2 hv hu2 hb2 hk2; obtain ⟨Av, cv, ev⟩ := Kd.R_slice HV2.out; subst ev) | ((with_reducible refine gate_dst (N := 8) rfl ?_); refine box_event ?hg (N := 8) ?hd (cs := #[.int .i64 0, .slice none 0 0]) (t := 34) ?hr ?_; (case hd => rfl); (case hg => rfl); (case hr => first | (go_simp; done) | (go_simp; rfl)); intro gs hgs w3 hbox hb; have BS := Aside0.mk hbox; have GS := Aside0.mk ((by rw [hgs]; exact Nat.le_refl _) : w2.heap.size ≤ gs); have HBX := Aside0.mk hb; clear hbox hb hgs; have hs0 : w3.cell? ⟨gs, 0, none⟩ = some (.int .i64 0) := (blk_cell BS.out 0).trans rfl; have hs1 : w3.cell? ⟨gs, 1, none⟩ = some (.slice none 0 0) := (blk_cell BS.out 1).trans rfl; have hfs0 := blk_frozen BS.out 0; have hfs1 := blk_frozen BS.out 1))
            have HW := Aside0.mk (show Below w2.heap.size w2 ((w3.setCell ⟨gs, 0, none⟩ (.int .i64 (dkind e lg))).setCell ⟨gs, 1, none⟩ (.slice Av (dseg data e lg).length cv)) from below_set (below_set HBX.out GS.out) GS.out)
            go_roundg k1
            case measure => have := hk.out.2; have := HI.out; omega
            case rel => exact ⟨x + 1, u2, (by first | rfl | (rw [hx1]; done) | (simp [hx1]; done)), ⟨by have := PX.out; have := hk.out; omega⟩, ⟨DN.out u2 _ _ (outs, ⟨[], false, false, false⟩) (by simp [dstep]) (HL2.out.below HW.out)⟩⟩
        · have cb : (c == 126) = false := beq_eq_false_iff_ne.mpr c126
          have C126 := Aside0.mk c126
          clear c126
          cases hh : hasb recv c with
          | true =>
            have HH2 := HH
            rw [hh] at HH2
            go_wp2_with (first | (go_at_call 33; refine (accm_Has.calls recv c true _ HH2.out).mono ?_; rintro x_ w2 ⟨rfl, ⟨nd, rfl⟩⟩))
            go_roundg k1
            case measure => have := hk.out.2; have := HI.out; omega
            case rel => exact ⟨x + 1, u', (by first | rfl | (rw [hx1]; done) | (simp [hx1]; done)), ⟨by have := PX.out; have := hk.out; omega⟩, ⟨DN.out u' _ _ (outs, ⟨data, a, e, lg⟩) (by simp [dstep, C126.out, hh]) (HL.out.below (by repeat (first | exact Below.refl _ _ | apply pw_below_drewN)))⟩⟩
          | false =>
            have HH2 := HH
            rw [hh] at HH2
            cases e with
            | true =>
              go_wp2_with (first | (go_at_call 33; refine (accm_Has.calls recv c false _ HH2.out).mono ?_; rintro x_ w2 ⟨rfl, ⟨nd, rfl⟩⟩) | (go_at_call 34; have HLW := Aside0.mk (((HL.out.below (show Below wr.heap.size wr (wr.drewN nd) from (by repeat (first | exact Below.refl _ _ | apply pw_below_drewN)))).set HGL.out HGE.out HP.out (s' := ⟨data, true, true, lg⟩) 3 true rfl rfl).set HGL.out HGE.out HP.out (s' := ⟨data, true, false, lg⟩) 4 false rfl rfl); refine (df_put (fun k_ => (P0_ k_ ∨ w.heap.size ≤ k_) ∧ some k_ = u'.ownBlock) g u' recv most (Go.bits .xor .u8 c 32) data true false lg w0 _ HLW.out.bel HLW.out.cell HGE.out (fun h => h.1.elim HP.out (fun h1 => by have := HGL.out; omega)) HLW.out.ownP LEN.out.2).mono ?_; rintro x_ w4 ⟨rfl, u2, hc4, hu4, hb4, hk4⟩; have HL4 := Aside0.mk (HLW.out.next (s' := ⟨(dput most data lg (Go.bits .xor .u8 c 32)).1, true, false, (dput most data lg (Go.bits .xor .u8 c 32)).2⟩) HGL.out HGE.out hc4 hu4 hb4 hk4); clear hc4 hu4 hb4 hk4))
              go_roundg k1
              case measure => have := hk.out.2; have := HI.out; omega
              case rel => exact ⟨x + 1, u2, (by first | rfl | (rw [hx1]; done) | (simp [hx1]; done)), ⟨by have := PX.out; have := hk.out; omega⟩, ⟨DN.out u2 _ _ (outs, ⟨(dput most data lg (Go.bits .xor .u8 c 32)).1, true, false, (dput most data lg (Go.bits .xor .u8 c 32)).2⟩) (by simp [dstep, C126.out, hh]) (HL4.out)⟩⟩
            | false =>
              by_cases c125 : c = 125
              · have cb2 : (c == 125) = true := beq_iff_eq.mpr c125
                have C125 := Aside0.mk c125
                clear c125
                go_wp2_with (first | (go_at_call 33; refine (accm_Has.calls recv c false _ HH2.out).mono ?_; rintro x_ w2 ⟨rfl, ⟨nd, rfl⟩⟩))
                go_roundg k1
                case measure => have := hk.out.2; have := HI.out; omega
                case rel => exact ⟨x + 1, u', (by first | rfl | (rw [hx1]; done) | (simp [hx1]; done)), ⟨by have := PX.out; have := hk.out; omega⟩, ⟨DN.out u' _ _ (outs, ⟨data, true, true, lg⟩) (by rw [C125.out] at hh ⊢; simp [dstep, hh]) (((HL.out.below (show Below wr.heap.size wr (wr.drewN nd) from (by repeat (first | exact Below.refl _ _ | apply pw_below_drewN)))).set HGL.out HGE.out HP.out (s' := ⟨data, true, false, lg⟩) 3 true rfl rfl).set HGL.out HGE.out HP.out (s' := ⟨data, true, true, lg⟩) 4 true rfl rfl)⟩⟩
              · have cb2 : (c == 125) = false := beq_eq_false_iff_ne.mpr c125
                have C125 := Aside0.mk c125
                clear c125
                go_wp2_with (first | (go_at_call 33; refine (accm_Has.calls recv c false _ HH2.out).mono ?_; rintro x_ w2 ⟨rfl, ⟨nd, rfl⟩⟩) | (go_at_call 34; have HLW := Aside0.mk (((HL.out.below (show Below wr.heap.size wr (wr.drewN nd) from (by repeat (first | exact Below.refl _ _ | apply pw_below_drewN)))).set HGL.out HGE.out HP.out (s' := ⟨data, true, false, lg⟩) 3 true rfl rfl)); refine (df_put (fun k_ => (P0_ k_ ∨ w.heap.size ≤ k_) ∧ some k_ = u'.ownBlock) g u' recv most (c) data true false lg w0 _ HLW.out.bel HLW.out.cell HGE.out (fun h => h.1.elim HP.out (fun h1 => by have := HGL.out; omega)) HLW.out.ownP LEN.out.2).mono ?_; rintro x_ w4 ⟨rfl, u2, hc4, hu4, hb4, hk4⟩; have HL4 := Aside0.mk (HLW.out.next (s' := ⟨(dput most data lg (c)).1, true, false, (dput most data lg (c)).2⟩) HGL.out HGE.out hc4 hu4 hb4 hk4); clear hc4 hu4 hb4 hk4))
                go_roundg k1
                case measure => have := hk.out.2; have := HI.out; omega
                case rel => exact ⟨x + 1, u2, (by first | rfl | (rw [hx1]; done) | (simp [hx1]; done)), ⟨by have := PX.out; have := hk.out; omega⟩, ⟨DN.out u2 _ _ (outs, ⟨(dput most data lg c).1, true, false, (dput most data lg c).2⟩) (by simp [dstep, C126.out, hh, C125.out]) (HL4.out)⟩⟩
    · have hi0 : decide (x < (l.length : Int)) = false := decide_eq_false hi
      have e1 : l.take x.toNat = l := List.take_of_length_le (by have := hk.out.1; omega)
      have HLF := HL
      rw [e1] at HLF
      go_wp2
      go_ret
      exact ⟨_, u', rfl, HLF.out⟩
end Go.Proofs.Ytjmclghjhnbafaa.Print
