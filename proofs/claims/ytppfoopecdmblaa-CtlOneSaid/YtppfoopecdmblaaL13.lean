/- The four statements of layer 13, in plain words: each is true of every list of octets. No condition. -/
import Derived.Test.YtppfoopecdmblaaS13
import Derived.Test.YtppfoopecdmblaaPrintMarlinelaw13CtlMost
import Derived.Test.YtppfoopecdmblaaPrintMarlinelaw13CtlTells
import Derived.Test.YtppfoopecdmblaaPrintMarlinelaw13CtlBack
import Derived.Test.YtppfoopecdmblaaPrintMarlinelaw13CtlOne
namespace Go.Proofs.Ytppfoopecdmblaa.Sp
open Go.RowKit Go.Proofs.Ytppfoopecdmblaa.Print Go.Proofs.YtppfoopecdmblaaW.PrintWords Go.Proofs.YtppfoopecdmblaaW.PrintLast Go.Proofs.Ytppfoopecdmblaa.Pl
set_option linter.unusedVariables false
theorem Speaks13 : Ev (fun k => marlinelaw13_speaks.f k) true := by
  unfold marlinelaw13_speaks.f
  refine Ev.bind (CPut 9 1 [] (by unfold Lim; simp)) ?_
  refine Ev.pos (by decide) (Ev.bind (Equal _ [9, 1, 0, 4] (by unfold Lim; decide)) ?_)
  exact Ev.end_ (by decide)
/-- What was written, and anything behind it, as it is read. -/
theorem ctl_written (a b : Int) (d z : List Int) (hd : d.length + 4 ≤ 65535) (ha : Byte a) (hb : Byte b) :
    ctlSize ((([a, b] ++ be 2 (d.length + 4)) ++ d) ++ z) = ((d.length : Int) + 4, 0) ∧ ctlN ((([a, b] ++ be 2 (d.length + 4)) ++ d) ++ z) = (d.length : Int) + 4 ∧ ctlGet ((([a, b] ++ be 2 (d.length + 4)) ++ d) ++ z) = (a, b, d, 0) ∧ ctlPad ((([a, b] ++ be 2 (d.length + 4)) ++ d) ++ z) = z.length := by
  have e := be2 ((d.length : Int) + 4) (by omega) (by omega)
  rw [e]
  have en : ctlN ((([a, b] ++ [((d.length : Int) + 4) / 256, ((d.length : Int) + 4) % 256]) ++ d) ++ z) = (d.length : Int) + 4 := by
    simp [ctlN, rd]; omega
  have el : ((([a, b] ++ [((d.length : Int) + 4) / 256, ((d.length : Int) + 4) % 256]) ++ d) ++ z).length = d.length + 4 + z.length := by simp; omega
  have es : ctlSize ((([a, b] ++ [((d.length : Int) + 4) / 256, ((d.length : Int) + 4) % 256]) ++ d) ++ z) = ((d.length : Int) + 4, 0) := by
    unfold ctlSize
    rw [en, el, if_neg (by omega), if_neg (by omega), if_neg (by omega)]
  refine ⟨es, en, ?_, ?_⟩
  · unfold ctlGet
    rw [es, if_pos rfl, en, show ((d.length : Int) + 4).toNat = d.length + 4 by omega]
    simp [rd]
  · unfold ctlPad
    rw [es, if_pos rfl, en, el]
    omega
theorem CtlMost : marlinelaw13_CtlMost.Pure := by
  refine Ev.rounds ?_
  unfold marlinelaw13_CtlMost.f
  have bz : ∀ n, Bytes (List.replicate n 0) := fun n x hx => by rw [List.eq_of_mem_replicate hx]; constructor <;> omega
  have l1 : Lim (List.replicate 65531 (0 : Int)) := by unfold Lim; rw [List.length_replicate]; omega
  have l2 : Lim (List.replicate 65532 (0 : Int)) := by unfold Lim; rw [List.length_replicate]; omega
  refine Ev.pos (by omega) (Ev.bind (CPut 1 2 _ l1) (Ev.pos (by omega) (Ev.bind (CPut 1 2 _ l2) ?_)))
  have e1 : ctlPut 1 2 (List.replicate 65531 0) = ([1, 2] ++ be 2 (((List.replicate 65531 (0 : Int)).length : Int) + 4) ++ List.replicate 65531 0, 0) := by
    unfold ctlPut; rw [if_neg (by rw [List.length_replicate]; omega)]
  have e2 : ctlPut 1 2 (List.replicate 65532 0) = ([], 3) := by
    unfold ctlPut; rw [if_pos (by rw [List.length_replicate]; omega)]
  have hw := (ctl_written 1 2 (List.replicate 65531 0) [] (by rw [List.length_replicate]; omega) (by constructor <;> omega) (by constructor <;> omega)).2.2.1
  rw [List.append_nil] at hw
  have len : ([1, 2] ++ be 2 (((List.replicate 65531 (0 : Int)).length : Int) + 4) ++ List.replicate 65531 0).length = 65535 := by
    rw [List.length_append, List.length_append, be_length, List.length_replicate]; rfl
  rw [e1, e2]
  refine Ev.bind (CGet _ (by unfold Lim; rw [len]; omega) (((bytes_lit (by decide)).append (bytes_be 2 _)).append (bz _))) (Ev.bind Speaks13 (Ev.pos rfl ?_))
  rw [hw]
  refine Ev.pos rfl (Ev.pos (by rw [len]; rfl) (Ev.pos rfl (Ev.pos rfl (Ev.pos rfl (Ev.end_ (by rw [List.length_replicate]; rfl))))))
theorem CtlTells : marlinelaw13_CtlTells.Pure := by
  intro a b d l ha hb h1 h2 h3 k1 k2 k3
  have hd := bytes_of_wf h3
  have hl := bytes_of_wf k3
  refine Ev.rounds ?_
  unfold marlinelaw13_CtlTells.f
  have short : Ev (fun k => marlinelaw13_CtlTells.j0 k a b d l true) true :=
    Ev.step (f := fun k => (marlinelaw13_speaks.f k).bind fun t => some t) (fun k => by simp [marlinelaw13_CtlTells.j0]) (Ev.bind Speaks13 (Ev.now _))
  refine Ev.bind Speaks13 (Ev.pos rfl ?_)
  by_cases hn : d.length > 1000
  · exact Ev.pos (by omega) short
  refine Ev.neg (by omega) ?_
  by_cases hm : l.length > 1000
  · rw [show decide ((l.length : Int) > 1000) = true by simp; omega]; exact short
  rw [show decide ((l.length : Int) > 1000) = false by simp; omega]
  have ld : Lim d := by unfold Lim; omega
  have ll : Lim l := by unfold Lim; omega
  refine Ev.step (fun k => by simp only [marlinelaw13_CtlTells.j0]; rw [if_neg (by simp)]) ?_
  refine Ev.bind (CPut a b d ld) ?_
  rw [rCPut a b d ld]
  refine Ev.name (Ev.bind (CGet l ll hl) ?_)
  rw [rCGet l ll hl]
  refine Ev.name (Ev.pos rfl (Ev.bind (Equal _ _ ?_) (Ev.pos (by simp) (Ev.pos rfl (Ev.pos rfl (Ev.bind (Equal _ _ ?_) (Ev.pos (by simp) (Ev.pos rfl (Ev.bind (CPad l ll hl) (Ev.end_ (by simp)))))))))))
  · unfold Lim ctlPut
    split
    · simp
    · simp [be_length]; omega
  · unfold Lim ctlGet
    split
    · simp only [List.length_drop, List.length_take]; omega
    · simp
theorem CtlBack : marlinelaw13_CtlBack.Pure := by
  intro a b d z cut ha hb h1 h2 h3 k1 k2 k3 hcut
  have hd := bytes_of_wf h3
  have hz := bytes_of_wf k3
  have ba : Byte a := u8_of_wf ha
  have bb : Byte b := u8_of_wf hb
  obtain ⟨c0, c1⟩ := u16_of_wf hcut
  refine Ev.rounds ?_
  unfold marlinelaw13_CtlBack.f
  have short : Ev (fun k => marlinelaw13_CtlBack.j0 k a b d z cut true) true :=
    Ev.step (f := fun k => (marlinelaw13_speaks.f k).bind fun t => some t) (fun k => by simp [marlinelaw13_CtlBack.j0]) (Ev.bind Speaks13 (Ev.now _))
  refine Ev.bind Speaks13 (Ev.pos rfl ?_)
  by_cases hn : d.length > 1000
  · exact Ev.pos (by omega) short
  refine Ev.neg (by omega) ?_
  by_cases hm : z.length > 1000
  · rw [show decide ((z.length : Int) > 1000) = true by simp; omega]; exact short
  rw [show decide ((z.length : Int) > 1000) = false by simp; omega]
  have ld : Lim d := by unfold Lim; omega
  have e1 : ctlPut a b d = ([a, b] ++ be 2 ((d.length : Int) + 4) ++ d, 0) := by unfold ctlPut; rw [if_neg (by omega)]
  obtain ⟨w1, w2, w3, w4⟩ := ctl_written a b d z (by omega) ba bb
  generalize hx : [a, b] ++ be 2 ((d.length : Int) + 4) ++ d = x at *
  have lx : x.length = d.length + 4 := by rw [← hx]; simp [be_length]; omega
  have bx : Bytes x := by rw [← hx]; exact ((Bytes.cons ba (Bytes.cons bb Bytes.nil)).append (bytes_be 2 _)).append hd
  have lxz : Lim (x ++ z) := by unfold Lim; rw [List.length_append]; omega
  refine Ev.step (fun k => by simp only [marlinelaw13_CtlBack.j0]; rw [if_neg (by simp)]) ?_
  refine Ev.bind (CPut a b d ld) ?_
  rw [e1]
  refine Ev.pos rfl ?_
  rw [show ((x.length : Int) != wrap64 ((d.length : Int) + 4)) = false by rw [w64 (by omega) (by omega), bne_eq_false_iff_eq]; omega]
  refine Ev.step (fun k => by simp only [marlinelaw13_CtlBack.j1]; rw [if_neg (by simp)]) ?_
  refine Ev.name (Ev.pos (by simp; omega) (Ev.name (Ev.pos (by simp; omega) (Ev.name ?_))))
  simp only [List.nil_append]
  refine Ev.bind (CGet (x ++ z) lxz (bx.append hz)) ?_
  rw [w3]
  refine Ev.pos rfl (Ev.pos rfl (Ev.pos rfl (Ev.bind (Equal d d ld) (Ev.pos (by simp) (Ev.bind (CPad (x ++ z) lxz (bx.append hz)) ?_)))))
  rw [w4, show ((z.length : Int) != (z.length : Int)) = false by simp]
  obtain ⟨n, hidx, hnx⟩ : ∃ n : Nat, Int.tmod (wrap64 cut) (x.length : Int) = (n : Int) ∧ n < x.length := by
    rw [w64 (by omega) (by omega), Int.tmod_eq_emod_of_nonneg c0]
    have h5 := Int.emod_nonneg cut (show (x.length : Int) ≠ 0 by omega)
    have h6 := Int.emod_lt_of_pos cut (show 0 < (x.length : Int) by omega)
    exact ⟨(cut % (x.length : Int)).toNat, by omega, by omega⟩
  refine Ev.step (fun k => by simp only [marlinelaw13_CtlBack.j2]; rw [if_neg (by simp), if_neg (by omega), hidx, if_pos (by omega), if_pos (by omega), Int.toNat_natCast]) ?_
  have lt : Lim (x.take n) := by unfold Lim; rw [List.length_take]; omega
  have bt : Bytes (x.take n) := bx.take n
  have hs : ctlSize (x.take n) = (0, 2) := by
    unfold ctlSize
    rw [List.length_take, Nat.min_eq_left (by omega)]
    by_cases h4 : n < 4
    · rw [if_pos h4]
    · have en : ctlN (x.take n) = (d.length : Int) + 4 := by
        rw [← w2, ← hx]
        have e := be2 ((d.length : Int) + 4) (by omega) (by omega)
        rw [e]
        obtain ⟨m, rfl⟩ : ∃ m, n = m + 4 := ⟨n - 4, by omega⟩
        simp [ctlN, rd]
      rw [if_neg h4, en, if_neg (by omega), if_pos (by omega)]
  have hg : ctlGet (x.take n) = (0, 0, [], 2) := by unfold ctlGet; rw [hs]; rfl
  have hp : ctlPad (x.take n) = 0 := by unfold ctlPad; rw [hs]; rfl
  refine Ev.name (Ev.bind (CGet _ lt bt) ?_)
  rw [hg]
  refine Ev.pos rfl (Ev.pos rfl (Ev.bind (CPad _ lt bt) ?_))
  rw [hp]
  exact Ev.end_ rfl
theorem CtlOne : marlinelaw13_CtlOne.Pure := by
  intro l k1 k2 k3
  have hl := bytes_of_wf k3
  refine Ev.rounds ?_
  unfold marlinelaw13_CtlOne.f
  refine Ev.bind Speaks13 (Ev.pos rfl ?_)
  by_cases hn : l.length > 1000
  · refine Ev.step (f := fun k => (marlinelaw13_speaks.f k).bind fun t => some t) (fun k => by simp only [marlinelaw13_CtlOne.j0]; rw [if_pos (by simp; omega)]) (Ev.bind Speaks13 (Ev.now _))
  have ll : Lim l := by unfold Lim; omega
  refine Ev.step (fun k => by simp only [marlinelaw13_CtlOne.j0]; rw [if_neg (by simp; omega)]) ?_
  refine Ev.bind (CGet l ll hl) ?_
  by_cases h : (ctlSize l).2 = 0
  · obtain ⟨h1, h2, h3, h4⟩ := ctlSize_ok h
    have hn := ctlN_bd hl
    have eg : ctlGet l = (rd l 0, rd l 1, (l.take (ctlN l).toNat).drop 4, 0) := by unfold ctlGet; rw [if_pos h]
    have ep : ctlPad l = (l.length : Int) - ctlN l := by unfold ctlPad; rw [if_pos h]
    have ld : ((l.take (ctlN l).toNat).drop 4).length + 4 = (ctlN l).toNat := by rw [List.length_drop, List.length_take]; omega
    rw [eg]
    refine Ev.pos rfl (Ev.bind (CPut _ _ _ (show Lim ((l.take (ctlN l).toNat).drop 4) by unfold Lim; omega)) (Ev.bind (CPad l ll hl) ?_))
    have e1 : ctlPut (rd l 0) (rd l 1) ((l.take (ctlN l).toNat).drop 4) = (l.take (ctlN l).toNat, 0) := by
      unfold ctlPut
      rw [if_neg (by omega), show ((((l.take (ctlN l).toNat).drop 4).length : Int) + 4) = ctlN l by omega, be2 _ (by omega) (by omega)]
      have b2 := rd_bd hl 2; have b3 := rd_bd hl 3
      obtain ⟨m, hm⟩ : ∃ m, (ctlN l).toNat = m + 4 := ⟨(ctlN l).toNat - 4, by omega⟩
      have c1 : ctlN l / 256 = rd l 2 := by unfold ctlN; omega
      have c2 : ctlN l % 256 = rd l 3 := by unfold ctlN; omega
      rw [c1, c2, hm]
      match l, h1 with
      | a :: b :: c :: d :: t, _ => simp [rd]
      | [], h | [_], h | [_, _], h | [_, _, _], h => simp at h
    rw [e1, ep]
    refine Ev.pos rfl (Ev.pos (by omega) (Ev.pos (by omega) ?_))
    rw [w64 (by omega) (by omega), show (l.length : Int) - ((l.length : Int) - ctlN l) = ctlN l by omega]
    refine Ev.pos (by omega) (Ev.pos (by omega) (Ev.bind (Equal _ _ (by unfold Lim; rw [List.length_take]; omega)) (Ev.end_ (by simp))))
  · have eg : ctlGet l = (0, 0, [], (ctlSize l).2) := by unfold ctlGet; rw [if_neg h]
    have ep : ctlPad l = 0 := by unfold ctlPad; rw [if_neg h]
    rw [eg]
    refine Ev.neg h (Ev.pos rfl (Ev.pos rfl (Ev.pos rfl (Ev.bind (CPad l ll hl) ?_))))
    rw [ep]
    exact Ev.end_ rfl
end Go.Proofs.Ytppfoopecdmblaa.Sp
