/- Texts of this claim, several in one: what Go functions come to, and plain words on it; each says itself what it proves. -/
import Derived.Test.YtjmclghjhnbafaaMgSyncWraps4
/- The statement SyncWraps, in plain words. -/
namespace Go.Proofs.Ytjmclghjhnbafaa.Sp
open Go.RowKit Go.Proofs.Ytjmclghjhnbafaa.Print Go.Proofs.YtjmclghjhnbafaaW.PrintWords Go.Proofs.YtjmclghjhnbafaaW.PrintLast Go.Proofs.Ytjmclghjhnbafaa.Pl
set_option linter.unusedVariables false
/-- What a segment of wrapped octets tells. -/
def wtold7 (m : Int) (l : List Int) : List S54 := if l.length = 0 then [] else if (l.length : Int) > m then [⟨4, []⟩] else [⟨0, l⟩]
/-- Bits that hold no flag. -/
theorem partsZ_none : ∀ (t cur : List Int), peak (last 0 cur) t ≤ 5 → last 0 cur ≤ 5 → partsZ cur t = []
  | [], cur, h, h5 => rfl
  | c :: t, cur, h, h5 => by
    rw [peak] at h
    have hs := last_snoc cur c
    simp only [partsZ]
    rw [if_neg (by omega)]
    exact partsZ_none t (cur ++ [c]) (by rw [hs]; omega) (by rw [hs]; omega)
/-- Bits without a flag are all kept for the segment. -/
theorem sfeed_keep {m : Int} (h1 : 1 ≤ m) (h2 : m ≤ 1048576) : ∀ (t cur : List Int) (s : Sst), Bytes t → cur.length + t.length ≤ 99999 → peak (last 0 cur) t ≤ 5 → last 0 cur ≤ 5 → Rz m cur s → (sfeed m s t).1 = [] ∧ Rz m (cur ++ t) (sfeed m s t).2
  | [], cur, s, hb, hl, hp, h5, h => by
    rw [List.append_nil]
    exact ⟨rfl, h⟩
  | c :: t, cur, s, hb, hl, hp, h5, h => by
    simp only [List.length_cons] at hl
    rw [peak] at hp
    have hs := last_snoc cur c
    obtain ⟨a, b⟩ := h.snoc h1 h2 (by omega) hb.head (fun hf => by omega)
    obtain ⟨e, f⟩ := sfeed_keep h1 h2 t (cur ++ [c]) _ hb.tail (by rw [List.length_append]; simp only [List.length_cons, List.length_nil]; omega) (by rw [hs]; omega) (by rw [hs]; omega) b
    rw [sfeed_cons, a]
    rw [List.append_assoc] at f
    exact ⟨e, f⟩
theorem flag_cons : flag = 0 :: [1, 1, 1, 1, 1, 1, 0] := rfl
/-- What is wrapped, behind a flag. -/
theorem sfeed_wrapped {m : Int} (h1 : 1 ≤ m) (h2 : m ≤ 1048576) (l : List Int) (hl : l.length ≤ 1000) (hb : Bytes l) : (sfeed m s00 (ins 0 (ofOct l) ++ flag)).1.map s74 = (wtold7 m l).map s74 ∧ (sfeed m s00 (ins 0 (ofOct l) ++ flag)).2 = s00 := by
  have h8 := ofOct_length l
  have hi := ins_len 0 (ofOct l) (by omega) (by omega)
  have hp := peak_ins 0 (ofOct l) (by omega) (by omega)
  have hbi := bytes_ins 0 (ofOct l)
  have hbf : Bytes flag := bytes_lit (by decide)
  have hlf : flag.length = 8 := rfl
  refine ⟨?_, by rw [sfeed_append, feed_flag]⟩
  rw [← sfeed_all h1 h2 (ins 0 (ofOct l) ++ flag) [] s00 (hbi.append hbf) (by rw [List.length_append]; simp only [List.length_nil]; omega) (Rz.s00 m)]
  have hlast : last 0 (ins 0 (ofOct l)) ≤ 5 := by
    have := last_le_peak 0 (ins 0 (ofOct l)) (by omega)
    omega
  have hpart : partsZ [] (ins 0 (ofOct l) ++ flag) = [ins 0 (ofOct l)] := by
    have gen : ∀ (t cur : List Int), peak (last 0 cur) t ≤ 5 → last 0 cur ≤ 5 → partsZ cur (t ++ flag) = partsZ (cur ++ t) flag := by
      intro t
      induction t with
      | nil => intro cur _ _; rw [List.append_nil]; rfl
      | cons c t ih =>
        intro cur h h5
        rw [peak] at h
        have hs := last_snoc cur c
        rw [List.cons_append, partsZ, if_neg (by omega), ih (cur ++ [c]) (by rw [hs]; omega) (by rw [hs]; omega), List.append_assoc]
        rfl
    rw [gen _ [] (by exact hp) (by decide), List.nil_append]
    generalize ins 0 (ofOct l) = w at hlast ⊢
    have s0 := last_snoc w 0
    have s1 := last_snoc (w ++ [0]) 1
    have s2 := last_snoc (w ++ [0] ++ [1]) 1
    have s3 := last_snoc (w ++ [0] ++ [1] ++ [1]) 1
    have s4 := last_snoc (w ++ [0] ++ [1] ++ [1] ++ [1]) 1
    have s5 := last_snoc (w ++ [0] ++ [1] ++ [1] ++ [1] ++ [1]) 1
    have s6 := last_snoc (w ++ [0] ++ [1] ++ [1] ++ [1] ++ [1] ++ [1]) 1
    have z0 : (0 : Int) % 2 = 0 := rfl
    have z1 : (1 : Int) % 2 = 1 := rfl
    rw [z0, Int.mul_zero] at s0
    rw [z1, s0] at s1
    rw [z1, s1] at s2
    rw [z1, s2] at s3
    rw [z1, s3] at s4
    rw [z1, s4] at s5
    rw [z1, s5] at s6
    unfold flag
    simp only [partsZ]
    rw [if_neg (by omega), if_neg (by omega), if_neg (by omega), if_neg (by omega), if_neg (by omega), if_neg (by omega), if_neg (by omega), if_pos ⟨z0, by rw [s6]; rfl⟩]
    unfold segZ
    have e : (w ++ [0] ++ [1] ++ [1] ++ [1] ++ [1] ++ [1] ++ [1]).take ((w ++ [0] ++ [1] ++ [1] ++ [1] ++ [1] ++ [1] ++ [1]).length - 7) = w := by
      have el : (w ++ [0] ++ [1] ++ [1] ++ [1] ++ [1] ++ [1] ++ [1]).length - 7 = w.length := by simp
      rw [el]
      simp only [List.append_assoc]
      exact List.take_left' rfl
    rw [e]
  rw [hpart]
  have hrem : rem 0 (ins 0 (ofOct l)) = ofOct l := by rw [rem_ins 0 _ (by omega) (by omega), clean_ofOct]
  have hrun : ¬ run (ins 0 (ofOct l)) > 5 := by unfold run; omega
  unfold wtold7
  by_cases h0 : l.length = 0
  · have e : ins 0 (ofOct l) = [] := by rw [List.eq_nil_of_length_eq_zero h0]; rfl
    rw [e, if_pos h0]
    simp [allZ, tellZ]
  · have ht : tellZ m (ins 0 (ofOct l)) = if (l.length : Int) > m then (4, [], true) else (0, l, true) := by
      unfold tellZ
      rw [if_neg (by omega), if_neg hrun, hrem, if_pos (by rw [h8]; omega), octs_of l hb]
    rw [if_neg h0]
    by_cases hm : (l.length : Int) > m
    · rw [if_pos hm] at ht ⊢
      simp [allZ, ht, s74]
    · rw [if_neg hm] at ht ⊢
      simp [allZ, ht, s74]
theorem s74_inj {a b : List S54} (h : a.map s74 = b.map s74) : a = b := by
  induction a generalizing b with
  | nil => cases b with
    | nil => rfl
    | cons y b => simp at h
  | cons x a ih => cases b with
    | nil => simp at h
    | cons y b =>
      simp only [List.map_cons, List.cons.injEq] at h
      obtain ⟨x0, x1⟩ := x
      obtain ⟨y0, y1⟩ := y
      have h1 := h.1
      unfold s74 at h1
      injection h1 with p q
      simp only at p q
      rw [p, q, ih h.2]
theorem wraps7 {m : Int} (h1 : 1 ≤ m) (h2 : m ≤ 1048576) (st : Sst) (l : List Int) (hl : l.length ≤ 1000) (hb : Bytes l) :
    sfeed m st (wrapZ l) = ((sfeed m st flag).1 ++ wtold7 m l, s00) := by
  obtain ⟨a, b⟩ := sfeed_wrapped h1 h2 l hl hb
  unfold wrapZ
  rw [List.append_assoc, sfeed_append, feed_flag, s74_inj a, b]
theorem Wraps_j1 (m : Int) (h1 : 1 ≤ m) (data behind : List Int) (hl : data.length ≤ 60) (hb : behind.length ≤ 300) (first : List S54) (hf : first.length ≤ 2000) :
    Ev (fun k => marlinelaw07_SyncWraps.j1 k m data behind (first ++ wtold7 m data) (first.length : Int) false m [] 0 false false 0 false false) true := by
  have hF := FeedS0 m behind (by omega)
  have w : wrap64 ((first.length : Int) + 1) = first.length + 1 := w64 (by omega) (by omega)
  have rdl : ∀ s : S54, rd_T54 (first ++ [s]) (first.length : Int) = s := by
    intro s
    unfold rd_T54
    rw [Int.toNat_natCast, List.getD_eq_getElem?_getD, List.getElem?_append_right (Nat.le_refl _)]
    simp
  refine Ev.step (fun k => by simp only [marlinelaw07_SyncWraps.j1]; rw [if_neg (by decide)]) ?_
  by_cases h0 : data.length = 0
  · refine Ev.pos (by omega) (Ev.end_ ?_)
    unfold wtold7
    rw [if_pos h0]
    simp
  · refine Ev.neg (by omega) ?_
    by_cases h2 : (data.length : Int) > m
    · have e : wtold7 m data = [⟨4, []⟩] := by unfold wtold7; rw [if_neg h0, if_pos h2]
      rw [e]
      refine Ev.pos (by rw [w]; simp) (Ev.pos (by omega) (Ev.pos (by simp; omega) (Ev.pos h2 (Ev.pos (by rw [rdl]) (Ev.end_ ?_)))))
      rw [rdl]
      rfl
    · have e : wtold7 m data = [⟨0, data⟩] := by unfold wtold7; rw [if_neg h0, if_neg h2]
      rw [e]
      refine Ev.pos (by rw [w]; simp) (Ev.pos (by omega) (Ev.pos (by simp; omega) (Ev.neg h2 ?_)))
      rw [hF]
      refine Ev.name (Ev.pos (by rw [rdl]) ?_)
      rw [rdl]
      refine Ev.bind (Equal data data (by unfold Lim; omega)) (Ev.end_ (by simp))
theorem Wraps_j0 (m : Int) (h1 : 1 ≤ m) (h2 : m ≤ 1048576) (ahead data behind : List Int) (ha : ahead.length ≤ 300) (hba : Bytes ahead) (hl : data.length ≤ 60) (hbd : Bytes data) (hb : behind.length ≤ 300) :
    Ev (fun k => marlinelaw07_SyncWraps.j0 k m ahead data behind false) true := by
  have h8 := ofOct_length data
  have hi := ins_len 0 (ofOct data) (by omega) (by omega)
  have hlf : flag.length = 8 := rfl
  have hwl : (wrapZ data).length ≤ 1000 := by unfold wrapZ; simp only [List.length_append]; omega
  have hbf : Bytes flag := bytes_lit (by decide)
  have hF := FeedS0 m ahead (by omega)
  have hs := Sok.after (m := m) (n := (wrapZ data).length) (l := ahead) (sok0 (by omega))
  have hG := FeedS m (sfeed m s00 ahead).2 (wrapZ data) hs.1
  rw [wraps7 h1 h2 _ data (by omega) hbd] at hG
  have hA := AllZ m h1 h2 (ahead ++ flag) (by rw [List.length_append]; omega) (hba.append hbf)
  have hs2 := Sok.after (m := m) (n := 0) (l := ahead ++ flag) (sok0 (by rw [List.length_append]; omega))
  have efirst : (sfeed m s00 (ahead ++ flag)).1 = (sfeed m s00 ahead).1 ++ (sfeed m (sfeed m s00 ahead).2 flag).1 := by
    rw [sfeed_append]
  have ok := segs_ok m (ahead ++ flag) (by rw [List.length_append]; omega)
  have hl2 : (ahead ++ flag).length ≤ 308 := by rw [List.length_append]; omega
  have hwt : (wtold7 m data).length ≤ 1 := by unfold wtold7; split; · simp
                                              · split <;> simp
  have hq := congrArg List.length efirst
  rw [List.length_append] at hq
  have hs2l := hs2.2
  refine Ev.step (fun k => by simp only [marlinelaw07_SyncWraps.j0]; rw [if_neg (by decide)]) ?_
  refine Ev.name (Ev.pos (by simp; omega) (Ev.name (Ev.bind Flag ?_)))
  rw [show ([0, 1, 1, 1, 1, 1, 1, 0] : List Int) = flag from rfl, List.nil_append]
  refine Ev.pos (by omega) (Ev.bind hA ?_)
  rw [hF]
  refine Ev.name (Ev.bind (WrapZ data (by omega) hbd) ?_)
  simp only
  rw [hG]
  refine Ev.name ?_
  simp only
  generalize hfa : (sfeed m s00 ahead).1 = fa at *
  generalize hfb : (sfeed m (sfeed m s00 ahead).2 flag).1 = fb at *
  rw [efirst] at ok hs2l ⊢
  rw [efirst] at hq
  refine Ev.pos (by rw [List.length_append]; omega) (Ev.name ?_)
  rw [← List.append_assoc]
  generalize fa ++ fb = first at *
  rw [List.length_map]
  refine Ev.neg (by rw [List.length_append]; omega) (Ev.pos (by omega) (Ev.pos (by rw [List.length_append]; omega) ?_))
  rw [Int.toNat_natCast, List.take_left' rfl]
  refine Ev.bind (SameR first ok) ?_
  exact Wraps_j1 m h1 data behind hl hb first (by omega)
theorem SyncWraps : marlinelaw07_SyncWraps.Pure := by
  intro a0 l1 l2 l3 h0 hm1 hs1 hw1 hm2 hs2 hw2 hm3 hs3 hw3
  refine Ev.rounds ?_
  unfold marlinelaw07_SyncWraps.f
  refine Ev.bind Speaks07 (Ev.pos rfl ?_)
  have out : Ev (fun k => marlinelaw07_SyncWraps.j0 k a0 l1 l2 l3 true) true :=
    Ev.step (fun k => by simp only [marlinelaw07_SyncWraps.j0]; rw [if_pos trivial]) (Ev.bind Speaks07 (Ev.now _))
  by_cases c1 : a0 < 1
  · exact Ev.pos c1 out
  refine Ev.neg c1 ?_
  by_cases c2 : a0 > 1048576
  · exact Ev.pos c2 out
  refine Ev.neg c2 ?_
  by_cases c3 : (l1.length : Int) > 300
  · exact Ev.pos c3 out
  refine Ev.neg c3 ?_
  by_cases c4 : (l2.length : Int) > 60
  · exact Ev.pos c4 out
  refine Ev.neg c4 ?_
  by_cases c5 : (l3.length : Int) > 300
  · rw [decide_eq_true c5]; exact out
  · rw [decide_eq_false c5]
    exact Wraps_j0 a0 (by omega) (by omega) l1 l2 l3 (by omega) (bytes_of_wf hw1) (by omega) (bytes_of_wf hw2) (by omega)
end Go.Proofs.Ytjmclghjhnbafaa.Sp

/- The plain part of marlinelaw07.SyncWraps: its printed form gives true for every input in its kinds' ranges. -/
namespace Go.Proofs.Ytjmclghjhnbafaa.Pure
open Go.Proofs.Ytjmclghjhnbafaa.Print
theorem SyncWraps : marlinelaw07_SyncWraps.Pure := Go.Proofs.Ytjmclghjhnbafaa.Sp.SyncWraps
end Go.Proofs.Ytjmclghjhnbafaa.Pure
