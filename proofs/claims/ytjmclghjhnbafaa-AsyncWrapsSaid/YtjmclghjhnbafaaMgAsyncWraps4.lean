/- Texts of this claim, several in one: what Go functions come to, and plain words on it; each says itself what it proves. -/
import Derived.Test.YtjmclghjhnbafaaMgAsyncWraps3
/- The statement AsyncWraps, in plain words. -/
namespace Go.Proofs.Ytjmclghjhnbafaa.Sp
open Go.RowKit Go.Proofs.Ytjmclghjhnbafaa.Print Go.Proofs.YtjmclghjhnbafaaW.PrintWords Go.Proofs.YtjmclghjhnbafaaW.PrintLast Go.Proofs.Ytjmclghjhnbafaa.Pl
set_option linter.unusedVariables false
theorem Wraps_j1 (m : Int) (h1 : 1 ≤ m) (data behind : List Int) (hl : data.length ≤ 200) (hb : behind.length ≤ 200) (hbb : Bytes behind) (first : List S34) (hf : first.length ≤ 1000) (r : Int) :
    Ev (fun k => marlinelaw05_AsyncWraps.j1 k m data behind (first ++ wtold m data) (first.length : Int) false r m [] false false false) true := by
  have hF := FeedD r m d0 behind (by omega) (by simp [d0]) hbb
  rw [show d0.data = [] from rfl, show d0.any = false from rfl, show d0.esc = false from rfl, show d0.long = false from rfl] at hF
  have w : wrap64 ((first.length : Int) + 1) = first.length + 1 := w64 (by omega) (by omega)
  have rdl : ∀ s : S34, rd_T34 (first ++ [s]) (first.length : Int) = s := by
    intro s
    unfold rd_T34
    rw [Int.toNat_natCast, List.getD_eq_getElem?_getD, List.getElem?_append_right (Nat.le_refl _)]
    simp
  refine Ev.step (fun k => by simp only [marlinelaw05_AsyncWraps.j1]; rw [if_neg (by decide)]) ?_
  by_cases h0 : data.length = 0
  · refine Ev.pos (by omega) (Ev.end_ ?_)
    unfold wtold
    rw [if_pos h0]
    simp
  · refine Ev.neg (by omega) ?_
    by_cases h2 : (data.length : Int) > m
    · have e : wtold m data = [⟨4, []⟩] := by unfold wtold; rw [if_neg h0, if_pos h2]
      rw [e]
      refine Ev.pos (by rw [w]; simp) (Ev.pos (by omega) (Ev.pos (by simp; omega) (Ev.pos h2 (Ev.pos (by rw [rdl]) (Ev.end_ ?_)))))
      rw [rdl]
      rfl
    · have e : wtold m data = [⟨0, data⟩] := by unfold wtold; rw [if_neg h0, if_neg h2]
      rw [e]
      refine Ev.pos (by rw [w]; simp) (Ev.pos (by omega) (Ev.pos (by simp; omega) (Ev.neg h2 ?_)))
      rw [hF]
      refine Ev.name (Ev.pos (by rw [rdl]) ?_)
      rw [rdl]
      refine Ev.bind (Equal data data (by unfold Lim; omega)) (Ev.end_ (by simp))
theorem Wraps_j0 (s p m : Int) (hs : U32 s) (hp : U32 p) (h1 : 1 ≤ m) (ahead data behind : List Int) (ha : ahead.length ≤ 200) (hba : Bytes ahead) (hl : data.length ≤ 200) (hbd : Bytes data) (hb : behind.length ≤ 200) (hbb : Bytes behind) :
    Ev (fun k => marlinelaw05_AsyncWraps.j0 k s p m ahead data behind false) true := by
  have hr := andU hs hp
  have hst := stf_len s data
  have hb6 : Bytes [126] := Bytes.cons (by constructor <;> omega) Bytes.nil
  have hF := FeedD (Go.bits .and .u32 s p) m d0 ahead (by omega) (by simp [d0]) hba
  rw [show d0.data = [] from rfl, show d0.any = false from rfl, show d0.esc = false from rfl, show d0.long = false from rfl] at hF
  have hd : d0.data.length = 0 := rfl
  have hlen := dfeed_len (Go.bits .and .u32 s p) m ahead d0
  have hG := FeedD (Go.bits .and .u32 s p) m (dfeed (Go.bits .and .u32 s p) m d0 ahead).2 ([126] ++ stf s data ++ [126]) (by simp only [List.length_append, List.length_cons, List.length_nil]; omega) (by omega) ((hb6.append (stf_bytes hbd)).append hb6)
  rw [wraps hs hp hr h1 _ data hbd] at hG
  have hA := AllR (Go.bits .and .u32 s p) m hr h1 (ahead ++ [126]) (by simp; omega) (hba.append hb6)
  have hlen2 := dfeed_len (Go.bits .and .u32 s p) m (ahead ++ [126]) d0
  have efirst : (dfeed (Go.bits .and .u32 s p) m d0 (ahead ++ [126])).1 = (dfeed (Go.bits .and .u32 s p) m d0 ahead).1 ++ (dfeed (Go.bits .and .u32 s p) m (dfeed (Go.bits .and .u32 s p) m d0 ahead).2 [126]).1 := by
    rw [dfeed_append]
  have hl2 : (ahead ++ [126]).length ≤ 201 := by simp; omega
  have hwt : (wtold m data).length ≤ 1 := by unfold wtold; split; · simp
                                             · split <;> simp
  have hq := congrArg List.length efirst
  rw [List.length_append] at hq
  refine Ev.step (fun k => by simp only [marlinelaw05_AsyncWraps.j0]; rw [if_neg (by decide)]) ?_
  refine Ev.name (Ev.pos (by simp; omega) (Ev.name (Ev.pos (by simp; omega) (Ev.bind hA ?_))))
  rw [hF]
  refine Ev.name (Ev.bind (WrapS s hs data (by omega) hbd) ?_)
  simp only
  rw [hG]
  refine Ev.name (Ev.pos (by simp only [List.length_append]; omega) (Ev.name ?_))
  simp only
  rw [← List.append_assoc, ← efirst]
  generalize hfi : (dfeed (Go.bits .and .u32 s p) m d0 (ahead ++ [126])).1 = first at *
  have ok : SegsOk first := ⟨by omega, fun x hx => by have := hlen2.2.1 x hx; unfold Lim; omega⟩
  rw [List.length_map]
  refine Ev.neg (by rw [List.length_append]; omega) (Ev.pos (by omega) (Ev.pos (by rw [List.length_append]; omega) ?_))
  rw [Int.toNat_natCast, List.take_left' rfl]
  refine Ev.bind (SameR first ok) (Ev.pos rfl ?_)
  exact Wraps_j1 m h1 data behind hl hb hbb first (by omega) _
theorem AsyncWraps : marlinelaw05_AsyncWraps.Pure := by
  intro a0 a1 a2 l3 l4 l5 h0 h1 h2 hm3 hs3 hw3 hm4 hs4 hw4 hm5 hs5 hw5
  have hs : U32 a0 := u32_of_wf h0
  have hp : U32 a1 := u32_of_wf h1
  refine Ev.rounds ?_
  unfold marlinelaw05_AsyncWraps.f
  refine Ev.bind Speaks05 (Ev.pos rfl ?_)
  have out : Ev (fun k => marlinelaw05_AsyncWraps.j0 k a0 a1 a2 l3 l4 l5 true) true :=
    Ev.step (fun k => by simp only [marlinelaw05_AsyncWraps.j0]; rw [if_pos trivial]) (Ev.bind Speaks05 (Ev.now _))
  by_cases c1 : a2 < 1
  · exact Ev.pos c1 out
  refine Ev.neg c1 ?_
  by_cases c2 : a2 > 1048576
  · exact Ev.pos c2 out
  refine Ev.neg c2 ?_
  by_cases c3 : (l3.length : Int) > 200
  · exact Ev.pos c3 out
  refine Ev.neg c3 ?_
  by_cases c4 : (l4.length : Int) > 200
  · exact Ev.pos c4 out
  refine Ev.neg c4 ?_
  by_cases c5 : (l5.length : Int) > 200
  · rw [decide_eq_true c5]; exact out
  · rw [decide_eq_false c5]
    exact Wraps_j0 a0 a1 a2 hs hp (by omega) l3 l4 l5 (by omega) (bytes_of_wf hw3) (by omega) (bytes_of_wf hw4) (by omega) (bytes_of_wf hw5)
end Go.Proofs.Ytjmclghjhnbafaa.Sp

/- The plain part of marlinelaw05.AsyncWraps: its printed form gives true for every input in its kinds' ranges. -/
namespace Go.Proofs.Ytjmclghjhnbafaa.Pure
open Go.Proofs.Ytjmclghjhnbafaa.Print
theorem AsyncWraps : marlinelaw05_AsyncWraps.Pure := Go.Proofs.Ytjmclghjhnbafaa.Sp.AsyncWraps
end Go.Proofs.Ytjmclghjhnbafaa.Pure
