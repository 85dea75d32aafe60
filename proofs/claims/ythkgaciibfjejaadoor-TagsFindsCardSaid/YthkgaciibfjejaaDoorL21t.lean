/- The statement TagsTells, in plain words: true of any tags, any octets and any type. No condition. -/
import Derived.Test.YthkgaciibfjejaaDoorS21h
import Derived.Test.YthkgaciibfjejaaDoorPrintMarlinelaw21TagsTells
namespace Go.Proofs.YthkgaciibfjejaaDoor.Sp
open Go.RowKit Go.Proofs.YthkgaciibfjejaaDoor.Print Go.Proofs.YthkgaciibfjejaaDoorW.PrintWords Go.Proofs.YthkgaciibfjejaaDoorW.PrintLast Go.Proofs.YthkgaciibfjejaaDoor.Pl
set_option linter.unusedVariables false
theorem held_of {l : List RO} (h : (l.length ≤ 9223372036854775807 ∧ l.length * 32 ≤ 140737488351232) ∧ ∀ y0_ ∈ l, ((Lit.int .u16 y0_.f0).wf = true ∧ ((y0_.f1.length ≤ 9223372036854775807 ∧ y0_.f1.length * 1 ≤ 140737488351232) ∧ ∀ y1_ ∈ y0_.f1, (Lit.int .u8 y1_).wf = true))) : Held l :=
  ⟨h.1.2, fun o ho => ⟨u16_of_wf (h.2 o ho).1, by have := (h.2 o ho).2.1.2; omega, bytes_of_wf (h.2 o ho).2.2⟩⟩
def L1 : List Int := [257, 258, 259, 260, 261, 272, 513, 514, 515]
def L2 : List ByteArray := [(⟨#[115, 101, 114, 118, 105, 99, 101]⟩ : ByteArray), (⟨#[110, 97, 109, 101]⟩ : ByteArray), (⟨#[117, 110, 105, 113, 117, 101]⟩ : ByteArray), (⟨#[99, 111, 111, 107, 105, 101]⟩ : ByteArray), (⟨#[118, 101, 110, 100, 111, 114]⟩ : ByteArray), (⟨#[114, 101, 108, 97, 121]⟩ : ByteArray), (⟨#[110, 111, 45, 115, 101, 114, 118, 105, 99, 101]⟩ : ByteArray), (⟨#[110, 111, 45, 115, 121, 115, 116, 101, 109]⟩ : ByteArray), (⟨#[101, 114, 114, 111, 114]⟩ : ByteArray)]
theorem name_step (x : Int) (i : Nat) (v : Int) (s r : ByteArray) (h9 : i < 9) (hv : rd L1 (i : Int) = v) (hs : rdOf ByteArray.empty L2 (i : Int) = s) (here : x = v → r = s)
    (next : x ≠ v → Ev (fun k => marlineref21_Name.l0 k x L1 L2 ((i + 1 : Nat) : Int)) r) : Ev (fun k => marlineref21_Name.l0 k x L1 L2 (i : Int)) r := by
  have l1 : L1.length = 9 := rfl
  have l2 : L2.length = 9 := rfl
  by_cases h : x = v
  · exact Ev.step (fun k => by simp only [marlineref21_Name.l0, l1, l2, hv, hs]; rw [if_pos (by omega), if_pos (by omega), if_pos (by omega), if_pos h.symm, if_pos (by omega)]) (Ev.end_ (here h).symm)
  · exact Ev.step (fun k => by simp only [marlineref21_Name.l0, l1, l2, hv]; rw [if_pos (by omega), if_pos (by omega), if_pos (by omega), if_neg (Ne.symm h), sucB i (by omega)]) (next h)
theorem rNameL (x : Int) : Ev (fun k => marlineref21_Name.f k x) (nameOf x) := by
  unfold marlineref21_Name.f
  refine name_step x 0 257 _ _ (by omega) rfl rfl (fun h => by subst h; rfl) fun h0 => ?_
  refine name_step x 1 258 _ _ (by omega) rfl rfl (fun h => by subst h; rfl) fun h1 => ?_
  refine name_step x 2 259 _ _ (by omega) rfl rfl (fun h => by subst h; rfl) fun h2 => ?_
  refine name_step x 3 260 _ _ (by omega) rfl rfl (fun h => by subst h; rfl) fun h3 => ?_
  refine name_step x 4 261 _ _ (by omega) rfl rfl (fun h => by subst h; rfl) fun h4 => ?_
  refine name_step x 5 272 _ _ (by omega) rfl rfl (fun h => by subst h; rfl) fun h5 => ?_
  refine name_step x 6 513 _ _ (by omega) rfl rfl (fun h => by subst h; rfl) fun h6 => ?_
  refine name_step x 7 514 _ _ (by omega) rfl rfl (fun h => by subst h; rfl) fun h7 => ?_
  refine name_step x 8 515 _ _ (by omega) rfl rfl (fun h => by subst h; rfl) fun h8 => ?_
  refine Ev.step (fun k => by simp only [marlineref21_Name.l0]; rw [if_neg (by omega)]) (Ev.end_ ?_)
  unfold nameOf
  simp only [if_neg h0, if_neg h1, if_neg h2, if_neg h3, if_neg h4, if_neg h5, if_neg h6, if_neg h7, if_neg h8]
theorem Speaks21 : Ev (fun k => marlinelaw21_speaks.f k) true := by
  unfold marlinelaw21_speaks.f
  have hp : gput [(⟨257, []⟩ : AO)] = ([1, 1, 0, 0], 0) := by decide
  have hP := GPutL [(⟨257, []⟩ : AO)] (by decide) (fun o ho => by rw [List.mem_singleton.1 ho]; exact ⟨by decide, by decide⟩)
  rw [hp] at hP
  refine Ev.bind hP (Ev.pos rfl (Ev.bind (Equal [1, 1, 0, 0] [1, 1, 0, 0] (by unfold Lim; decide)) (Ev.pos (by decide) ?_)))
  have e : tags_Name.f 257 = some (nameOf 257) := by unfold tags_Name.f; rw [if_pos (by decide)]
  rw [e]
  refine Ev.name (Ev.end_ ?_)
  rw [ba_toList]
  rfl
theorem TagsTells : marlinelaw21_TagsTells.Pure := by
  intro l0 l1 x h0 _ _ h2 h3
  have H := held_of h0
  have hb := bytes_of_wf h2
  have hx := u16_of_wf h3
  refine Ev.rounds ?_
  unfold marlinelaw21_TagsTells.f
  refine Ev.bind Speaks21 (Ev.pos rfl (Ev.bind (FewL l0 H) ?_))
  have out : Ev (fun k => marlinelaw21_TagsTells.j0 k l0 l1 x true) true := by
    refine Ev.step (fun k => by simp only [marlinelaw21_TagsTells.j0]; rw [if_pos trivial]) (Ev.bind Speaks21 (Ev.now _))
  by_cases hF : l0.length ≤ 60 ∧ tot l0 ≤ 1000
  · refine Ev.pos (by simp [hF]) ?_
    by_cases hq : (l1.length : Int) > 1000
    · rw [decide_eq_true hq]; exact out
    rw [decide_eq_false hq]
    have hL : Lim l1 := by unfold Lim; omega
    have s0 : size (l0.map ao) ≤ 1000000 := by rw [size_ao]; omega
    have u0 : ∀ o ∈ l0, U16 o.f0 := fun o ho => (H.2 o ho).1
    have u1 : ∀ o ∈ l0.map ao, U16 o.f0 := by
      intro o ho
      obtain ⟨y, hy, rfl⟩ := List.mem_map.1 ho
      exact u0 y hy
    have hlen : (gput (l0.map ao)).1.length ≤ 1000000 := by
      by_cases hp : (gput (l0.map ao)).2 = 0
      · rw [gput_length _ hp]; omega
      · rw [gput_err _ hp]; simp
    have hg := gget_n l1.length l1 (Nat.le_refl _) hb
    have hgb := bytes_gget l1.length l1 (Nat.le_refl _) hb
    have hrb : ∀ o ∈ (gget l1).1.map ro, Bytes o.f1 := by
      intro o ho
      obtain ⟨y, hy, rfl⟩ := List.mem_map.1 ho
      exact (hgb y hy).2
    refine Ev.step (fun k => by simp only [marlinelaw21_TagsTells.j0]; rw [if_neg (by decide)]) ?_
    refine Ev.bind (OfL l0 (by omega)) (Ev.bind (GPutL _ s0 u1) (Ev.bind (rPutL l0 s0 u0) (Ev.bind (gGetL l1 hb hL) (Ev.bind (rGetL l1.length l1 (Nat.le_refl _) hb hL) (Ev.pos rfl ?_)))))
    refine Ev.bind (Equal _ _ hlen) (Ev.pos (by simp) (Ev.pos rfl (Ev.pos rfl ?_)))
    refine Ev.bind (ToL _ (by omega)) ?_
    refine Ev.bind (rSameL _ _ (by rw [List.length_map]; omega) hrb hrb) (Ev.pos (by simp) ?_)
    have e : tags_Name.f x = some (nameOf x) := by unfold tags_Name.f; rw [if_pos hx]
    rw [e]
    refine Ev.name ?_
    rw [w64 (by omega) (by omega)]
    exact Ev.bind (rNameL x) (Ev.end_ (by simp))
  · refine Ev.neg (by simpa using hF) out
end Go.Proofs.YthkgaciibfjejaaDoor.Sp
