/- The pure statement of ExtentSizes, and its proof. -/
import Derived.Test.YtegefemkmdlmaaaF12
import Derived.Test.YtegefemkmdlmaaaOpen
import Derived.Test.YtegefemkmdlmaaaAwk5
import Derived.Test.YtegefemkmdlmaaaLawN
namespace Go.Proofs.Ytegefemkmdlmaaa.P
open Go.RowKit Go.Proofs.YtegefemkmdlmaaaW.PrintWords Go.Proofs.YtegefemkmdlmaaaW.PrintLast Go.Proofs.YtegefemkmdlmaaaW.PrintMore
/-- The pure statement of ExtentSizes. -/
def dasdlaw05_ExtentSizes.Pure : Prop := ∀ (l0 : List S103) (l1 : List S103), (∀ r ∈ l0, okR r = true) → l0.length ≤ 9223372036854775807 → (∀ r ∈ l1, okR r = true) → l1.length ≤ 9223372036854775807 → ∃ k, dasdlaw05_ExtentSizes.f k l0 l1 = some true
theorem sizes_j0 (l m : List S103) (b : Bool) (hl : ∀ r ∈ l, okR r = true) (hm : ∀ r ∈ m, okR r = true) (hb : b = false → l.length ≤ 30 ∧ m.length ≤ 30) : Ev (fun k => dasdlaw05_ExtentSizes.j0 k l m b) true := by
  cases b with
  | true =>
    refine Ev.step (f := fun k => (dasdlaw05_awake.f k).bind fun t => some t) (fun k => by simp only [dasdlaw05_ExtentSizes.j0, if_true]) ?_
    exact Ev.bind awake5 (Ev.now _)
  | false =>
    obtain ⟨h0, h1⟩ := hb rfl
    have okl := okL_mk hl (by omega)
    have okm := okL_mk hm (by omega)
    have mix : ∀ f, mixF f l m = some (runsOf fun t => f (inL l t) (inL m t)) := fun f => if_pos ⟨okl, okm⟩
    have xim : ∀ f, mixF f m l = some (runsOf fun t => f (inL m t) (inL l t)) := fun f => if_pos ⟨okm, okl⟩
    obtain ⟨A, hA⟩ : ∃ A, A = runsOf fun t => inL l t := ⟨_, rfl⟩
    obtain ⟨B, hB⟩ : ∃ B, B = runsOf fun t => inL m t := ⟨_, rfl⟩
    obtain ⟨U, hU⟩ : ∃ U, U = runsOf fun t => inL l t || inL m t := ⟨_, rfl⟩
    obtain ⟨C, hC⟩ : ∃ C, C = runsOf fun t => inL l t && inL m t := ⟨_, rfl⟩
    obtain ⟨D, hD⟩ : ∃ D, D = runsOf fun t => inL l t && !inL m t := ⟨_, rfl⟩
    obtain ⟨E, hE⟩ : ∃ E, E = runsOf fun t => inL m t && !inL l t := ⟨_, rfl⟩
    have nA : extent_Normal.f l = some A := by rw [hA]; exact if_pos okl
    have nB : extent_Normal.f m = some B := by rw [hB]; exact if_pos okm
    have nU : extent_Union.f l m = some U := by rw [hU]; exact mix _
    have nC : extent_Common.f l m = some C := by rw [hC]; exact mix _
    have nD : extent_Minus.f l m = some D := by rw [hD]; exact mix _
    have nE : extent_Minus.f m l = some E := by rw [hE]; exact xim _
    have oA : okL A = true := by rw [hA]; exact okL_runsOf _
    have oB : okL B = true := by rw [hB]; exact okL_runsOf _
    have oU : okL U = true := by rw [hU]; exact okL_runsOf _
    have oC : okL C = true := by rw [hC]; exact okL_runsOf _
    have oD : okL D = true := by rw [hD]; exact okL_runsOf _
    have oE : okL E = true := by rw [hE]; exact okL_runsOf _
    have lC : C.length ≤ 128 := by rw [hC]; exact runsOf_length _
    have lD : D.length ≤ 128 := by rw [hD]; exact runsOf_length _
    have lE : E.length ≤ 128 := by rw [hE]; exact runsOf_length _
    have lU : U.length ≤ 128 := by rw [hU]; exact runsOf_length _
    have sA : sizeL A = cnt (fun t => inL l t) 128 := by rw [hA]; exact sizeL_runsOf _
    have sB : sizeL B = cnt (fun t => inL m t) 128 := by rw [hB]; exact sizeL_runsOf _
    have sU : sizeL U = cnt (fun t => inL l t || inL m t) 128 := by rw [hU]; exact sizeL_runsOf _
    have sC : sizeL C = cnt (fun t => inL l t && inL m t) 128 := by rw [hC]; exact sizeL_runsOf _
    have sD : sizeL D = cnt (fun t => inL l t && !inL m t) 128 := by rw [hD]; exact sizeL_runsOf _
    have sE : sizeL E = cnt (fun t => inL m t && !inL l t) 128 := by rw [hE]; exact sizeL_runsOf _
    have two := cnt_both (fun t => inL l t) (fun t => inL m t) 128
    have three := cnt_parts (fun t => inL l t) (fun t => inL m t) 128
    rw [← sU, ← sC, ← sA, ← sB] at two
    rw [← sU, ← sC, ← sD, ← sE] at three
    have oY : okL (C ++ D ++ E) = true := by
      refine okL_mk (fun r hr => ?_) (by simp only [List.length_append]; omega)
      rcases List.mem_append.1 hr with hr | hr
      · rcases List.mem_append.1 hr with hr | hr
        · exact okL_all oC r hr
        · exact okL_all oD r hr
      · exact okL_all oE r hr
    have iY : ∀ i : Nat, i < 128 → inL (C ++ D ++ E) i = (inL l i || inL m i) := fun i hi => by
      rw [inL_append, inL_append, hC, hD, hE, inL_runsOf, inL_runsOf, inL_runsOf, decide_eq_true hi]
      cases inL l i <;> cases inL m i <;> rfl
    have nY : (runsOf fun t => inL (C ++ D ++ E) t) = U := by rw [hU]; exact runsOf_congr iY
    have dY : disjL (C ++ D ++ E) = true := by
      unfold disjL
      rw [nY, sizeL_append, sizeL_append]
      exact decide_eq_true three
    have mY : extent_Minus.f U B = some D := by
      have : extent_Minus.f U B = some (runsOf fun t => inL U t && !inL B t) := if_pos ⟨oU, oB⟩
      rw [this, hD]
      congr 1
      apply runsOf_congr
      intro i hi
      rw [hU, hB, inL_runsOf, inL_runsOf, decide_eq_true hi]
      cases inL l i <;> cases inL m i <;> rfl
    have b1 := sizeL_bound U
    have b2 := sizeL_bound C
    have b3 := sizeL_bound A
    have b4 := sizeL_bound B
    refine Ev.step (f := fun k => (extent_Normal.f l).bind _) (fun k => by simp only [dasdlaw05_ExtentSizes.j0, Bool.false_eq_true, if_false]; rfl) ?_
    simp only [nA, nB, nU, nC, Option.bind_some]
    refine Ev.bind (size_ev U oU) (Ev.bind (size_ev C oC) (Ev.bind (size_ev A oA) (Ev.bind (size_ev B oB) ?_)))
    simp only [nD, nE, Option.bind_some, two, if_true, List.nil_append, List.length_nil, List.length_append]
    simp only [if_pos (show 0 + C.length < 8796093022208 by omega), if_pos (show C.length + D.length < 8796093022208 by omega), if_pos (show C.length + D.length + E.length < 8796093022208 by omega)]
    refine Ev.bind (disj_ev _ oY) ?_
    simp only [dY, if_true, extent_Normal.f, if_pos oY, Option.bind_some, nY]
    refine Ev.bind (same_ev _ _ (by omega)) ?_
    simp only [decide_true, if_true, mY, Option.bind_some]
    refine Ev.bind (same_ev _ _ (by omega)) ?_
    rw [decide_eq_true rfl]
    exact Ev.now _
end Go.Proofs.Ytegefemkmdlmaaa.P
namespace Go.Proofs.Ytegefemkmdlmaaa.Pure
open Go.Proofs.Ytegefemkmdlmaaa.P
open Go.RowKit Go.Proofs.YtegefemkmdlmaaaW.PrintWords Go.Proofs.YtegefemkmdlmaaaW.PrintLast Go.Proofs.YtegefemkmdlmaaaW.PrintMore
theorem ExtentSizes : dasdlaw05_ExtentSizes.Pure := by
  intro l m hl _ hm _
  apply Ev.rounds
  unfold dasdlaw05_ExtentSizes.f
  refine Ev.bind awake5 ?_
  simp only [if_true]
  by_cases h : (l.length : Int) > 30
  · simp only [if_pos h]
    exact sizes_j0 l m true hl hm (fun h => by simp at h)
  · simp only [if_neg h]
    refine sizes_j0 l m _ hl hm (fun h2 => ?_)
    have := of_decide_eq_false h2
    omega
end Go.Proofs.Ytegefemkmdlmaaa.Pure
