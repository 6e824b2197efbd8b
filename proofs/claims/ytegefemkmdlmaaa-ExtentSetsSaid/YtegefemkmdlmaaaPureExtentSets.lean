/- The pure statement of ExtentSets, and its proof. -/
import Derived.Test.YtegefemkmdlmaaaF16
import Derived.Test.YtegefemkmdlmaaaF69
import Derived.Test.YtegefemkmdlmaaaOpen
import Derived.Test.YtegefemkmdlmaaaAwk5
import Derived.Test.YtegefemkmdlmaaaLawS
import Derived.Test.YtegefemkmdlmaaaLawI
namespace Go.Proofs.Ytegefemkmdlmaaa.P
open Go.RowKit Go.Proofs.YtegefemkmdlmaaaW.PrintWords Go.Proofs.YtegefemkmdlmaaaW.PrintLast Go.Proofs.YtegefemkmdlmaaaW.PrintMore
/-- The pure statement of ExtentSets. -/
def dasdlaw05_ExtentSets.Pure : Prop := ∀ (l0 : List S103) (l1 : List S103) (a2 : Int), (∀ r ∈ l0, okR r = true) → l0.length ≤ 9223372036854775807 → (∀ r ∈ l1, okR r = true) → l1.length ≤ 9223372036854775807 → (Lit.int .i64 a2).wf = true → ∃ k, dasdlaw05_ExtentSets.f k l0 l1 a2 = some true
theorem sets_j0 (l m : List S103) (x : Int) (b : Bool) (hl : ∀ r ∈ l, okR r = true) (hm : ∀ r ∈ m, okR r = true) (hb : b = false → l.length ≤ 30 ∧ m.length ≤ 30) : Ev (fun k => dasdlaw05_ExtentSets.j0 k l m x b) true := by
  cases b with
  | true =>
    refine Ev.step (f := fun k => (dasdlaw05_awake.f k).bind fun t => some t) (fun k => by simp only [dasdlaw05_ExtentSets.j0, if_true]) ?_
    exact Ev.bind awake5 (Ev.now _)
  | false =>
    obtain ⟨h0, h1⟩ := hb rfl
    have okl := okL_mk hl (by omega)
    have okm := okL_mk hm (by omega)
    refine Ev.step (f := fun k => (extent_Union.f l m).bind _) (fun k => by simp only [dasdlaw05_ExtentSets.j0, Bool.false_eq_true, if_false]; rfl) ?_
    have mix : ∀ f, mixF f l m = some (runsOf fun t => f (inL l t) (inL m t)) := fun f => if_pos ⟨okl, okm⟩
    unfold extent_Union.f extent_Common.f extent_Minus.f
    simp only [mix, Option.bind_some]
    have len : ∀ has : Nat → Bool, (runsOf has).length ≤ 1099511627776 := fun has => by have := runsOf_length has; omega
    refine Ev.bind (Set_ev l m okl okm true true true) (Ev.bind (same_ev _ _ (len _)) ?_)
    have e1 : decide ((runsOf fun t => inL l t || inL m t) = runsOf fun t => pick true true true (inL l t) (inL m t)) = true := decide_eq_true (runsOf_congr fun i _ => by unfold pick; cases inL l i <;> cases inL m i <;> rfl)
    simp only [e1, if_true]
    refine Ev.bind (Set_ev l m okl okm false false true) (Ev.bind (same_ev _ _ (len _)) ?_)
    have e2 : decide ((runsOf fun t => inL l t && inL m t) = runsOf fun t => pick false false true (inL l t) (inL m t)) = true := decide_eq_true (runsOf_congr fun i _ => by unfold pick; cases inL l i <;> cases inL m i <;> rfl)
    simp only [e2, if_true]
    refine Ev.bind (Set_ev l m okl okm true false false) (Ev.bind (same_ev _ _ (len _)) ?_)
    have e3 : decide ((runsOf fun t => inL l t && !inL m t) = runsOf fun t => pick true false false (inL l t) (inL m t)) = true := decide_eq_true (runsOf_congr fun i _ => by unfold pick; cases inL l i <;> cases inL m i <;> rfl)
    simp only [e3, if_true]
    refine Ev.bind (contains_ev l okl x) (Ev.bind (in_ev l okl x) ?_)
    simp only [beq_self_eq_true]
    exact Ev.now _
end Go.Proofs.Ytegefemkmdlmaaa.P
namespace Go.Proofs.Ytegefemkmdlmaaa.Pure
open Go.Proofs.Ytegefemkmdlmaaa.P
open Go.RowKit Go.Proofs.YtegefemkmdlmaaaW.PrintWords Go.Proofs.YtegefemkmdlmaaaW.PrintLast Go.Proofs.YtegefemkmdlmaaaW.PrintMore
theorem ExtentSets : dasdlaw05_ExtentSets.Pure := by
  intro l m x hl _ hm _ _
  apply Ev.rounds
  unfold dasdlaw05_ExtentSets.f
  refine Ev.bind awake5 ?_
  simp only [if_true]
  by_cases h : (l.length : Int) > 30
  · simp only [if_pos h]
    exact sets_j0 l m x true hl hm (fun h => by simp at h)
  · simp only [if_neg h]
    refine sets_j0 l m x _ hl hm (fun h2 => ?_)
    have := of_decide_eq_false h2
    omega
end Go.Proofs.Ytegefemkmdlmaaa.Pure
