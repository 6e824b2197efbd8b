/- The pure statement of ExtentNormal, and its proof. -/
import Derived.Test.YtegefemkmdlmaaaF7
import Derived.Test.YtegefemkmdlmaaaF40
import Derived.Test.YtegefemkmdlmaaaF41
import Derived.Test.YtegefemkmdlmaaaOpen
import Derived.Test.YtegefemkmdlmaaaAwk5
import Derived.Test.YtegefemkmdlmaaaLawS
namespace Go.Proofs.Ytegefemkmdlmaaa.P
open Go.RowKit Go.Proofs.YtegefemkmdlmaaaW.PrintWords Go.Proofs.YtegefemkmdlmaaaW.PrintLast Go.Proofs.YtegefemkmdlmaaaW.PrintMore
/-- The pure statement of ExtentNormal. -/
def dasdlaw05_ExtentNormal.Pure : Prop := ∀ (l0 : List S103), (∀ r ∈ l0, okR r = true) → l0.length ≤ 9223372036854775807 → ∃ k, dasdlaw05_ExtentNormal.f k l0 = some true
theorem valid_ev (l : List S103) (hok : okL l = true) : Ev (fun k => extent_Valid.f k l) (decide (l = runsOf fun t => inL l t)) := by
  unfold extent_Valid.f extent_Normal.f
  rw [if_pos hok]
  simp only [Option.bind_some]
  exact Ev.bind (equal_ev l _ (okL_len hok)) (Ev.now _)
theorem normal_j0 (l : List S103) (b : Bool) (hl : ∀ r ∈ l, okR r = true) (hb : b = false → l.length ≤ 30) : Ev (fun k => dasdlaw05_ExtentNormal.j0 k l b) true := by
  cases b with
  | true =>
    refine Ev.step (f := fun k => (dasdlaw05_awake.f k).bind fun t => some t) (fun k => by simp only [dasdlaw05_ExtentNormal.j0, if_true]) ?_
    exact Ev.bind awake5 (Ev.now _)
  | false =>
    have h0 := hb rfl
    have okl := okL_mk hl (by omega)
    have okn : okL ([] : List S103) = true := by rfl
    refine Ev.step (f := fun k => (dasdref05_Normal.f k l).bind _) (fun k => by simp only [dasdlaw05_ExtentNormal.j0, Bool.false_eq_true, if_false]; rfl) ?_
    have len : ∀ has : Nat → Bool, (runsOf has).length ≤ 1099511627776 := fun has => by have := runsOf_length has; omega
    have hn : Ev (fun k => dasdref05_Normal.f k l) (runsOf fun t => inL l t) := by
      unfold dasdref05_Normal.f
      refine Ev.bind (Set_ev l [] okl okn true false false) ?_
      have e : (runsOf fun t => pick true false false (inL l t) (inL [] t)) = runsOf fun t => inL l t := runsOf_congr fun i _ => by unfold pick; cases inL l i <;> rfl
      rw [e]
      exact Ev.now _
    refine Ev.bind hn (Ev.bind (valid_ev l okl) (Ev.bind (same_ev _ _ (by omega)) ?_))
    simp only [beq_self_eq_true, if_true, extent_Normal.f, if_pos okl, Option.bind_some]
    refine Ev.bind (same_ev _ _ (len _)) ?_
    simp only [decide_true, if_true]
    refine Ev.bind (valid_ev _ (okL_runsOf _)) ?_
    rw [runsOf_runsOf, decide_eq_true rfl]
    exact Ev.now _
end Go.Proofs.Ytegefemkmdlmaaa.P
namespace Go.Proofs.Ytegefemkmdlmaaa.Pure
open Go.Proofs.Ytegefemkmdlmaaa.P
open Go.RowKit Go.Proofs.YtegefemkmdlmaaaW.PrintWords Go.Proofs.YtegefemkmdlmaaaW.PrintLast Go.Proofs.YtegefemkmdlmaaaW.PrintMore
theorem ExtentNormal : dasdlaw05_ExtentNormal.Pure := by
  intro l hl _
  apply Ev.rounds
  unfold dasdlaw05_ExtentNormal.f
  refine Ev.bind awake5 ?_
  simp only [if_true]
  refine normal_j0 l _ hl (fun h2 => ?_)
  have := of_decide_eq_false h2
  omega
end Go.Proofs.Ytegefemkmdlmaaa.Pure
