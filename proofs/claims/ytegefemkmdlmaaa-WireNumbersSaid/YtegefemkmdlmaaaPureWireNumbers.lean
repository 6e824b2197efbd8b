/- The pure statement of WireNumbers: AppendNumber appends the encoding of every number. -/
import Derived.Test.YtegefemkmdlmaaaF3
import Derived.Test.YtegefemkmdlmaaaAwk1
import Derived.OpenShut
import Derived.Test.YtegefemkmdlmaaaLawW
namespace Go.Proofs.Ytegefemkmdlmaaa.Pure
open Go.RowKit Go.Proofs.Ytegefemkmdlmaaa.P Go.Proofs.YtegefemkmdlmaaaW.PrintWords Go.Proofs.YtegefemkmdlmaaaW.PrintLast
theorem WireNumbers : dasdlaw01_WireNumbers.Pure := by
  intro s n hs hn
  have hb := bounds_u64 hn
  apply Ev.rounds
  unfold dasdlaw01_WireNumbers.f
  refine Ev.bind awake1 ?_
  simp only [if_true]
  by_cases h : (s.size : Int) > 100
  · simp only [if_pos h]
    exact Ev.now _
  · simp only [if_neg h]
    rw [appendNumber_eq s n (by omega) (by omega) (by omega)]
    simp only [Option.bind_some]
    refine Ev.bind (number_ev n (by omega) (by omega)) ?_
    have hz := numE_size n
    simp only [if_pos (show s.size + (numE n).size ≤ 9223372036854775807 by omega), beq_self_eq_true]
    exact Ev.now _
end Go.Proofs.Ytegefemkmdlmaaa.Pure
