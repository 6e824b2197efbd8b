/- The pure statement of LabelSlots: how many tracks the table takes, and how many slots it has. -/
import Derived.OpenShut
import Derived.Test.YtegefemkmdlmaaaF21
import Derived.Test.YtegefemkmdlmaaaF90
import Derived.Test.YtegefemkmdlmaaaF91
import Derived.Test.YtegefemkmdlmaaaLabA
namespace Go.Proofs.Ytegefemkmdlmaaa.Pure
open Go.RowKit Go.Proofs.Ytegefemkmdlmaaa.P Go.Proofs.YtegefemkmdlmaaaW.PrintWords Go.Proofs.YtegefemkmdlmaaaW.PrintLast Go.Proofs.YtegefemkmdlmaaaW.PrintMore
theorem slots_tab (t : Int) : label_TableTracks.f t = some (if 4 ≤ t ∧ t ≤ 128 then (t + 3) / 4 else 0) := by
  unfold label_TableTracks.f
  rw [tracksOK_is, Option.bind_some]
  by_cases h : 4 ≤ t ∧ t ≤ 128
  · rw [decide_eq_true h, if_pos rfl, if_pos h, wrap_in (t + 3) (by omega) (by omega), Int.tdiv_eq_ediv_of_nonneg (by omega), wrap_in _ (by omega) (by omega)]
  · rw [decide_eq_false h, if_neg (by simp), if_neg h]
theorem slots_ref (t : Int) : dasdref07_TableTracks.f t = some (if 4 ≤ t ∧ t ≤ 128 then (t + 3) / 4 else 0) := by
  have hv : dasdref07_valid.f t = some (decide (4 ≤ t ∧ t ≤ 128)) := by
    unfold dasdref07_valid.f
    by_cases h : t ≥ 4
    · rw [if_pos h]; congr 1; rw [decide_eq_decide]; omega
    · rw [if_neg h, decide_eq_false (by omega)]
  unfold dasdref07_TableTracks.f
  rw [hv, Option.bind_some]
  by_cases h : 4 ≤ t ∧ t ≤ 128
  · rw [decide_eq_true h, if_pos rfl, if_pos h, wrap_in (t + 3) (by omega) (by omega), Int.tdiv_eq_ediv_of_nonneg (by omega), wrap_in _ (by omega) (by omega)]
  · rw [decide_eq_false h, if_neg (by simp), if_neg h]
theorem LabelSlots : dasdlaw07_LabelSlots.Pure := by
  intro t ht
  have hb := bounds_i64 ht
  apply Ev.rounds
  unfold dasdlaw07_LabelSlots.f label_Slots.f dasdref07_Slots.f
  refine Ev.bind awake7 ?_
  simp only [if_true, slots_tab, slots_ref, Option.bind_some]
  by_cases h : 4 ≤ t ∧ t ≤ 128
  · obtain ⟨q, hq⟩ : ∃ q, q = (t + 3) / 4 := ⟨_, rfl⟩
    have hw : wrap64 (q - 1) = q - 1 := wrap_in _ (by omega) (by omega)
    have hm : mx 0 (q - 1) = q - 1 := by unfold mx; split <;> omega
    simp only [if_pos h, ← hq, hw, hm]
    rw [wrap_in (q - 1 + 1) (by omega) (by omega), wrap_in (t - q) (by omega) (by omega), wrap_in (4 * q) (by omega) (by omega), wrap_in (t + 4) (by omega) (by omega)]
    rw [if_neg (show ¬ q = 0 by omega), if_pos (show q = q - 1 + 1 by omega), if_pos (show t - q ≥ q - 1 by omega), if_pos (show q ≥ 1 by omega), if_pos (show 4 * q ≥ t by omega), decide_eq_true (show 4 * q < t + 4 by omega)]
    exact Ev.now _
  · simp only [if_neg h]
    have hm : mx 0 (wrap64 (0 - 1)) = 0 := by unfold mx wrap64; simp
    simp only [hm, if_true]
    exact Ev.now _
end Go.Proofs.Ytegefemkmdlmaaa.Pure
