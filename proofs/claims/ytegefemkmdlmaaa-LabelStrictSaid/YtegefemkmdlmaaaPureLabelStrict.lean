/- The pure statement of LabelStrict: what is decoded is encoded as it stood, or nothing is decoded. -/
import Derived.Test.YtegefemkmdlmaaaF10
import Derived.Test.YtegefemkmdlmaaaLabC
import Derived.Test.YtegefemkmdlmaaaLabD
namespace Go.Proofs.Ytegefemkmdlmaaa.Pure
open Go.RowKit Go.Proofs.Ytegefemkmdlmaaa.P Go.Proofs.YtegefemkmdlmaaaW.PrintWords Go.Proofs.YtegefemkmdlmaaaW.PrintLast Go.Proofs.YtegefemkmdlmaaaW.PrintMore
theorem strict_tab (t : Int) : label_TableTracks.f t = some (if 4 ≤ t ∧ t ≤ 128 then (t + 3) / 4 else 0) := by
  unfold label_TableTracks.f
  rw [tracksOK_is, Option.bind_some]
  by_cases h : 4 ≤ t ∧ t ≤ 128
  · rw [decide_eq_true h, if_pos rfl, if_pos h, wrap_in (t + 3) (by omega) (by omega), Int.tdiv_eq_ediv_of_nonneg (by omega), wrap_in _ (by omega) (by omega)]
  · rw [decide_eq_false h, if_neg (by simp), if_neg h]
theorem lstrict_j1 (x : ByteArray) : Ev (fun k => dasdlaw07_LabelStrict.j1 k x false) true := by
  refine Ev.step (f := fun k => (label_DecodeHead.f k x).bind _) (fun k => by simp only [dasdlaw07_LabelStrict.j1, Bool.false_eq_true, if_false]; rfl) ?_
  refine Ev.bind (dhead_ev x) ?_
  obtain ⟨n, hn⟩ : ∃ n, n = (readT x 0 8).1 := ⟨_, rfl⟩
  obtain ⟨t, ht⟩ : ∃ t, t = (readC (readT x 0 8).2.1 (readT x 0 8).2.2 128).1 := ⟨_, rfl⟩
  have e : dheadS x = if headE n t ≠ ⟨#[]⟩ ∧ headE n t = x then (n, t, 0) else (⟨#[]⟩, 0, 11) := by rw [hn, ht]; rfl
  rw [e]
  by_cases c : headE n t ≠ ⟨#[]⟩ ∧ headE n t = x
  · rw [if_pos c]
    simp only [if_true]
    refine Ev.bind (ehead_ev n t) ?_
    have hv : nameV n = true ∧ 4 ≤ t ∧ t ≤ 128 := by
      unfold headE at c
      by_cases h : nameV n = true ∧ 4 ≤ t ∧ t ≤ 128
      · exact h
      · rw [if_neg h] at c; exact absurd rfl c.1
    simp only [if_pos ((list_eq _ _).2 c.2)]
    refine Ev.bind (name_ev n) ?_
    simp only [hv.1, if_true, strict_tab, Option.bind_some]
    rw [if_pos hv.2, decide_eq_true (show (t + 3) / 4 > 0 by omega)]
    exact Ev.now _
  · rw [if_neg c]
    simp only [if_true, if_neg (show ¬ (11 : Int) = 0 by decide), if_pos ((nil_eq ⟨#[]⟩).2 rfl)]
    exact Ev.now _
theorem lstrict_j0 (x : ByteArray) (t : Int) (b : Bool) : Ev (fun k => dasdlaw07_LabelStrict.j0 k x t b) true := by
  cases b with
  | true =>
    refine Ev.step (f := fun k => (dasdlaw07_awake.f k).bind fun t => some t) (fun k => by simp only [dasdlaw07_LabelStrict.j0, if_true]) ?_
    exact Ev.bind awake7 (Ev.now _)
  | false =>
    refine Ev.step (f := fun k => (label_Decode.f k x t).bind _) (fun k => by simp only [dasdlaw07_LabelStrict.j0, Bool.false_eq_true, if_false]; rfl) ?_
    refine Ev.bind (ldecode_ev x t) ?_
    rcases decS_cases x t with h | ⟨h0, h1, h2⟩
    · rw [h]
      simp only [tup, if_neg (show ¬ (11 : Int) = 0 by decide), if_true]
      refine Ev.bind (lequal_ev zeroLab zeroLab (Nat.zero_le _)) ?_
      simp only [decide_true, Bool.not_true]
      exact lstrict_j1 x
    · simp only [tup, h0, if_true]
      refine Ev.bind (encode_ev (decS x t).1 t h2) ?_
      simp only [h1, if_true]
      exact lstrict_j1 x
theorem LabelStrict : dasdlaw07_LabelStrict.Pure := by
  intro x t _ _
  apply Ev.rounds
  unfold dasdlaw07_LabelStrict.f
  refine Ev.bind awake7 ?_
  simp only [if_true]
  exact lstrict_j0 x t _
end Go.Proofs.Ytegefemkmdlmaaa.Pure
