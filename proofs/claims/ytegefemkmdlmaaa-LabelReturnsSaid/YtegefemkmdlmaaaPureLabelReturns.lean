/- The pure statement of LabelReturns, and its proof. -/
import Derived.Test.YtegefemkmdlmaaaF24
import Derived.Test.YtegefemkmdlmaaaF84
import Derived.Test.YtegefemkmdlmaaaOpen
import Derived.Test.YtegefemkmdlmaaaLabC
namespace Go.Proofs.Ytegefemkmdlmaaa.P
open Go.RowKit Go.Proofs.YtegefemkmdlmaaaW.PrintWords Go.Proofs.YtegefemkmdlmaaaW.PrintLast Go.Proofs.YtegefemkmdlmaaaW.PrintMore
/-- The pure statement of LabelReturns. -/
def dasdlaw07_LabelReturns.Pure : Prop := ∀ (a0_0 a0_1 : Int) (a0_2 a0_3 : ByteArray) (l0_4 : List S103) (a1 : Int), (Lit.int .i64 a0_0).wf = true → (Lit.int .i64 a0_1).wf = true → a0_2.size ≤ maxLen → a0_3.size ≤ maxLen → (∀ r ∈ l0_4, okR r = true) → l0_4.length ≤ 9223372036854775807 → (Lit.int .i64 a1).wf = true → ∃ k, dasdlaw07_LabelReturns.f k a0_0 a0_1 a0_2 a0_3 l0_4 a1 = some true
theorem ret_few (L : Lab) : ∃ b, dasdref07_Few.f L.id L.unit L.name L.note L.ext = some b ∧ (b = true → L.ext.length ≤ 30) := by
  unfold dasdref07_Few.f
  by_cases h : (L.name.size : Int) ≤ 100
  · rw [if_pos h]
    by_cases h1 : (L.note.size : Int) ≤ 500
    · rw [if_pos h1]
      refine ⟨_, rfl, fun h2 => ?_⟩
      have := of_decide_eq_true h2
      omega
    · rw [if_neg h1]; exact ⟨_, rfl, fun h => by simp at h⟩
  · rw [if_neg h]; exact ⟨_, rfl, fun h => by simp at h⟩
theorem returns_j0 (L : Lab) (t : Int) (b : Bool) (hb : b = false → okL L.ext = true) : Ev (fun k => dasdlaw07_LabelReturns.j0 k t b L.id L.unit L.name L.note L.ext) true := by
  cases b with
  | true =>
    refine Ev.step (f := fun k => (dasdlaw07_awake.f k).bind fun t => some t) (fun k => by simp only [dasdlaw07_LabelReturns.j0, if_true]) ?_
    exact Ev.bind awake7 (Ev.now _)
  | false =>
    have ok := hb rfl
    have hv : label_Valid.f L.id L.unit L.name L.note L.ext t = some (validLab L t) := if_pos ok
    refine Ev.step (f := fun k => (label_Encode.f k L.id L.unit L.name L.note L.ext t).bind _) (fun k => by simp only [dasdlaw07_LabelReturns.j0, Bool.false_eq_true, if_false]; rfl) ?_
    refine Ev.bind (encode_ev L t ok) ?_
    simp only [hv, Option.bind_some]
    by_cases c : validLab L t = true
    · simp only [if_pos c]
      have hd := ldecode_ev (encV L t) t
      rw [decS_enc L t c] at hd
      refine Ev.bind hd ?_
      have hs : ((encV L t).size : Int) = 1024 := by rw [encV_size_valid c]; rfl
      simp only [tup, if_pos hs, if_true]
      refine Ev.bind (lequal_ev L L (okL_len ok)) ?_
      simp only [decide_true, if_true, hv, Option.bind_some, c]
      exact Ev.now _
    · simp only [if_neg c]
      by_cases z : (4 ≤ t ∧ t ≤ 128) ∧ L = zeroLab
      · have he : encV L t = fillE ⟨#[]⟩ := if_pos z
        have hn : ¬ (encV L t).toList = ([] : List UInt8) := by
          intro h
          have h2 : (encV L t).toList = (⟨#[]⟩ : ByteArray).toList := by rw [h, ByteArray.toList_eq]
          have h3 := (list_eq _ _).1 h2
          have h4 : (encV L t).size = 1024 := by rw [he]; exact fillE_size _ (Nat.zero_le _)
          rw [h3] at h4
          exact absurd h4 (by decide)
        simp only [if_neg hn]
        refine Ev.bind (lequal_ev L zeroLab (okL_len ok)) ?_
        rw [decide_eq_true z.2]
        exact Ev.now _
      · have he : encV L t = ⟨#[]⟩ := by unfold encV; rw [if_neg z, if_neg c]
        simp only [he, if_pos (show (⟨#[]⟩ : ByteArray).toList = ([] : List UInt8) by rw [ByteArray.toList_eq])]
        exact Ev.now _
theorem returns_ev (L : Lab) (t : Int) (hl : ∀ r ∈ L.ext, okR r = true) : Ev (fun k => dasdlaw07_LabelReturns.f k L.id L.unit L.name L.note L.ext t) true := by
  unfold dasdlaw07_LabelReturns.f
  refine Ev.bind awake7 ?_
  obtain ⟨b, e, f⟩ := ret_few L
  simp only [if_true, e, Option.bind_some]
  refine returns_j0 L t _ (fun h => ?_)
  have := f (by simpa using h)
  exact okL_mk hl (by omega)
end Go.Proofs.Ytegefemkmdlmaaa.P
namespace Go.Proofs.Ytegefemkmdlmaaa.Pure
open Go.Proofs.Ytegefemkmdlmaaa.P
open Go.RowKit Go.Proofs.YtegefemkmdlmaaaW.PrintWords Go.Proofs.YtegefemkmdlmaaaW.PrintLast Go.Proofs.YtegefemkmdlmaaaW.PrintMore
theorem LabelReturns : dasdlaw07_LabelReturns.Pure := by
  intro i u n s l t _ _ _ _ hl _ _
  exact Ev.rounds (returns_ev ⟨i, u, n, s, l⟩ t hl)
end Go.Proofs.Ytegefemkmdlmaaa.Pure
