/- The pure statement of LabelValid, and its proof. -/
import Derived.Test.YtegefemkmdlmaaaF20
import Derived.Test.YtegefemkmdlmaaaF84
import Derived.Test.YtegefemkmdlmaaaOpen
import Derived.Test.YtegefemkmdlmaaaLabR
namespace Go.Proofs.Ytegefemkmdlmaaa.P
open Go.RowKit Go.Proofs.YtegefemkmdlmaaaW.PrintWords Go.Proofs.YtegefemkmdlmaaaW.PrintLast Go.Proofs.YtegefemkmdlmaaaW.PrintMore
/-- The pure statement of LabelValid. -/
def dasdlaw07_LabelValid.Pure : Prop := ∀ (a0_0 a0_1 : Int) (a0_2 a0_3 : ByteArray) (l0_4 : List S103) (a1_0 a1_1 : Int) (a1_2 a1_3 : ByteArray) (l1_4 : List S103) (a2 : Int), (Lit.int .i64 a0_0).wf = true → (Lit.int .i64 a0_1).wf = true → a0_2.size ≤ maxLen → a0_3.size ≤ maxLen → (∀ r ∈ l0_4, okR r = true) → l0_4.length ≤ 9223372036854775807 → (Lit.int .i64 a1_0).wf = true → (Lit.int .i64 a1_1).wf = true → a1_2.size ≤ maxLen → a1_3.size ≤ maxLen → (∀ r ∈ l1_4, okR r = true) → l1_4.length ≤ 9223372036854775807 → (Lit.int .i64 a2).wf = true → ∃ k, dasdlaw07_LabelValid.f k a0_0 a0_1 a0_2 a0_3 l0_4 a1_0 a1_1 a1_2 a1_3 l1_4 a2 = some true
theorem valid_few (L : Lab) : ∃ b, dasdref07_Few.f L.id L.unit L.name L.note L.ext = some b ∧ (b = true → L.ext.length ≤ 30) := by
  unfold dasdref07_Few.f
  by_cases h : (L.name.size : Int) ≤ 100
  · rw [if_pos h]
    by_cases h1 : (L.note.size : Int) ≤ 500
    · rw [if_pos h1]
      refine ⟨_, rfl, fun h2 => ?_⟩
      have := of_decide_eq_true h2
      omega
    · rw [if_neg h1]; exact ⟨_, rfl, fun h => by simp at h⟩
  · rw [if_neg h]; exact ⟨_, rfl, fun h => by simp at h⟩
theorem valid_j0 (L M : Lab) (t : Int) (b : Bool) (hb : b = false → okL L.ext = true ∧ L.ext.length ≤ 30) : Ev (fun k => dasdlaw07_LabelValid.j0 k t b L.id L.unit L.name L.note L.ext M.id M.unit M.name M.note M.ext) true := by
  cases b with
  | true =>
    refine Ev.step (f := fun k => (dasdlaw07_awake.f k).bind fun t => some t) (fun k => by simp only [dasdlaw07_LabelValid.j0, if_true]) ?_
    exact Ev.bind awake7 (Ev.now _)
  | false =>
    obtain ⟨ok, hl⟩ := hb rfl
    have hv : label_Valid.f L.id L.unit L.name L.note L.ext t = some (validLab L t) := if_pos ok
    refine Ev.step (f := fun k => (label_Valid.f L.id L.unit L.name L.note L.ext t).bind _) (fun k => by simp only [dasdlaw07_LabelValid.j0, Bool.false_eq_true, if_false]; rfl) ?_
    simp only [hv, Option.bind_some]
    refine Ev.bind (rValid_ev L t ok hl) ?_
    simp only [beq_self_eq_true, if_true]
    refine Ev.bind (lequal_ev L M (okL_len ok)) (Ev.bind (requal_ev L M (okL_len ok)) ?_)
    simp only [beq_self_eq_true, if_true]
    refine Ev.bind (lequal_ev L L (okL_len ok)) ?_
    simp only [decide_true, if_true]
    refine Ev.bind (encode_ev L t ok) (Ev.bind (rencode_ev L t ok hl) ?_)
    rw [beq_self_eq_true]
    exact Ev.now _
theorem valid_law (L M : Lab) (t : Int) (hl : ∀ r ∈ L.ext, okR r = true) : Ev (fun k => dasdlaw07_LabelValid.f k L.id L.unit L.name L.note L.ext M.id M.unit M.name M.note M.ext t) true := by
  have off := valid_j0 L M t true (fun h => by simp at h)
  unfold dasdlaw07_LabelValid.f
  refine Ev.bind awake7 ?_
  obtain ⟨b0, e0, f0⟩ := valid_few L
  obtain ⟨b1, e1, f1⟩ := valid_few M
  simp only [if_true, e0, e1, Option.bind_some]
  cases b0 with
  | false => simp only [Bool.false_eq_true, if_false]; exact off
  | true =>
    simp only [if_true]
    exact valid_j0 L M t _ (fun _ => ⟨okL_mk hl (by have := f0 rfl; omega), f0 rfl⟩)
end Go.Proofs.Ytegefemkmdlmaaa.P
namespace Go.Proofs.Ytegefemkmdlmaaa.Pure
open Go.Proofs.Ytegefemkmdlmaaa.P
open Go.RowKit Go.Proofs.YtegefemkmdlmaaaW.PrintWords Go.Proofs.YtegefemkmdlmaaaW.PrintLast Go.Proofs.YtegefemkmdlmaaaW.PrintMore
theorem LabelValid : dasdlaw07_LabelValid.Pure := by
  intro i u n s l i' u' n' s' l' t _ _ _ _ hl _ _ _ _ _ _ _ _
  exact Ev.rounds (valid_law ⟨i, u, n, s, l⟩ ⟨i', u', n', s', l'⟩ t hl)
end Go.Proofs.Ytegefemkmdlmaaa.Pure
