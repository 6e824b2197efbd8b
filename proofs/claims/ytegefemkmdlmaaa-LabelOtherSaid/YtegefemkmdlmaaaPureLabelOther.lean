/- The pure statement of LabelOther, and its proof. -/
import Derived.Test.YtegefemkmdlmaaaF22
import Derived.Test.YtegefemkmdlmaaaF84
import Derived.Test.YtegefemkmdlmaaaOpen
import Derived.Test.YtegefemkmdlmaaaLabB
namespace Go.Proofs.Ytegefemkmdlmaaa.P
open Go.RowKit Go.Proofs.YtegefemkmdlmaaaW.PrintWords Go.Proofs.YtegefemkmdlmaaaW.PrintLast Go.Proofs.YtegefemkmdlmaaaW.PrintMore
/-- The pure statement of LabelOther. -/
def dasdlaw07_LabelOther.Pure : Prop := ∀ (a0_0 a0_1 : Int) (a0_2 a0_3 : ByteArray) (l0_4 : List S103) (a1_0 a1_1 : Int) (a1_2 a1_3 : ByteArray) (l1_4 : List S103) (a2 : Int), (Lit.int .i64 a0_0).wf = true → (Lit.int .i64 a0_1).wf = true → a0_2.size ≤ maxLen → a0_3.size ≤ maxLen → (∀ r ∈ l0_4, okR r = true) → l0_4.length ≤ 9223372036854775807 → (Lit.int .i64 a1_0).wf = true → (Lit.int .i64 a1_1).wf = true → a1_2.size ≤ maxLen → a1_3.size ≤ maxLen → (∀ r ∈ l1_4, okR r = true) → l1_4.length ≤ 9223372036854775807 → (Lit.int .i64 a2).wf = true → ∃ k, dasdlaw07_LabelOther.f k a0_0 a0_1 a0_2 a0_3 l0_4 a1_0 a1_1 a1_2 a1_3 l1_4 a2 = some true
theorem few_is (L : Lab) : ∃ b, dasdref07_Few.f L.id L.unit L.name L.note L.ext = some b ∧ (b = true → L.name.size ≤ 100 ∧ L.note.size ≤ 500 ∧ L.ext.length ≤ 30) := by
  unfold dasdref07_Few.f
  by_cases h : (L.name.size : Int) ≤ 100
  · rw [if_pos h]
    by_cases h1 : (L.note.size : Int) ≤ 500
    · rw [if_pos h1]
      refine ⟨_, rfl, fun h2 => ?_⟩
      have := of_decide_eq_true h2
      omega
    · rw [if_neg h1]; exact ⟨_, rfl, fun h => by simp at h⟩
  · rw [if_neg h]; exact ⟨_, rfl, fun h => by simp at h⟩
theorem other_j0 (L M : Lab) (t : Int) (b : Bool) (hb : b = false → validLab L t = true ∧ validLab M t = true ∧ okL L.ext = true ∧ okL M.ext = true) : Ev (fun k => dasdlaw07_LabelOther.j0 k t b L.id L.unit L.name L.note L.ext M.id M.unit M.name M.note M.ext) true := by
  cases b with
  | true =>
    refine Ev.step (f := fun k => (dasdlaw07_awake.f k).bind fun t => some t) (fun k => by simp only [dasdlaw07_LabelOther.j0, if_true]) ?_
    exact Ev.bind awake7 (Ev.now _)
  | false =>
    obtain ⟨h0, h1, h2, h3⟩ := hb rfl
    refine Ev.step (f := fun k => (label_Encode.f k L.id L.unit L.name L.note L.ext t).bind _) (fun k => by simp only [dasdlaw07_LabelOther.j0, Bool.false_eq_true, if_false]; rfl) ?_
    refine Ev.bind (encode_ev L t h2) (Ev.bind (encode_ev M t h3) (Ev.bind (lequal_ev L M (okL_len h2)) ?_))
    rw [encV_valid h0, encV_valid h1]
    have e : ((fillE (bodyE L)).toList == (fillE (bodyE M)).toList) = decide (L = M) := by
      by_cases c : L = M
      · rw [c]; simp
      · rw [decide_eq_false c, beq_eq_false_iff_ne]
        exact fun h => c (enc_inj L M t t h0 h1 ((list_eq _ _).1 h))
    rw [e, beq_self_eq_true]
    exact Ev.now _
theorem other_ev (L M : Lab) (t : Int) (hl : ∀ r ∈ L.ext, okR r = true) (hm : ∀ r ∈ M.ext, okR r = true) : Ev (fun k => dasdlaw07_LabelOther.f k L.id L.unit L.name L.note L.ext M.id M.unit M.name M.note M.ext t) true := by
  have off := other_j0 L M t true (fun h => by simp at h)
  unfold dasdlaw07_LabelOther.f
  refine Ev.bind awake7 ?_
  obtain ⟨b0, e0, f0⟩ := few_is L
  obtain ⟨b1, e1, f1⟩ := few_is M
  simp only [if_true, e0, e1, Option.bind_some]
  cases b0 with
  | false => simp only [Bool.false_eq_true, if_false]; exact off
  | true =>
    simp only [if_true]
    cases b1 with
    | false => simp only [Bool.false_eq_true, if_false]; exact off
    | true =>
      have okl : okL L.ext = true := okL_mk hl (by have := f0 rfl; omega)
      have okm : okL M.ext = true := okL_mk hm (by have := f1 rfl; omega)
      have vl : label_Valid.f L.id L.unit L.name L.note L.ext t = some (validLab L t) := if_pos okl
      have vm : label_Valid.f M.id M.unit M.name M.note M.ext t = some (validLab M t) := if_pos okm
      simp only [if_true, vl, vm, Option.bind_some]
      by_cases c : validLab L t = true
      · simp only [if_pos c]
        refine other_j0 L M t _ (fun h => ⟨c, ?_, okl, okm⟩)
        simpa using h
      · simp only [if_neg c]; exact off
end Go.Proofs.Ytegefemkmdlmaaa.P
namespace Go.Proofs.Ytegefemkmdlmaaa.Pure
open Go.Proofs.Ytegefemkmdlmaaa.P
open Go.RowKit Go.Proofs.YtegefemkmdlmaaaW.PrintWords Go.Proofs.YtegefemkmdlmaaaW.PrintLast Go.Proofs.YtegefemkmdlmaaaW.PrintMore
theorem LabelOther : dasdlaw07_LabelOther.Pure := by
  intro i u n s l i' u' n' s' l' t _ _ _ _ hl _ _ _ _ _ hm _ _
  exact Ev.rounds (other_ev ⟨i, u, n, s, l⟩ ⟨i', u', n', s', l'⟩ t hl hm)
end Go.Proofs.Ytegefemkmdlmaaa.Pure
