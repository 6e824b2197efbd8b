/- Plain laws: what the reference's Text and Padded answer. -/
import Derived.Test.YtegefemkmdlmaaaF103
import Derived.Test.YtegefemkmdlmaaaLabB
namespace Go.Proofs.Ytegefemkmdlmaaa.P
open Go.RowKit Go.Proofs.YtegefemkmdlmaaaW.PrintWords Go.Proofs.YtegefemkmdlmaaaW.PrintLast Go.Proofs.YtegefemkmdlmaaaW.PrintMore
theorem reftext_ev (x : ByteArray) (h : x.size ≤ 140737488355328) : Ev (fun k => q1Text.f k x) (textE x) := by
  have hn := numE_size (x.size : Int)
  unfold q1Text.f textE
  rw [u64_in _ (by omega) (by omega)]
  refine Ev.bind (number_ev x.size (by omega) (by omega)) ?_
  simp only [if_pos (show (numE (x.size : Int)).size + x.size ≤ 9223372036854775807 by omega)]
  exact Ev.now _
theorem zerosE_snoc (n : Nat) : zerosE (n + 1) = (⟨#[0]⟩ : ByteArray) ++ zerosE n := by
  unfold zerosE
  rw [List.replicate_succ, show (0 : Int) :: List.replicate n 0 = [0] ++ List.replicate n 0 from rfl, strOfNums_append]
  rfl
theorem padded_go : ∀ (d : Nat) (s : ByteArray), s.size + d = 1024 → Ev (fun k => q1Padded.l0 k s 1024) (s ++ zerosE d) := by
  intro d
  induction d with
  | zero =>
    intro s hs
    rw [show s ++ zerosE 0 = s from ba_ext (by rw [data_append]; simp [zerosE, strOfNums_data])]
    exact Ev.step (f := fun _ => some s) (fun k => by simp only [q1Padded.l0]; rw [if_neg (by omega)]) (Ev.now _)
  | succ d ih =>
    intro s hs
    rw [zerosE_snoc, ← ba_append_assoc]
    refine Ev.step (f := fun k => q1Padded.l0 k (s ++ ⟨#[0]⟩) 1024) (fun k => by simp only [q1Padded.l0]; rw [if_pos (by omega), if_pos (by omega)]) ?_
    exact ih _ (by rw [ByteArray.size_append]; show s.size + 1 + d = 1024; omega)
theorem padded_ev (s : ByteArray) (h : s.size ≤ 1024) : Ev (fun k => q1Padded.f k s 1024) (fillE s) := by
  unfold q1Padded.f fillE
  exact padded_go _ s (by omega)
end Go.Proofs.Ytegefemkmdlmaaa.P
