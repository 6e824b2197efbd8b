/- Plain laws: what the reference's Sequence answers. -/
import Derived.Test.YtegefemkmdlmaaaF55
import Derived.Test.YtegefemkmdlmaaaLawC
import Derived.Test.YtegefemkmdlmaaaLawQ
namespace Go.Proofs.Ytegefemkmdlmaaa.P
open Go.RowKit Go.Proofs.YtegefemkmdlmaaaW.PrintWords Go.Proofs.YtegefemkmdlmaaaW.PrintLast Go.Proofs.YtegefemkmdlmaaaW.PrintMore
theorem seq_l1 (l : List S103) (i : Nat) (c : S103) (R : List Int) (hc : 0 ≤ c.f0 ∧ c.f0 ≤ 128 ∧ 0 ≤ c.f1 ∧ c.f0 + c.f1 ≤ 128) (hi : i ≤ 100000) : ∀ (d j : Nat) (s : List Int), (j : Int) + d = c.f1 → s.length ≤ 128 * i + j → Ev (fun k => dasdref05_Sequence.l0 k l (s ++ seg (c.f0 + j) d) ((i + 1 : Nat) : Int)) R → Ev (fun k => dasdref05_Sequence.l1 k l s (i : Int) (j : Int) c.f0 c.f1) R := by
  intro d
  induction d with
  | zero =>
    intro j s hj hs h
    simp only [seg, List.append_nil] at h
    exact Ev.step (f := fun k => dasdref05_Sequence.l0 k l s ((i + 1 : Nat) : Int)) (fun k => by simp only [dasdref05_Sequence.l1]; rw [if_neg (by omega), wrap_succ i (by omega)]) h
  | succ d ih =>
    intro j s hj hs h
    refine Ev.step (f := fun k => dasdref05_Sequence.l1 k l (s ++ [c.f0 + j]) (i : Int) ((j + 1 : Nat) : Int) c.f0 c.f1) (fun k => by simp only [dasdref05_Sequence.l1]; rw [if_pos (by omega), if_pos (by omega), wrap_succ j (by omega), wrap_in (c.f0 + j) (by omega) (by omega)]) ?_
    refine ih (j + 1) _ (by omega) (by rw [List.length_append, List.length_singleton]; omega) ?_
    rw [List.append_assoc, List.singleton_append, show c.f0 + ((j + 1 : Nat) : Int) = c.f0 + j + 1 by omega]
    exact h
theorem seq_l0 (l : List S103) (hok : okL l = true) (hl : l.length ≤ 30) : ∀ (d i : Nat) (s : List Int), i + d = l.length → s.length ≤ 128 * i → Ev (fun k => dasdref05_Sequence.l0 k l s (i : Int)) (s ++ seqL (l.drop i)) := by
  intro d
  induction d with
  | zero =>
    intro i s hi hs
    rw [List.drop_of_length_le (by omega)]
    simp only [seqL, List.append_nil]
    exact Ev.step (f := fun _ => some s) (fun k => by simp only [dasdref05_Sequence.l0]; rw [if_neg (by omega)]) (Ev.now _)
  | succ d ih =>
    intro i s hi hs
    have hlt : i < l.length := by omega
    have hcr := clip_range (rd_T103 l (i : Int))
    have hsl := segR_length (rd_T103 l (i : Int))
    rw [drop_at l i hlt]
    refine Ev.step (f := fun k => (dasdref05_clip.f k ((rd_T103 l (i : Int)).f0) ((rd_T103 l (i : Int)).f1)).bind _) (fun k => by simp only [dasdref05_Sequence.l0]; rw [if_pos (by omega), if_pos (by omega)]) ?_
    refine Ev.bind (refclip_ev _ (ok_at hok hlt)) ?_
    simp only [seqL]
    refine seq_l1 l i (clipS (rd_T103 l (i : Int))) _ hcr (by omega) (clipS (rd_T103 l (i : Int))).f1.toNat 0 s (by omega) (by omega) ?_
    have := ih (i + 1) (s ++ segR (rd_T103 l (i : Int))) (by omega) (by rw [List.length_append]; omega)
    rw [List.append_assoc] at this
    rw [show (clipS (rd_T103 l (i : Int))).f0 + ((0 : Nat) : Int) = (clipS (rd_T103 l (i : Int))).f0 by omega]
    exact this
theorem seq_ev (l : List S103) (hok : okL l = true) (hl : l.length ≤ 30) : Ev (fun k => dasdref05_Sequence.f k l) (seqL l) := by
  have := seq_l0 l hok hl l.length 0 [] (by omega) (by simp)
  simpa [dasdref05_Sequence.f] using this
end Go.Proofs.Ytegefemkmdlmaaa.P
