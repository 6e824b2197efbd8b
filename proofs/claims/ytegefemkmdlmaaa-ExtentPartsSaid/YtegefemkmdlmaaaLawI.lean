/- Plain laws: what Index and Contains answer. -/
import Derived.OpenShut
import Derived.Test.YtegefemkmdlmaaaF52
import Derived.Test.YtegefemkmdlmaaaF69
import Derived.Test.YtegefemkmdlmaaaGd
namespace Go.Proofs.Ytegefemkmdlmaaa.P
open Go.RowKit Go.Proofs.YtegefemkmdlmaaaW.PrintWords Go.Proofs.YtegefemkmdlmaaaW.PrintLast Go.Proofs.YtegefemkmdlmaaaW.PrintMore
/-- The place of a track in the sequence of a list, counted on from n. -/
def indexFrom (x n : Int) : List S103 → Int × Bool
  | [] => (0, false)
  | r :: l => if (clipS r).f0 ≤ x ∧ x < (clipS r).f0 + (clipS r).f1 then (n + x - (clipS r).f0, true) else indexFrom x (n + (clipS r).f1) l
theorem indexFrom_in (x : Int) (l : List S103) : ∀ n, (indexFrom x n l).2 = inL l x := by
  induction l with
  | nil => intro n; rfl
  | cons r l ih =>
    intro n
    simp only [indexFrom]
    have hi : inL (r :: l) x = (decide ((clipS r).f0 ≤ x ∧ x < (clipS r).f0 + (clipS r).f1) || inL l x) := by simp [inL]
    rw [hi]
    by_cases h : (clipS r).f0 ≤ x ∧ x < (clipS r).f0 + (clipS r).f1
    · rw [if_pos h, decide_eq_true h, Bool.true_or]
    · rw [if_neg h, decide_eq_false h, Bool.false_or]
      exact ih _
theorem index_l0 (l : List S103) (hok : okL l = true) (x : Int) : ∀ (d i : Nat) (n : Int), i + d = l.length → 0 ≤ n → n ≤ 128 * i → Ev (fun k => extent_Index.l0 k x n l (l.length : Int) (i : Int)) (indexFrom x n (l.drop i)) := by
  have hlen := okL_len hok
  intro d
  induction d with
  | zero =>
    intro i n hi h0 h1
    rw [List.drop_of_length_le (by omega)]
    exact Ev.step (f := fun _ => some (0, false)) (fun k => by simp only [extent_Index.l0]; rw [if_neg (by omega)]) (Ev.now _)
  | succ d ih =>
    intro i n hi h0 h1
    have hlt : i < l.length := by omega
    have hcr := clip_range (rd_T103 l (i : Int))
    rw [drop_at l i hlt]
    refine Ev.step (f := fun k => (extent_clip.f k ((rd_T103 l (i : Int)).f0) ((rd_T103 l (i : Int)).f1)).bind _) (fun k => by simp only [extent_Index.l0]; rw [if_pos (by omega), if_pos (by omega), if_pos (by omega)]) ?_
    refine Ev.bind (clip_ev _ (ok_at hok hlt)) ?_
    simp only [indexFrom]
    have nxt := ih (i + 1) (n + (clipS (rd_T103 l (i : Int))).f1) (by omega) (by omega) (by omega)
    rw [wrap_succ i (by omega), wrap_in (n + (clipS (rd_T103 l (i : Int))).f1) (by omega) (by omega), wrap_in ((clipS (rd_T103 l (i : Int))).f0 + (clipS (rd_T103 l (i : Int))).f1) (by omega) (by omega)]
    by_cases c0 : x ≥ (clipS (rd_T103 l (i : Int))).f0
    · simp only [if_pos c0]
      by_cases c1 : x < (clipS (rd_T103 l (i : Int))).f0 + (clipS (rd_T103 l (i : Int))).f1
      · simp only [if_pos c1]
        rw [if_pos (show _ ∧ _ from ⟨c0, c1⟩), wrap_in (n + x) (by omega) (by omega), wrap_in _ (by omega) (by omega)]
        exact Ev.now _
      · simp only [if_neg c1]
        rw [if_neg (fun h => c1 h.2)]
        exact nxt
    · simp only [if_neg c0]
      rw [if_neg (fun h => c0 h.1)]
      exact nxt
theorem index_ev (l : List S103) (hok : okL l = true) (x : Int) : Ev (fun k => extent_Index.f k l x) (indexFrom x 0 l) := by
  have := index_l0 l hok x l.length 0 0 (by omega) (by omega) (by omega)
  simpa [extent_Index.f] using this
theorem contains_ev (l : List S103) (hok : okL l = true) (x : Int) : Ev (fun k => extent_Contains.f k l x) (inL l x) := by
  unfold extent_Contains.f
  refine Ev.bind (index_ev l hok x) ?_
  rw [indexFrom_in]
  exact Ev.now _
end Go.Proofs.Ytegefemkmdlmaaa.P
