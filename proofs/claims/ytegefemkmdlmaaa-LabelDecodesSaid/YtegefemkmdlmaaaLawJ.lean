/- Plain laws: what the reference's Join answers. -/
import Derived.Test.YtegefemkmdlmaaaF39
import Derived.Test.YtegefemkmdlmaaaLawC
namespace Go.Proofs.Ytegefemkmdlmaaa.P
open Go.RowKit Go.Proofs.YtegefemkmdlmaaaW.PrintWords Go.Proofs.YtegefemkmdlmaaaW.PrintLast Go.Proofs.YtegefemkmdlmaaaW.PrintMore
theorem refjoin_l0 (l : List S103) (hok : okL l = true) : ∀ (d i : Nat) (out : List S103), i + d = l.length → fine out → out.length ≤ i → Ev (fun k => q5Join.l0 k l out (i : Int)) (joinTo out (l.drop i)) := by
  have hlen := okL_len hok
  intro d
  induction d with
  | zero =>
    intro i out hi hf ho
    refine Ev.step (f := fun _ => some out) (fun k => by simp only [q5Join.l0]; rw [if_neg (by omega)]) ?_
    rw [List.drop_of_length_le (by omega)]
    exact Ev.now _
  | succ d ih =>
    intro i out hi hf ho
    have hlt : i < l.length := by omega
    have hcr := clip_range (rd_T103 l (i : Int))
    have hce := refclip_ev _ (ok_at hok hlt)
    rw [drop_at l i hlt]
    refine Ev.step (f := fun k => (q5clip.f k ((rd_T103 l (i : Int)).f0) ((rd_T103 l (i : Int)).f1)).bind _) (fun k => by simp only [q5Join.l0]; rw [if_pos (by omega), if_pos (by omega)]) ?_
    refine Ev.bind hce ?_
    simp only []
    obtain ⟨c, hc⟩ : ∃ c, c = clipS (rd_T103 l (i : Int)) := ⟨_, rfl⟩
    rw [← hc] at hcr ⊢
    rw [wrap_succ i (by omega)]
    by_cases h0 : c.f1 = 0
    · simp only [if_pos h0]
      rw [joinTo_skip _ _ _ (by rw [← hc]; exact h0)]
      exact ih (i + 1) out (by omega) hf (by omega)
    · simp only [if_neg h0]
      have hc1 : (clipS (rd_T103 l (i : Int))).f1 ≠ 0 := by rw [← hc]; exact h0
      rcases List.eq_nil_or_concat out with rfl | ⟨o, q, rfl⟩
      · simp only [if_neg (show ¬ (([] : List S103).length : Int) > 0 by simp)]
        rw [joinTo_first _ _ hc1, ← hc]
        simp only [if_pos (show ([] : List S103).length < 8796093022208 by simp)]
        exact ih (i + 1) [c] (by omega) (fine_snoc fine_nil hcr.1 (by omega) hcr.2.2.2) (by simp)
      · have hq := hf q (by simp)
        have hl : ((o.concat q).length : Int) - 1 = (o.length : Int) := by simp
        have hll : (o.concat q).length = o.length + 1 := by simp
        have hw : wrap64 (((o.concat q).length : Int) - 1) = (o.length : Int) := by rw [hl, wrap_in _ (by omega) (by omega)]
        simp only [hw, if_pos (show ((o.concat q).length : Int) > 0 by omega)]
        rw [List.concat_eq_append] at *
        simp only [rd_last, if_pos (show 0 ≤ ((o.length : Nat) : Int) by omega), if_pos (show ((o.length : Nat) : Int) < ((o ++ [q]).length : Int) by omega), Int.toNat_natCast, set_last]
        rw [wrap_in (q.f0 + q.f1) (by omega) (by omega)]
        by_cases he : q.f0 + q.f1 = c.f0
        · simp only [if_pos he]
          rw [wrap_in (q.f1 + c.f1) (by omega) (by omega), joinTo_more _ _ _ _ hc1 (by rw [← hc]; exact he), ← hc]
          exact ih (i + 1) _ (by omega) (fine_snoc (fun x hx => hf x (List.mem_append_left _ hx)) hq.1 (by simp only []; omega) (by simp only []; omega)) (by simp at ho ⊢; omega)
        · simp only [if_neg he]
          rw [joinTo_new _ _ _ _ hc1 (by rw [← hc]; exact he), ← hc]
          simp only [if_pos (show (o ++ [q]).length < 8796093022208 by omega)]
          exact ih (i + 1) _ (by omega) (fine_snoc (r := c) hf hcr.1 (by omega) hcr.2.2.2) (by simp at ho ⊢; omega)
theorem refjoin_ev (l : List S103) (hok : okL l = true) : Ev (fun k => q5Join.f k l) (joinL l) := by
  have := refjoin_l0 l hok l.length 0 [] (by omega) fine_nil (by simp)
  simpa [q5Join.f, joinL] using this
end Go.Proofs.Ytegefemkmdlmaaa.P
