/- Plain laws: the reference's clip answers clipS. -/
import Derived.Test.YtegefemkmdlmaaaF96
import Derived.Test.YtegefemkmdlmaaaF122
import Derived.Test.YtegefemkmdlmaaaQd
namespace Go.Proofs.Ytegefemkmdlmaaa.P
open Go.RowKit Go.Proofs.YtegefemkmdlmaaaW.PrintWords Go.Proofs.YtegefemkmdlmaaaW.PrintLast Go.Proofs.YtegefemkmdlmaaaW.PrintMore
/-- What clipS gives, in the words of the numbers. -/
theorem clipS_cases (r : S103) (h : okR r = true) : (clipS r = ⟨0, 0⟩ ∧ ∀ t : Int, 0 ≤ t → t < 128 → ¬ (1 ≤ r.f1 ∧ r.f0 ≤ t ∧ t < r.f0 + r.f1)) ∨
    ((clipS r).f0 = (if r.f0 < 0 then 0 else r.f0) ∧ 1 ≤ (clipS r).f1 ∧ 1 ≤ r.f1 ∧ ((clipS r).f0 + (clipS r).f1 = if r.f0 + r.f1 < 128 then r.f0 + r.f1 else 128)) := by
  have hb := okR_bounds h
  unfold clipS
  by_cases h1 : r.f1 < 1 ∨ r.f0 ≥ 128
  · rw [if_pos h1]; exact Or.inl ⟨rfl, fun t h0 h2 h3 => by omega⟩
  · rw [if_neg h1]
    simp only []
    by_cases h2 : r.f0 < 0
    · rw [if_pos (show r.f0 < 0 ∨ r.f1 < 128 - r.f0 from Or.inl h2), if_pos h2]
      by_cases h3 : r.f0 + r.f1 < 128
      · rw [if_pos h3]
        by_cases h4 : r.f0 + r.f1 ≤ 0
        · rw [if_pos h4]; exact Or.inl ⟨rfl, fun t h0 h2 h3 => by omega⟩
        · rw [if_neg h4]; exact Or.inr ⟨rfl, by simp only []; omega, by omega, by simp only []; omega⟩
      · rw [if_neg h3, if_neg (by omega)]; exact Or.inr ⟨rfl, by simp only []; omega, by omega, by simp only []; omega⟩
    · rw [if_neg h2]
      by_cases h3 : r.f0 < 0 ∨ r.f1 < 128 - r.f0
      · rw [if_pos h3, if_pos (show r.f0 + r.f1 < 128 by omega), if_neg (by omega)]; exact Or.inr ⟨rfl, by simp only []; omega, by omega, by simp only []; omega⟩
      · rw [if_neg h3, if_neg (show ¬ r.f0 + r.f1 < 128 by omega), if_neg (by omega)]; exact Or.inr ⟨rfl, by simp only []; omega, by omega, by simp only []; omega⟩
theorem clipS_zero (r : S103) (h : (clipS r).f1 = 0) : (clipS r).f0 = 0 := by
  unfold clipS at h ⊢
  by_cases h1 : r.f1 < 1 ∨ r.f0 ≥ 128
  · rw [if_pos h1]
  · rw [if_neg h1] at h ⊢
    simp only [] at h ⊢
    generalize (if r.f0 < 0 ∨ r.f1 < 128 - r.f0 then (if r.f0 + r.f1 < 128 then r.f0 + r.f1 else 128) else 128 : Int) = e at h ⊢
    generalize (if r.f0 < 0 then 0 else r.f0 : Int) = f at h ⊢
    by_cases h2 : e ≤ f
    · rw [if_pos h2]
    · rw [if_neg h2] at h
      simp only [] at h
      omega
theorem holds_eq (r : S103) (h : okR r = true) (t : Int) (h0 : 0 ≤ t) (h1 : t < 128) : q5holds.f r.f0 r.f1 t = some (decide ((clipS r).f0 ≤ t ∧ t < (clipS r).f0 + (clipS r).f1)) := by
  have hb := okR_bounds h
  have key : q5holds.f r.f0 r.f1 t = some (decide (1 ≤ r.f1 ∧ r.f0 ≤ t ∧ t < r.f0 + r.f1)) := by
    unfold q5holds.f
    by_cases c0 : r.f0 < 0
    · rw [if_pos c0]
      by_cases c1 : r.f1 ≥ 1
      · rw [if_pos c1, wrap_in _ (by omega) (by omega)]
        congr 1; rw [decide_eq_decide]; omega
      · rw [if_neg c1, decide_eq_false (by omega)]
    · rw [if_neg c0]
      by_cases c1 : r.f1 ≥ 1
      · rw [if_pos c1]
        by_cases c2 : t ≥ r.f0
        · rw [if_pos c2, wrap_in _ (by omega) (by omega)]
          congr 1; rw [decide_eq_decide]; omega
        · rw [if_neg c2, decide_eq_false (by omega)]
      · rw [if_neg c1, decide_eq_false (by omega)]
  rw [key]
  congr 1
  rw [decide_eq_decide]
  rcases clipS_cases r h with ⟨e, hn⟩ | ⟨e0, e1, e2, e3⟩
  · rw [e]
    have := hn t h0 h1
    simp only []
    omega
  · rw [e3, e0]
    split <;> split <;> omega
theorem refclip_l0 (r : S103) (h : okR r = true) : ∀ (d t : Nat) (first n : Int), t + d = 128 →
    (n = 0 ∧ first = 0 ∧ ((clipS r).f1 = 0 ∨ t ≤ (clipS r).f0)) ∨ (0 < n ∧ first = (clipS r).f0 ∧ ((t ≤ (clipS r).f0 + (clipS r).f1 ∧ n = t - (clipS r).f0) ∨ ((clipS r).f0 + (clipS r).f1 ≤ t ∧ n = (clipS r).f1))) →
    Ev (fun k => q5clip.l0 k (t : Int) r.f0 r.f1 first n) ((clipS r).f0, (clipS r).f1) := by
  have hc := clip_range r
  have hz := clipS_zero r
  intro d
  induction d with
  | zero =>
    intro t first n ht hP
    have : first = (clipS r).f0 ∧ n = (clipS r).f1 := by omega
    rw [this.1, this.2]
    exact Ev.step (f := fun _ => some _) (fun k => by simp only [q5clip.l0]; rw [if_neg (by omega)]) (Ev.now _)
  | succ d ih =>
    intro t first n ht hP
    have hw : wrap64 ((t : Int) + 1) = ((t + 1 : Nat) : Int) := wrap_succ t (by omega)
    by_cases c : (clipS r).f0 ≤ (t : Int) ∧ (t : Int) < (clipS r).f0 + (clipS r).f1
    · by_cases c0 : n = 0
      · refine Ev.step (f := fun k => q5clip.l0 k ((t + 1 : Nat) : Int) r.f0 r.f1 (t : Int) 1) (fun k => ?_) (ih (t + 1) _ _ (by omega) (by omega))
        simp only [q5clip.l0]
        rw [if_pos (by omega), holds_eq r h t (by omega) (by omega), decide_eq_true c, Option.bind_some, if_pos rfl, if_pos c0, hw, c0, wrap_in (0 + 1) (by omega) (by omega), Int.zero_add]
      · refine Ev.step (f := fun k => q5clip.l0 k ((t + 1 : Nat) : Int) r.f0 r.f1 first (n + 1)) (fun k => ?_) (ih (t + 1) _ _ (by omega) (by omega))
        simp only [q5clip.l0]
        rw [if_pos (by omega), holds_eq r h t (by omega) (by omega), decide_eq_true c, Option.bind_some, if_pos rfl, if_neg c0, hw, wrap_in (n + 1) (by omega) (by omega)]
    · refine Ev.step (f := fun k => q5clip.l0 k ((t + 1 : Nat) : Int) r.f0 r.f1 first n) (fun k => ?_) (ih (t + 1) _ _ (by omega) (by omega))
      simp only [q5clip.l0]
      rw [if_pos (by omega), holds_eq r h t (by omega) (by omega), decide_eq_false c, Option.bind_some, if_neg (by simp), hw]
theorem refclip_ev (r : S103) (h : okR r = true) : Ev (fun k => q5clip.f k r.f0 r.f1) ((clipS r).f0, (clipS r).f1) := by
  have hc := clip_range r
  exact refclip_l0 r h 128 0 0 0 (by omega) (Or.inl ⟨rfl, rfl, Or.inr hc.1⟩)
end Go.Proofs.Ytegefemkmdlmaaa.P
