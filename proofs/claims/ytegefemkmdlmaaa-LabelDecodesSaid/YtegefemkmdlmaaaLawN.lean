/- Plain laws: sizes of normal forms. -/
import Derived.Test.YtegefemkmdlmaaaQd
namespace Go.Proofs.Ytegefemkmdlmaaa.P
set_option linter.unusedSimpArgs false
def one (b : Bool) : Int := match b with | true => 1 | false => 0
/-- How many tracks below n a set has. -/
def cnt (f : Nat → Bool) : Nat → Int
  | 0 => 0
  | n + 1 => cnt f n + one (f n)
theorem sizeL_append (l m : List S103) : sizeL (l ++ m) = sizeL l + sizeL m := by
  induction l with
  | nil => simp [sizeL]
  | cons r l ih => rw [List.cons_append, sizeL_cons, sizeL_cons, ih]; omega
theorem sizeL_one (r : S103) : sizeL [r] = (clipS r).f1 := by simp [sizeL]
theorem sizeL_runsTo (f : Nat → Bool) (n : Nat) (hn : n ≤ 128) : sizeL (runsTo f n) = cnt f n := by
  induction n with
  | zero => rfl
  | succ n ih =>
    have ih := ih (by omega)
    rw [runsTo_succ]
    simp only [cnt]
    by_cases c0 : f n = false
    · rw [if_pos c0, c0, ih]; simp only [one]; omega
    · rw [if_neg c0, show f n = true from by simpa using c0]
      simp only [one]
      by_cases c : 0 < n ∧ f (n - 1) = true
      · rw [if_pos c]
        obtain ⟨o, q, e, hq⟩ := runsTo_last f n c.1 c.2
        have hr := (runsTo_range f n).1 q (by rw [e]; exact List.mem_append_right _ (List.mem_singleton.2 rfl))
        rw [e, sizeL_append, sizeL_one, clipS_id q hr.1 hr.2.1 (by omega)] at ih
        rw [e, bump_snoc, sizeL_append, sizeL_one, clipS_id _ (by simp only []; omega) (by simp only []; omega) (by simp only []; omega)]
        simp only []
        omega
      · rw [if_neg c, sizeL_append, sizeL_one, clipS_id _ (by simp only []; omega) (by simp only []; omega) (by simp only []; omega), ih]
theorem sizeL_runsOf (f : Nat → Bool) : sizeL (runsOf f) = cnt f 128 := sizeL_runsTo f 128 (Nat.le_refl _)
theorem cnt_bound (f : Nat → Bool) (n : Nat) : 0 ≤ cnt f n ∧ cnt f n ≤ n := by
  induction n with
  | zero => simp [cnt]
  | succ n ih => simp only [cnt]; cases f n <;> simp only [one] <;> omega
theorem cnt_both (f g : Nat → Bool) (n : Nat) : cnt (fun t => f t || g t) n + cnt (fun t => f t && g t) n = cnt f n + cnt g n := by
  induction n with
  | zero => rfl
  | succ n ih => simp only [cnt]; generalize f n = a at *; generalize g n = b at *; cases a <;> cases b <;> simp only [one, Bool.or_true, Bool.or_false, Bool.and_true, Bool.and_false] <;> omega
theorem cnt_parts (f g : Nat → Bool) (n : Nat) : cnt (fun t => f t && g t) n + cnt (fun t => f t && !g t) n + cnt (fun t => g t && !f t) n = cnt (fun t => f t || g t) n := by
  induction n with
  | zero => rfl
  | succ n ih => simp only [cnt]; generalize f n = a at *; generalize g n = b at *; cases a <;> cases b <;> simp only [one, Bool.or_true, Bool.or_false, Bool.and_true, Bool.and_false, Bool.not_true, Bool.not_false] <;> omega
end Go.Proofs.Ytegefemkmdlmaaa.P
