/- WireLimits answers true: the four ways of its walk. -/
import Derived.OpenShut
import Derived.Test.YtegefemkmdlmaaaF11
namespace Go.Proofs.Ytegefemkmdlmaaa.Pure
open Go.RowKit Go.Proofs.Ytegefemkmdlmaaa.P Go.Proofs.YtegefemkmdlmaaaW.PrintWords Go.Proofs.YtegefemkmdlmaaaW.PrintLast Go.Proofs.YtegefemkmdlmaaaW.PrintMore
theorem lim_left (x : ByteArray) : (⟨#[]⟩ : ByteArray) ++ x = x := ba_ext (by rw [data_append]; rfl)
theorem lim_right (x : ByteArray) : x ++ (⟨#[]⟩ : ByteArray) = x := ba_ext (by rw [data_append]; simp)
theorem lim_read (n : Int) (h0 : 0 ≤ n) (h1 : n < 18446744073709551616) : readN (numE n) 0 = (n, ⟨#[]⟩, 0) := by
  have := readN_numE n ⟨#[]⟩ h0 h1
  rwa [lim_right] at this
theorem lim_count (n m : Int) (h0 : 0 ≤ n) (h1 : n < 18446744073709551616) : readC (numE n) 0 m = if m < 0 ∨ n > m then (0, ⟨#[]⟩, 8) else (n, ⟨#[]⟩, 0) := by
  unfold readC
  rw [lim_read n h0 h1]
  simp only [if_true]
theorem WireLimits (n most : Int) (w : World) (hn : (Lit.int .u64 n).wf = true) (hm : (Lit.int .i64 most).wf = true) :
    Calls Try.prog 11 #[.int .u64 n, .int .i64 most] w fun e w' => e = .returned (.bool true) ∧ Below w.heap.size w w' := by
  have hb := bounds_u64 hn
  have mb := bounds_i64 hm
  have ht := Int.tmod_eq_emod_of_nonneg (a := n) (b := 1099511627776) (by omega)
  obtain ⟨N, hN⟩ : ∃ N, N = Int.tmod n 1099511627776 := ⟨_, rfl⟩
  have h0 : 0 ≤ N := by omega
  have h1 : N < 1099511627776 := by omega
  have hw : wrap64 N = N := by unfold wrap64; omega
  have hA : wire_AppendNumber.f ⟨#[]⟩ (Int.tmod n 1099511627776) = some (numE N) := by
    rw [← hN]
    exact (appendNumber_eq _ N h0 (by omega) (Nat.zero_le _)).trans (by rw [lim_left])
  have hC := count_eq (numE N) 0 most (by omega)
  have hT := text_eq (numE N) 0 most (by omega)
  have hr := lim_count N most h0 (by omega)
  unfold readT at hT
  rw [hr] at hC hT
  have e8 : wire_Reader_End.f ⟨#[]⟩ 8 = some (8, ⟨#[]⟩, 8) := rfl
  have e11 : wire_Reader_End.f ⟨#[]⟩ 11 = some (11, ⟨#[]⟩, 11) := rfl
  have e0 : wire_Reader_End.f ⟨#[]⟩ 0 = some (0, ⟨#[]⟩, 0) := rfl
  by_cases c1 : most < 0
  · rw [if_pos (Or.inl c1)] at hC hT
    exact limits_neg n most (numE N) w ⟨hA⟩ ⟨hC⟩ ⟨hT⟩ ⟨e8⟩ ⟨e8⟩ (decide_eq_true c1)
  · by_cases c2 : N > most
    · rw [if_pos (Or.inr c2)] at hC hT
      exact limits_big n most (numE N) w ⟨hA⟩ ⟨hC⟩ ⟨hT⟩ ⟨e8⟩ ⟨e8⟩ (decide_eq_false c1) (by rw [← hN, hw]; exact decide_eq_true c2)
    · rw [if_neg (show ¬ (most < 0 ∨ N > most) by omega)] at hC hT
      simp only [if_true] at hT
      by_cases c3 : N = 0
      · rw [if_neg (by rw [c3]; show ¬ (0 : Int) > 0; omega), c3] at hT
        rw [c3] at hC
        refine limits_zero n most (numE N) w ⟨hA⟩ ⟨by rw [c3]; exact hC⟩ ⟨by rw [c3]; exact hT⟩ ⟨e0⟩ ⟨e0⟩ (decide_eq_false c1) (by rw [← hN, hw]; exact decide_eq_false (by omega)) (by rw [← hN, hw, c3]; rfl) (by rw [← hN, c3]; rfl)
      · rw [if_pos (by show N > 0; omega)] at hT
        refine limits_some n most (numE N) w ⟨hA⟩ ⟨by rw [← hN]; exact hC⟩ ⟨hT⟩ ⟨e0⟩ ⟨e11⟩ (decide_eq_false c1) (by rw [← hN, hw]; exact decide_eq_false (by omega)) (by rw [← hN, hw]; exact beq_self_eq_true _) (by rw [← hN]; exact beq_eq_false_iff_ne.2 c3)
end Go.Proofs.Ytegefemkmdlmaaa.Pure
