/- The reference's ReadNumber, ReadCount and ReadText answer the plain words on readers. -/
import Derived.Test.YtegefemkmdlmaaaF70
import Derived.Test.YtegefemkmdlmaaaF76
import Derived.Test.YtegefemkmdlmaaaF77
import Derived.Test.YtegefemkmdlmaaaQa
namespace Go.Proofs.Ytegefemkmdlmaaa.P
open Go.RowKit Go.Proofs.YtegefemkmdlmaaaW.PrintWords Go.Proofs.YtegefemkmdlmaaaW.PrintLast Go.Proofs.YtegefemkmdlmaaaW.PrintMore
theorem fail_eq (e : Int) : q1fail.f e = some (⟨#[]⟩, e) := rfl
/-- One group more, as the reference adds it. -/
theorem group_add (n b : Int) (i : Nat) (hi : i ≤ 9) (h0 : 0 ≤ n) (h1 : n < 2 ^ (7 * i)) (hb0 : 0 ≤ b) (hb : b < 256) (h9 : i = 9 → b ≤ 1) :
    IntKind.u64.wrap (n + shl .u64 (IntKind.u64.wrap (Int.tmod b 128)) (wrap64 (7 * (i : Int)))) = n + b % 128 * 2 ^ (7 * i) ∧ n + b % 128 * 2 ^ (7 * i) < 2 ^ (7 * (i + 1)) := by
  have hg := group_eq n b i hi h0 h1 hb0 hb h9
  refine ⟨?_, hg.2⟩
  have hp := pow_pos2 (7 * i)
  have hv : 0 ≤ b % 128 ∧ b % 128 < 128 := by omega
  have hw := wrap7 i hi
  have hnn : 0 ≤ b % 128 * 2 ^ (7 * i) := Int.mul_nonneg hv.1 (Int.le_of_lt hp)
  have hsz : n + b % 128 * 2 ^ (7 * i) < 18446744073709551616 := by
    rcases Nat.lt_or_ge i 9 with h | h
    · have h2 : (2 : Int) ^ (7 * (i + 1)) ≤ 2 ^ (7 * 9) := by exact_mod_cast Nat.pow_le_pow_right (by decide) (by omega)
      rw [pow63] at h2
      have := hg.2
      omega
    · obtain rfl : i = 9 := by omega
      have := h9 rfl
      have h3 : b % 128 ≤ 1 := by omega
      have h4 := Int.mul_le_mul_of_nonneg_right h3 (Int.le_of_lt hp)
      rw [pow63] at h1 h4 ⊢
      omega
  rw [Int.tmod_eq_emod_of_nonneg hb0, u64_in _ hv.1 (by omega), hw]
  have hs : shl .u64 (b % 128) (7 * (i : Int)) = b % 128 * 2 ^ (7 * i) := by
    unfold shl
    rw [show (7 * (i : Int)).toNat = 7 * i by omega, Nat.min_eq_left (show 7 * i ≤ IntKind.u64.bits by show 7 * i ≤ 64; omega)]
    exact u64_in _ hnn (by omega)
  rw [hs, u64_in _ (by omega) hsz]
/-- What the reference's ReadNumber gives at byte i. -/
def refOut (s : ByteArray) (d : Int × Int) : Int × ByteArray × Int := if d.2 = 0 then (0, ⟨#[]⟩, 11) else (d.1, s.extract d.2.toNat s.size, 0)
theorem readNumber_l0 (s : ByteArray) : ∀ (d i : Nat) (n : Int) (k : Nat), i + d = 10 → 3 * d + 3 ≤ k → 0 ≤ n → n < 2 ^ (7 * i) → q1ReadNumber.l0 k n i s 0 = some (refOut s (decGo i n ((numsB s).drop i))) := by
  intro d
  induction d with
  | zero =>
    intro i n k hi hk h0 h1
    obtain ⟨k, rfl⟩ : ∃ m, k = m + 2 := ⟨k - 2, by omega⟩
    simp only [q1ReadNumber.l0, q1ReadNumber.j1, fail_eq, Option.bind_some]
    by_cases h : i < s.size
    · rw [if_pos (by omega), numsB_drop s i h]
      rw [if_neg (by simp; omega)]
      simp only [decGo]
      rw [if_pos (by omega)]
      rfl
    · rw [if_neg (by omega), numsB_drop_nil s i h]
      rfl
  | succ d ih =>
    intro i n k hi hk h0 h1
    obtain ⟨k, rfl⟩ : ∃ m, k = m + 3 := ⟨k - 3, by omega⟩
    by_cases h : i < s.size
    · have hr := bt_range s i
      simp only [q1ReadNumber.l0]
      rw [if_pos (by omega)]
      simp only [q1ReadNumber.j1, fail_eq, Option.bind_some]
      rw [if_pos (by simp; omega), if_pos (by omega), if_pos (by omega), numsB_drop s i h]
      simp only [decGo]
      rw [if_neg (show ¬ 10 ≤ i by omega)]
      by_cases h9 : i = 9 ∧ bt s i > 1
      · rw [if_pos h9, if_pos (by omega)]
        simp only [q1ReadNumber.j2, fail_eq, Option.bind_some]
        rw [if_pos (decide_eq_true h9.2)]
        rfl
      · rw [if_neg h9]
        have hw := wrap1 i (by omega)
        have h7 : 0 ≤ wrap64 (7 * (i : Int)) := by rw [wrap7 i (by omega)]; omega
        have hnn : 0 ≤ n + bt s i % 128 * 2 ^ (7 * i) :=
          Int.add_nonneg h0 (Int.mul_nonneg (Int.emod_nonneg _ (by decide)) (Int.le_of_lt (pow_pos2 (7 * i))))
        have hb9 : i = 9 → bt s i ≤ 1 := fun e => Int.not_lt.1 fun h => h9 ⟨e, h⟩
        obtain ⟨hg, hlt⟩ := group_add n (bt s i) i (by omega) h0 h1 hr.1 (by omega) hb9
        have main : ∀ b : Bool, b = false → q1ReadNumber.j2 (k + 1) n i (bt s i) b s 0 = some (refOut s (if bt s i < 128 then (if bt s i = 0 ∧ 0 < i then (0, 0) else (n + bt s i % 128 * 2 ^ (7 * i), (i : Int) + 1)) else decGo (i + 1) (n + bt s i % 128 * 2 ^ (7 * i)) ((numsB s).drop (i + 1)))) := by
          rintro b rfl
          simp only [q1ReadNumber.j2, fail_eq, Option.bind_some]
          rw [if_neg (by simp), if_pos h7, hg, hw]
          by_cases h128 : bt s i < 128
          · rw [if_pos h128, if_pos h128]
            clear hlt h1 ih
            have hn1 : (0 : Int) ≤ ((i + 1 : Nat) : Int) := by omega
            have hn2 : ((i + 1 : Nat) : Int) ≤ s.size := by omega
            by_cases hz : bt s i = 0
            · rw [if_pos hz]
              by_cases hp : 0 < i
              · rw [if_pos (by omega), if_pos ⟨hz, hp⟩]
                rfl
              · rw [if_neg (by omega), if_pos hn1, if_pos hn2, if_neg (fun h => hp h.2)]
                unfold refOut
                rw [if_neg (by simp only []; omega)]
                rfl
            · rw [if_neg hz, if_pos hn1, if_pos hn2, if_neg (fun h => hz h.1)]
              unfold refOut
              rw [if_neg (by simp only []; omega)]
              rfl
          · rw [if_neg h128, if_neg h128]
            exact ih (i + 1) _ k (by omega) (by omega) hnn hlt
        by_cases hi9 : (i : Int) = 9
        · rw [if_pos hi9]
          exact main _ (by simp; omega)
        · rw [if_neg hi9]
          exact main _ rfl
    · simp only [q1ReadNumber.l0, q1ReadNumber.j1, fail_eq, Option.bind_some]
      rw [if_neg (by omega), numsB_drop_nil s i h, if_neg (by simp)]
      rfl
theorem refN_at (s : ByteArray) (e : Int) : q1ReadNumber.f 33 s e = some (readN s e) := by
  unfold q1ReadNumber.f readN
  by_cases h : e = 0
  · rw [if_pos h, if_pos h]
    subst h
    have := readNumber_l0 s 10 0 0 33 rfl (by omega) (by omega) (by decide)
    rw [List.drop_zero] at this
    exact this
  · rw [if_neg h, if_neg h]
theorem refN_ev (s : ByteArray) (e : Int) : Ev (fun k => q1ReadNumber.f k s e) (readN s e) := Ev.of (q1ReadNumber.mono _ _) (refN_at s e)
theorem refC_ev (s : ByteArray) (e most : Int) (hm : most ≤ 9223372036854775807) : Ev (fun k => q1ReadCount.f k s e most) (readC s e most) := by
  unfold q1ReadCount.f readC
  refine Ev.bind (refN_ev s e) ?_
  have hr := readN_range s e
  have he := readN_err s e
  generalize readN s e = x at hr he
  obtain ⟨n, t, q⟩ := x
  simp only [fail_eq, Option.bind_some] at hr he ⊢
  by_cases h : q = 0
  · simp only [if_pos h]
    by_cases h1 : most < 0
    · simp only [if_pos h1, if_pos (show most < 0 ∨ n > most from Or.inl h1)]; exact Ev.now _
    · rw [i64_u64 most (by omega) hm]
      simp only [if_neg h1]
      by_cases h2 : n > most
      · simp only [if_pos h2, if_pos (show most < 0 ∨ n > most from Or.inr h2)]; exact Ev.now _
      · simp only [if_neg h2, if_neg (show ¬ (most < 0 ∨ n > most) by omega)]
        have : wrap64 n = n := by unfold wrap64; omega
        rw [this]; exact Ev.now _
  · simp only [if_neg h]
    rw [he h]
    have : wrap64 0 = 0 := by unfold wrap64; omega
    rw [this]; exact Ev.now _
theorem refT_ev (s : ByteArray) (e most : Int) (hm : most ≤ 9223372036854775807) : Ev (fun k => q1ReadText.f k s e most) (readT s e most) := by
  unfold q1ReadText.f readT
  refine Ev.bind (refC_ev s e most hm) ?_
  have hr := readC_range s e most
  generalize readC s e most = x at hr
  obtain ⟨n, t, q⟩ := x
  simp only [] at hr ⊢
  by_cases h : q = 0
  · simp only [if_pos h]
    by_cases h1 : n > (t.size : Int)
    · simp only [if_pos h1]
      refine Ev.step (f := fun _ => some (⟨#[]⟩, ⟨#[]⟩, 11)) (fun k => ?_) (Ev.now _)
      simp only [q1ReadText.j0, fail_eq, Option.bind_some]
      rw [if_pos (decide_eq_true h1)]
    · simp only [if_neg h1]
      refine Ev.step (f := fun _ => some (t.extract 0 n.toNat, t.extract n.toNat t.size, 0)) (fun k => ?_) (Ev.now _)
      simp only [q1ReadText.j0, fail_eq, Option.bind_some]
      rw [if_neg (by simpa using h1), if_pos h, if_pos hr.1, if_pos (by omega)]
  · simp only [if_neg h]
    refine Ev.step (f := fun _ => some (⟨#[]⟩, t, q)) (fun k => ?_) (Ev.now _)
    simp only [q1ReadText.j0, fail_eq, Option.bind_some]
    rw [if_neg (by simp), if_neg h]
end Go.Proofs.Ytegefemkmdlmaaa.P
