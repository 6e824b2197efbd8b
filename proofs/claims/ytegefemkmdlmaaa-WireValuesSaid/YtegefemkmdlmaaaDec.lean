/- The printed decode of wire answers what the plain words on reading a number say. -/
import Derived.Test.YtegefemkmdlmaaaF0
import Derived.Test.YtegefemkmdlmaaaF110
import Derived.Test.YtegefemkmdlmaaaEnc2
namespace Go.Proofs.Ytegefemkmdlmaaa.P
open Go.RowKit Go.Proofs.YtegefemkmdlmaaaW.PrintWords Go.Proofs.YtegefemkmdlmaaaW.PrintLast Go.Proofs.YtegefemkmdlmaaaW.PrintMore
theorem numsB_length (s : ByteArray) : (numsB s).length = s.size := by
  unfold numsB
  rw [List.length_map]
  rfl
theorem numsB_drop (s : ByteArray) (i : Nat) (h : i < s.size) : (numsB s).drop i = bt s i :: (numsB s).drop (i + 1) := by
  have hl : i < (numsB s).length := by rw [numsB_length]; exact h
  rw [List.drop_eq_getElem_cons hl]
  congr 1
  have h2 := bt_at s (i : Int) (by simpa using h)
  rw [← h2]
  simp [numsB, ByteArray.getElem_eq_getElem_data]
theorem numsB_drop_nil (s : ByteArray) (i : Nat) (h : ¬ i < s.size) : (numsB s).drop i = [] := by
  rw [List.drop_eq_nil_iff, numsB_length]; omega
theorem bits_or_comm (k : IntKind) (x y : Int) : bits .or k x y = bits .or k y x := by
  simp only [bits, BitVec.or_comm]
theorem u64_wraps (n : Int) (h0 : 0 ≤ n) (h1 : n < 2 ^ 64) : IntKind.u64.wrap n = n := by
  simp [IntKind.wrap, IntKind.bits, IntKind.signed]
  omega
theorem u8_and127 (x : Int) (h0 : 0 ≤ x) (h1 : x < 256) : bits .and .u8 x 127 = x % 128 :=
  bits_mask .u8 8 (by decide) wraps_u8 7 (by decide) x h0 h1
theorem pow7 (i : Nat) (h : i < 9) : (2 : Int) ^ (7 * i) * 128 ≤ 2 ^ 63 := by
  rw [show (128 : Int) = 2 ^ 7 from rfl, ← Int.pow_add]
  exact_mod_cast Nat.pow_le_pow_right (by decide) (by omega)
theorem pow_pos2 (i : Nat) : (0 : Int) < 2 ^ i := Int.pow_pos (by decide)
theorem wrap7 (i : Nat) (h : i ≤ 9) : wrap64 (7 * (i : Int)) = 7 * i := by unfold wrap64; omega
theorem wrap1 (i : Nat) (h : i ≤ 9) : wrap64 ((i : Int) + 1) = ((i + 1 : Nat) : Int) := by unfold wrap64; omega
/-- One group more. -/
theorem group_eq (n b : Int) (i : Nat) (hi : i ≤ 9) (h0 : 0 ≤ n) (h1 : n < 2 ^ (7 * i)) (hb0 : 0 ≤ b) (hb : b < 256) (h9 : i = 9 → b ≤ 1) :
    Go.bits .or .u64 n (shl .u64 (IntKind.u64.wrap (Go.bits .and .u8 b 127)) (wrap64 (7 * (i : Int)))) = n + b % 128 * 2 ^ (7 * i) ∧ n + b % 128 * 2 ^ (7 * i) < 2 ^ (7 * (i + 1)) := by
  have hp := pow_pos2 (7 * i)
  have hv : 0 ≤ b % 128 ∧ b % 128 < 128 := by omega
  have hlt : n + b % 128 * 2 ^ (7 * i) < 2 ^ (7 * (i + 1)) := by
    rw [show 7 * (i + 1) = 7 * i + 7 by omega, Int.pow_add]
    have := Int.mul_le_mul_of_nonneg_right (show b % 128 ≤ 127 by omega) (Int.le_of_lt hp)
    omega
  refine ⟨?_, hlt⟩
  have hw := wrap7 i hi
  have hsz : b % 128 * 2 ^ (7 * i) < 2 ^ 64 := by
    rcases Nat.lt_or_ge i 9 with h | h
    · have := pow7 i h
      have := Int.mul_le_mul_of_nonneg_right (show b % 128 ≤ 127 by omega) (Int.le_of_lt hp)
      omega
    · obtain rfl : i = 9 := by omega
      have := h9 rfl
      have : b % 128 ≤ 1 := by omega
      have := Int.mul_le_mul_of_nonneg_right this (Int.le_of_lt hp)
      simp only [Nat.reduceMul] at this ⊢
      omega
  have hnn : 0 ≤ b % 128 * 2 ^ (7 * i) := Int.mul_nonneg hv.1 (Int.le_of_lt hp)
  rw [u8_and127 b hb0 hb, u64_wraps _ hv.1 (by omega), hw]
  have hs : shl .u64 (b % 128) (7 * (i : Int)) = b % 128 * 2 ^ (7 * i) := by
    unfold shl
    rw [show (7 * (i : Int)).toNat = 7 * i by omega, Nat.min_eq_left (show 7 * i ≤ IntKind.u64.bits by show 7 * i ≤ 64; omega)]
    exact u64_wraps _ hnn hsz
  rw [hs, bits_or_comm, bits_join .u64 64 (by decide) (fun n h0 h1 => u64_wraps n h0 h1) (7 * i) _ _ hnn (Int.mul_emod_left _ _) hsz h0 h1 ?_]
  · omega
  · have : (2 : Int) ^ (7 * i) ≤ 2 ^ 63 := by exact_mod_cast Nat.pow_le_pow_right (by decide) (by omega)
    omega
theorem decode_l0 (s : ByteArray) : ∀ (d i : Nat) (n : Int) (k : Nat), i + d = 10 → 3 * d + 3 ≤ k → 0 ≤ n → n < 2 ^ (7 * i) → wire_decode.l0 k s n i = some (decGo i n ((numsB s).drop i)) := by
  intro d
  induction d with
  | zero =>
    intro i n k hi hk h0 h1
    obtain ⟨k, rfl⟩ : ∃ m, k = m + 2 := ⟨k - 2, by omega⟩
    simp only [wire_decode.l0, wire_decode.j1]
    by_cases h : i < s.size
    · rw [if_pos (by omega), numsB_drop s i h]
      rw [if_neg (by simp; omega)]
      simp only [decGo]
      rw [if_pos (by omega)]
    · rw [if_neg (by omega), numsB_drop_nil s i h]
      rfl
  | succ d ih =>
    intro i n k hi hk h0 h1
    obtain ⟨k, rfl⟩ : ∃ m, k = m + 3 := ⟨k - 3, by omega⟩
    by_cases h : i < s.size
    · have hr := bt_range s i
      simp only [wire_decode.l0]
      rw [if_pos (by omega)]
      simp only [wire_decode.j1]
      rw [if_pos (by simp; omega), if_pos (by omega), if_pos (by omega), numsB_drop s i h]
      simp only [decGo]
      rw [if_neg (show ¬ 10 ≤ i by omega)]
      by_cases h9 : i = 9 ∧ bt s i > 1
      · rw [if_pos h9, if_pos (by omega)]
        simp only [wire_decode.j2]
        rw [if_pos (decide_eq_true h9.2)]
      · rw [if_neg h9]
        have hw := wrap1 i (by omega)
        have h7 : 0 ≤ wrap64 (7 * (i : Int)) := by rw [wrap7 i (by omega)]; omega
        have hnn : 0 ≤ n + bt s i % 128 * 2 ^ (7 * i) :=
          Int.add_nonneg h0 (Int.mul_nonneg (Int.emod_nonneg _ (by decide)) (Int.le_of_lt (pow_pos2 (7 * i))))
        have hb9 : i = 9 → bt s i ≤ 1 := fun e => Int.not_lt.1 fun h => h9 ⟨e, h⟩
        obtain ⟨hg, hlt⟩ := group_eq n (bt s i) i (by omega) h0 h1 hr.1 (by omega) hb9
        have main : ∀ b : Bool, b = false → wire_decode.j2 (k + 1) s n i (bt s i) b = some (if bt s i < 128 then (if bt s i = 0 ∧ 0 < i then (0, 0) else (n + bt s i % 128 * 2 ^ (7 * i), (i : Int) + 1)) else decGo (i + 1) (n + bt s i % 128 * 2 ^ (7 * i)) ((numsB s).drop (i + 1))) := by
          rintro b rfl
          simp only [wire_decode.j2]
          rw [if_neg (by simp), if_pos h7, hg, hw]
          by_cases h128 : bt s i < 128
          · rw [if_pos h128, if_pos h128]
            clear hlt h1 ih
            by_cases hz : bt s i = 0
            · rw [if_pos hz]
              by_cases hp : 0 < i
              · rw [if_pos (by omega), if_pos ⟨hz, hp⟩]
              · rw [if_neg (by omega), if_neg (fun h => hp h.2)]; rfl
            · rw [if_neg hz, if_neg (fun h => hz h.1)]; rfl
          · rw [if_neg h128, if_neg h128]
            exact ih (i + 1) _ k (by omega) (by omega) hnn hlt
        by_cases hi9 : (i : Int) = 9
        · rw [if_pos hi9]
          exact main _ (by simp; omega)
        · rw [if_neg hi9]
          exact main _ rfl
    · simp only [wire_decode.l0, wire_decode.j1]
      rw [if_neg (by omega), numsB_drop_nil s i h, if_neg (by simp)]
      rfl
theorem decode_eq (s : ByteArray) : wire_decode.f 33 s = some (decB s) := by
  have := decode_l0 s 10 0 0 33 rfl (by omega) (by omega) (by decide)
  simpa [wire_decode.f, decB] using this
/-- The bytes that a number has lie at the front. -/
theorem decGo_bound (l : List Int) : ∀ (i : Nat) (n : Int), (decGo i n l).2 = 0 ∨ ((i : Int) < (decGo i n l).2 ∧ (decGo i n l).2 ≤ i + l.length ∧ (decGo i n l).2 ≤ 10) := by
  induction l with
  | nil => intro i n; simp [decGo]
  | cons b r ih =>
    intro i n
    simp only [decGo]
    split
    · simp
    · split
      · simp
      · split
        · split
          · simp
          · right; simp; omega
        · have := ih (i + 1) (n + b % 128 * 2 ^ (7 * i))
          simp only [List.length_cons] at this ⊢
          omega
theorem decB_bound (s : ByteArray) : (decB s).2 = 0 ∨ (0 < (decB s).2 ∧ (decB s).2 ≤ s.size ∧ (decB s).2 ≤ 10) := by
  have := decGo_bound (numsB s) 0 0
  rw [numsB_length] at this
  simpa [decB] using this
end Go.Proofs.Ytegefemkmdlmaaa.P
