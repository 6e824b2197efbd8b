/- Plain laws: reading an encoding of a number gives the number, and only encodings are read. -/
import Derived.Test.YtegefemkmdlmaaaLawW
namespace Go.Proofs.Ytegefemkmdlmaaa.P
open Go.RowKit Go.Proofs.YtegefemkmdlmaaaW.PrintWords Go.Proofs.YtegefemkmdlmaaaW.PrintLast Go.Proofs.YtegefemkmdlmaaaW.PrintMore
theorem pow7_succ (i : Nat) : (2 : Int) ^ (7 * (i + 1)) = 2 ^ (7 * i) * 128 := by
  rw [show 7 * (i + 1) = 7 * i + 7 by omega, Int.pow_add]
  rfl
theorem pow63 : (2 : Int) ^ (7 * 9) = 9223372036854775808 := by decide
theorem pow_ge (i : Nat) (h : 9 ≤ i) : (9223372036854775808 : Int) ≤ 2 ^ (7 * i) := by
  rw [← pow63]
  exact_mod_cast Nat.pow_le_pow_right (by decide) (by omega)
theorem dec_enc (j : Nat) : ∀ (i : Nat) (n acc : Int) (rest : List Int), i + j = 9 → 0 ≤ n → (0 < i → 0 < n) → 0 ≤ acc → n * 2 ^ (7 * i) < 18446744073709551616 →
    decGo i acc (encL j n ++ rest) = (acc + n * 2 ^ (7 * i), (i : Int) + (encL j n).length) := by
  induction j with
  | zero =>
    intro i n acc rest hi h0 hp ha hlt
    obtain rfl : i = 9 := by omega
    rw [pow63] at hlt ⊢
    have hn : n < 2 := by omega
    have hz := hp (by omega)
    simp only [encL, List.singleton_append, decGo]
    rw [if_neg (by omega), if_neg (by omega), if_pos (by omega), if_neg (by omega), Int.emod_eq_of_lt h0 (by omega), pow63]
    simp
  | succ j ih =>
    intro i n acc rest hi h0 hp ha hlt
    have hpos := pow_pos2 (7 * i)
    by_cases h : n < 128
    · rw [encL_small _ _ h]
      simp only [List.singleton_append, decGo]
      rw [if_neg (by omega), if_neg (by omega), if_pos h, if_neg (fun hh => by have := hp hh.2; omega), Int.emod_eq_of_lt h0 h]
      simp
    · rw [encL_big _ _ h]
      simp only [List.cons_append, decGo]
      rw [if_neg (by omega), if_neg (by omega), if_neg (by omega)]
      have e1 : (n % 128 + 128) % 128 = n % 128 := by omega
      have hmul : n / 128 * 2 ^ (7 * (i + 1)) + n % 128 * 2 ^ (7 * i) = n * 2 ^ (7 * i) := by
        rw [pow7_succ, Int.mul_comm (2 ^ (7 * i)) 128, ← Int.mul_assoc, ← Int.add_mul]
        congr 1
        omega
      have hnn : 0 ≤ n % 128 * 2 ^ (7 * i) := Int.mul_nonneg (by omega) (Int.le_of_lt hpos)
      rw [e1, ih (i + 1) (n / 128) _ rest (by omega) (by omega) (fun _ => by omega) (by omega) (by omega)]
      rw [Prod.mk.injEq]
      constructor
      · omega
      · rw [List.length_cons]; omega
theorem encL_bytes (j : Nat) : ∀ n : Int, 0 ≤ n → n < 128 ^ (j + 1) → ∀ x ∈ encL j n, 0 ≤ x ∧ x < 256 := by
  induction j with
  | zero =>
    intro n h0 h1 x hx
    simp only [encL, List.mem_singleton] at hx
    have : n < 128 := by simpa using h1
    omega
  | succ j ih =>
    intro n h0 h1 x hx
    by_cases h : n < 128
    · rw [encL_small _ _ h, List.mem_singleton] at hx
      subst hx; omega
    · rw [encL_big _ _ h] at hx
      rcases List.mem_cons.1 hx with rfl | hx
      · omega
      · refine ih (n / 128) (by omega) ?_ x hx
        rw [Int.pow_succ] at h1
        exact Int.ediv_lt_of_lt_mul (by decide) h1
theorem lt_pow10 {n : Int} (h : n < 18446744073709551616) : n < 128 ^ (9 + 1) := by
  have : (128 : Int) ^ (9 + 1) = 1180591620717411303424 := by decide
  omega
theorem numsB_append (a b : ByteArray) : numsB (a ++ b) = numsB a ++ numsB b := by
  unfold numsB
  rw [data_append, List.map_append]
theorem numsB_str (l : List Int) (h : ∀ x ∈ l, 0 ≤ x ∧ x < 256) : numsB (strOfNums l) = l := by
  unfold numsB
  rw [strOfNums_data, List.map_map]
  conv => rhs; rw [← List.map_id l]
  apply List.map_congr_left
  intro x hx
  have := h x hx
  simp only [Function.comp, id]
  rw [UInt8.toNat_ofNat_of_lt' (by show x.toNat < 256; omega)]
  omega
theorem numsB_numE (n : Int) (h0 : 0 ≤ n) (h1 : n < 18446744073709551616) : numsB (numE n) = encL 9 n := numsB_str _ (encL_bytes 9 n h0 (lt_pow10 h1))
theorem numsB_inj {a b : ByteArray} (h : numsB a = numsB b) : a = b := by
  apply ba_ext
  unfold numsB at h
  exact (List.map_inj_right (fun x y hxy => UInt8.toNat_inj.1 (by omega))).1 h
theorem extract_list (s : ByteArray) (a b : Nat) : (s.extract a b).data.toList = (s.data.toList.drop a).take (b - a) := by
  rw [ByteArray.data_extract, Array.toList_extract, List.extract_eq_take_drop]
theorem ba_split (s : ByteArray) (k : Nat) : s = s.extract 0 k ++ s.extract k s.size := by
  apply ba_ext
  rw [data_append, extract_list, extract_list, List.drop_zero, Nat.sub_zero]
  rw [List.take_of_length_le (l := s.data.toList.drop k) (by rw [List.length_drop]; exact Nat.le_refl _), List.take_append_drop]
/-- Reading an encoding that stands in front. -/
theorem decB_numE (n : Int) (rest : ByteArray) (h0 : 0 ≤ n) (h1 : n < 18446744073709551616) : decB (numE n ++ rest) = (n, ((numE n).size : Int)) := by
  unfold decB
  rw [numsB_append, numsB_numE n h0 h1, dec_enc 9 0 n 0 _ rfl h0 (fun h => by omega) (by omega) (by simpa using h1)]
  unfold numE
  rw [strOfNums_size]
  simp
/-- What is read is an encoding. -/
theorem enc_dec (j : Nat) : ∀ (i : Nat) (acc : Int) (l : List Int), i + j = 9 → 0 ≤ acc → acc < 2 ^ (7 * i) → (∀ x ∈ l, 0 ≤ x ∧ x < 256) → (decGo i acc l).2 ≠ 0 →
    ∃ n : Int, 0 ≤ n ∧ (0 < i → 0 < n) ∧ (decGo i acc l).1 = acc + n * 2 ^ (7 * i) ∧ (decGo i acc l).1 < 18446744073709551616 ∧ (decGo i acc l).2 = (i : Int) + (encL j n).length ∧ l.take (encL j n).length = encL j n := by
  induction j with
  | zero =>
    intro i acc l hi ha ha2 hl hk
    obtain rfl : i = 9 := by omega
    cases l with
    | nil => simp [decGo] at hk
    | cons b r =>
      have hb := hl b (by simp)
      simp only [decGo] at hk ⊢
      rw [if_neg (by omega)] at hk ⊢
      by_cases h1 : b > 1
      · rw [if_pos ⟨trivial, h1⟩] at hk; simp at hk
      · rw [if_neg (fun h => h1 h.2), if_pos (show b < 128 by omega)] at hk ⊢
        by_cases hz : b = 0
        · rw [if_pos ⟨hz, by omega⟩] at hk; simp at hk
        · rw [if_neg (fun h => hz h.1)]
          rw [pow63] at ha2 ⊢
          refine ⟨b, hb.1, fun _ => by omega, ?_, ?_, ?_, ?_⟩
          · rw [Int.emod_eq_of_lt hb.1 (by omega)]
          · simp only []; omega
          · simp [encL]
          · simp [encL]
  | succ j ih =>
    intro i acc l hi ha ha2 hl hk
    have hpos := pow_pos2 (7 * i)
    cases l with
    | nil => simp [decGo] at hk
    | cons b r =>
      have hb := hl b (by simp)
      simp only [decGo] at hk ⊢
      rw [if_neg (by omega), if_neg (by omega)] at hk ⊢
      by_cases h1 : b < 128
      · rw [if_pos h1] at hk ⊢
        by_cases hz : b = 0 ∧ 0 < i
        · rw [if_pos hz] at hk; simp at hk
        · rw [if_neg hz]
          refine ⟨b, hb.1, fun hp => ?_, ?_, ?_, ?_, ?_⟩
          · have : b ≠ 0 := fun e => hz ⟨e, hp⟩
            omega
          · rw [Int.emod_eq_of_lt hb.1 (by omega)]
          · have := group_eq acc b i (by omega) ha ha2 hb.1 hb.2 (by omega)
            have h2 : (2 : Int) ^ (7 * (i + 1)) ≤ 2 ^ (7 * 9) := by exact_mod_cast Nat.pow_le_pow_right (by decide) (by omega)
            rw [pow63] at h2
            simp only []
            omega
          · rw [encL_small _ _ h1]; simp
          · rw [encL_small _ _ h1]; simp
      · rw [if_neg h1] at hk ⊢
        have hlt := (group_eq acc b i (by omega) ha ha2 hb.1 hb.2 (by omega)).2
        have hnn : 0 ≤ b % 128 * 2 ^ (7 * i) := Int.mul_nonneg (by omega) (Int.le_of_lt hpos)
        obtain ⟨n, n0, n1, n2, n3, n4, n5⟩ := ih (i + 1) (acc + b % 128 * 2 ^ (7 * i)) r (by omega) (by omega) hlt (fun x hx => hl x (by simp [hx])) hk
        have hn1 := n1 (by omega)
        refine ⟨n * 128 + b % 128, by omega, fun _ => by omega, ?_, n3, ?_, ?_⟩
        · rw [n2, pow7_succ, Int.add_mul, Int.mul_comm (2 ^ (7 * i)) 128, ← Int.mul_assoc]
          omega
        · rw [n4, encL_big _ _ (by omega), List.length_cons, show (n * 128 + b % 128) / 128 = n by omega]
          omega
        · rw [encL_big _ _ (by omega), List.length_cons, List.take_succ_cons, show (n * 128 + b % 128) / 128 = n by omega, n5]
          congr 1
          omega
theorem numsB_range (s : ByteArray) : ∀ x ∈ numsB s, 0 ≤ x ∧ x < 256 := by
  intro x hx
  unfold numsB at hx
  obtain ⟨y, _, rfl⟩ := List.mem_map.1 hx
  have := y.toNat_lt
  omega
theorem numsB_extract0 (s : ByteArray) (k : Nat) : numsB (s.extract 0 k) = (numsB s).take k := by
  unfold numsB
  rw [← List.map_take]
  congr 1
  simp [ByteArray.data_extract]
/-- What Number reads. -/
theorem decB_strict (s : ByteArray) (h : (decB s).2 ≠ 0) : 0 ≤ (decB s).1 ∧ (decB s).1 < 18446744073709551616 ∧ (decB s).2 = ((numE (decB s).1).size : Int) ∧ s.extract 0 (decB s).2.toNat = numE (decB s).1 := by
  obtain ⟨n, n0, _, n2, n3, n4, n5⟩ := enc_dec 9 0 0 (numsB s) rfl (by omega) (by decide) (numsB_range s) h
  have e : (decB s).1 = n := by unfold decB; rw [n2]; simp
  have hl : (numE n).size = (encL 9 n).length := by unfold numE; rw [strOfNums_size]
  have hk : (decB s).2 = ((encL 9 n).length : Int) := by unfold decB; rw [n4]; simp
  have hlt : n < 18446744073709551616 := by rw [← e]; exact n3
  rw [e]
  refine ⟨n0, hlt, by rw [hk, hl], ?_⟩
  apply numsB_inj
  rw [numsB_extract0, hk, Int.toNat_natCast, n5, numsB_numE n n0 hlt]
theorem encL_mono (j : Nat) : ∀ a b : Int, a ≤ b → (encL j a).length ≤ (encL j b).length := by
  induction j with
  | zero => intro a b _; simp [encL]
  | succ j ih =>
    intro a b h
    by_cases ha : a < 128
    · rw [encL_small _ _ ha]
      exact (encL_length _ b).1
    · rw [encL_big _ _ ha, encL_big _ _ (by omega), List.length_cons, List.length_cons]
      have := ih (a / 128) (b / 128) (by omega)
      omega
theorem numE_mono (a b : Int) (h : a ≤ b) : (numE a).size ≤ (numE b).size := by
  unfold numE
  rw [strOfNums_size, strOfNums_size]
  exact encL_mono 9 a b h
theorem numE_inj_front (a b : Int) (ha0 : 0 ≤ a) (ha1 : a < 18446744073709551616) (hb0 : 0 ≤ b) (hb1 : b < 18446744073709551616) (s t : ByteArray) (h : numE a ++ s = numE b ++ t) : a = b := by
  have h1 := decB_numE a s ha0 ha1
  have h2 := decB_numE b t hb0 hb1
  rw [h, h2] at h1
  exact (Prod.mk.inj h1).1.symm
end Go.Proofs.Ytegefemkmdlmaaa.P
