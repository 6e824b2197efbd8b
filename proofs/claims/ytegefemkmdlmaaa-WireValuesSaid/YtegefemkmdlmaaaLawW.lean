/- Plain laws on the encodings of numbers, integers and texts. -/
import Derived.Test.YtegefemkmdlmaaaF27
import Derived.Test.YtegefemkmdlmaaaF28
import Derived.Test.YtegefemkmdlmaaaF29
import Derived.Test.YtegefemkmdlmaaaF30
import Derived.Test.YtegefemkmdlmaaaF31
import Derived.Test.YtegefemkmdlmaaaF32
import Derived.Test.YtegefemkmdlmaaaF33
import Derived.Test.YtegefemkmdlmaaaDec
namespace Go.Proofs.Ytegefemkmdlmaaa.P
open Go.RowKit Go.Proofs.YtegefemkmdlmaaaW.PrintWords Go.Proofs.YtegefemkmdlmaaaW.PrintLast Go.Proofs.YtegefemkmdlmaaaW.PrintMore
theorem ba_ext {a b : ByteArray} (h : a.data.toList = b.data.toList) : a = b := by
  obtain ⟨⟨l⟩⟩ := a
  obtain ⟨⟨m⟩⟩ := b
  simp only [] at h
  rw [h]
theorem data_append (a b : ByteArray) : (a ++ b).data.toList = a.data.toList ++ b.data.toList := by
  rw [ByteArray.data_append, Array.toList_append]
theorem ba_append_assoc (a b c : ByteArray) : a ++ b ++ c = a ++ (b ++ c) := ba_ext (by simp only [data_append, List.append_assoc])
theorem strOfNums_append (a b : List Int) : strOfNums (a ++ b) = strOfNums a ++ strOfNums b := by
  apply ba_ext
  rw [data_append, strOfNums_data, strOfNums_data, strOfNums_data, List.map_append]
theorem u64_in (n : Int) (h0 : 0 ≤ n) (h1 : n < 18446744073709551616) : IntKind.u64.wrap n = n := u64_wraps n h0 (by simpa using h1)
/-- The encoding of a number. -/
def numE (n : Int) : ByteArray := strOfNums (encL 9 n)
theorem numE_size (n : Int) : 1 ≤ (numE n).size ∧ (numE n).size ≤ 10 := by
  unfold numE
  rw [strOfNums_size]
  exact encL_length 9 n
theorem number_go (j : Nat) : j ≤ 9 → ∀ n : Int, 0 ≤ n → n < 18446744073709551616 → n < 128 ^ (j + 1) → Ev (fun k => dasdref01_Number.f k n) (strOfNums (encL j n)) := by
  induction j with
  | zero =>
    intro hj n h0 h1 h2
    have h2 : n < 128 := by simpa using h2
    refine Ev.step (f := fun _ => some (strOfNums [n % 256])) (fun k => by simp only [dasdref01_Number.f]; rw [if_pos h2]) ?_
    rw [Int.emod_eq_of_lt h0 (by omega)]
    exact Ev.now _
  | succ j ih =>
    intro hj n h0 h1 h2
    by_cases h : n < 128
    · refine Ev.step (f := fun _ => some (strOfNums [n % 256])) (fun k => by simp only [dasdref01_Number.f]; rw [if_pos h]) ?_
      rw [Int.emod_eq_of_lt h0 (by omega), encL_small _ _ h]
      exact Ev.now _
    · have e1 : (IntKind.u64.wrap (Int.tmod n 128 + 128)) % 256 = n % 128 + 128 := by
        rw [Int.tmod_eq_emod_of_nonneg h0, u64_in _ (by omega) (by omega)]; omega
      have e2 : IntKind.u64.wrap (Int.tdiv n 128) = n / 128 := by
        rw [Int.tdiv_eq_ediv_of_nonneg h0, u64_in _ (by omega) (by omega)]
      have hlt : n / 128 < 128 ^ (j + 1) := by
        rw [Int.pow_succ] at h2
        exact Int.ediv_lt_of_lt_mul (by decide) h2
      refine Ev.step (f := fun k => (dasdref01_Number.f k (n / 128)).bind fun t => if (strOfNums [n % 128 + 128]).size + t.size ≤ 9223372036854775807 then some (strOfNums [n % 128 + 128] ++ t) else none) (fun k => by simp only [dasdref01_Number.f]; rw [if_neg h, Option.bind_some, e1, e2]) ?_
      refine Ev.bind (ih (by omega) (n / 128) (by omega) (by omega) hlt) ?_
      rw [encL_big _ _ h]
      have hs : (strOfNums [n % 128 + 128]).size + (strOfNums (encL j (n / 128))).size ≤ 9223372036854775807 := by
        have := (encL_length j (n / 128)).2
        rw [strOfNums_size, strOfNums_size, List.length_singleton]
        omega
      simp only [if_pos hs]
      rw [show (n % 128 + 128) :: encL j (n / 128) = [n % 128 + 128] ++ encL j (n / 128) from rfl, strOfNums_append]
      exact Ev.now _
theorem number_ev (n : Int) (h0 : 0 ≤ n) (h1 : n < 18446744073709551616) : Ev (fun k => dasdref01_Number.f k n) (numE n) :=
  number_go 9 (by omega) n h0 h1 (by
    have : (128 : Int) ^ (9 + 1) = 1180591620717411303424 := by decide
    omega)
theorem appendNumber_eq (s : ByteArray) (n : Int) (h0 : 0 ≤ n) (h1 : n < 18446744073709551616) (hs : s.size ≤ 140737488355328) : wire_AppendNumber.f s n = some (s ++ numE n) := by
  unfold wire_AppendNumber.f
  rw [if_pos ⟨h0, h1, by omega⟩]
  rfl
/-- The number that stands for an integer. -/
def zig (n : Int) : Int := if n < 0 then -2 * n - 1 else 2 * n
theorem zig_range (n : Int) (h0 : -9223372036854775808 ≤ n) (h1 : n ≤ 9223372036854775807) : 0 ≤ zig n ∧ zig n < 18446744073709551616 := by
  unfold zig; split <;> omega
theorem zigzag_eq (n : Int) (h0 : -9223372036854775808 ≤ n) (h1 : n ≤ 9223372036854775807) : dasdref01_Zigzag.f n = some (zig n) := by
  unfold dasdref01_Zigzag.f zig
  by_cases h : n < 0
  · rw [if_pos h, if_pos h]
    have e1 : wrap64 (n + 1) = n + 1 := by unfold wrap64; omega
    have e2 : wrap64 (-(n + 1)) = -(n + 1) := by unfold wrap64; omega
    rw [e1, e2, u64_in (-(n + 1)) (by omega) (by omega), u64_in (2 * -(n + 1)) (by omega) (by omega), u64_in (2 * -(n + 1) + 1) (by omega) (by omega)]
    congr 1
    omega
  · rw [if_neg h, if_neg h, u64_in n (by omega) (by omega), u64_in (2 * n) (by omega) (by omega)]
theorem u64_neg (n : Int) (h0 : -9223372036854775808 ≤ n) (h1 : n < 0) : IntKind.u64.wrap n = n + 18446744073709551616 := by
  simp [IntKind.wrap, IntKind.bits, IntKind.signed]
  omega
theorem xor_zero (x : Int) (h0 : 0 ≤ x) (h1 : x < 18446744073709551616) : bits .xor .u64 x 0 = x := by
  obtain ⟨a, rfl⟩ : ∃ a : Nat, x = a := ⟨x.toNat, by omega⟩
  have ha : a % 2 ^ 64 = a := Nat.mod_eq_of_lt (by omega)
  show IntKind.u64.wrap ((BitVec.ofInt 64 (a : Int) ^^^ BitVec.ofInt 64 0).toNat : Int) = a
  rw [BitVec.ofInt_natCast, show BitVec.ofInt 64 0 = 0#64 from rfl, BitVec.xor_zero, BitVec.toNat_ofNat, ha]
  exact u64_in _ (by omega) (by omega)
theorem xor_ones (x : Int) (h0 : 0 ≤ x) (h1 : x < 18446744073709551616) : bits .xor .u64 x 18446744073709551615 = 18446744073709551615 - x := by
  obtain ⟨a, rfl⟩ : ∃ a : Nat, x = a := ⟨x.toNat, by omega⟩
  have ha : a % 2 ^ 64 = a := Nat.mod_eq_of_lt (by omega)
  show IntKind.u64.wrap ((BitVec.ofInt 64 (a : Int) ^^^ BitVec.ofInt 64 18446744073709551615).toNat : Int) = 18446744073709551615 - a
  rw [BitVec.ofInt_natCast, show BitVec.ofInt 64 18446744073709551615 = BitVec.allOnes 64 from by decide, BitVec.xor_allOnes, BitVec.toNat_not, BitVec.toNat_ofNat, ha]
  rw [u64_in _ (by omega) (by omega)]
  omega
theorem appendInt_eq (s : ByteArray) (n : Int) (h0 : -9223372036854775808 ≤ n) (h1 : n ≤ 9223372036854775807) (hs : s.size ≤ 140737488355328) : wire_AppendInt.f s n = some (s ++ numE (zig n)) := by
  have hz := zig_range n h0 h1
  unfold wire_AppendInt.f
  have e : Go.bits .xor .u64 (IntKind.u64.wrap ((IntKind.u64.wrap n) * 2)) (IntKind.u64.wrap (n / 9223372036854775808)) = zig n := by
    unfold zig
    by_cases h : n < 0
    · rw [if_pos h, u64_neg n h0 h]
      have e1 : n / 9223372036854775808 = -1 := by omega
      have e2 : IntKind.u64.wrap ((n + 18446744073709551616) * 2) = 2 * n + 18446744073709551616 := by
        simp [IntKind.wrap, IntKind.bits, IntKind.signed]
        omega
      have e3 : IntKind.u64.wrap (-1) = 18446744073709551615 := by rw [u64_neg _ (by omega) (by omega)]; rfl
      rw [e1, e2, e3, xor_ones _ (by omega) (by omega)]
      omega
    · rw [if_neg h, u64_in n (by omega) (by omega)]
      have e1 : n / 9223372036854775808 = 0 := by omega
      rw [e1, u64_in (n * 2) (by omega) (by omega), u64_in 0 (by omega) (by omega), xor_zero _ (by omega) (by omega)]
      omega
  rw [e, appendNumber_eq s _ hz.1 hz.2 hs]
  rfl
end Go.Proofs.Ytegefemkmdlmaaa.P
