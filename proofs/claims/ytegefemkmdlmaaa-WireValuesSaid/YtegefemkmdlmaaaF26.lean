/- The contract of wire.AppendNumber: it returns the text and the groups of the number behind it. -/
import Derived.Lib.Hide
import Derived.Test.YtegefemkmdlmaaaF0
import Derived.Test.YtegefemkmdlmaaaEnc
namespace Go.Proofs.Ytegefemkmdlmaaa.P
open Go.RowKit Go.Proofs.YtegefemkmdlmaaaW.PrintWords Go.Proofs.YtegefemkmdlmaaaW.PrintLast Go.Proofs.YtegefemkmdlmaaaW.PrintMore
set_option linter.unusedVariables false
set_option linter.unusedSimpArgs false
theorem or_128 (cur : Int) (h : 0 ≤ cur) : bits BinOp.or IntKind.u8 (cur % 256) 128 = cur % 128 + 128 := by
  have key : ∀ x : Fin 256, bits BinOp.or IntKind.u8 (x.1 : Int) 128 = (x.1 : Int) % 128 + 128 := by decide +kernel
  have h1 : (cur % 256).toNat < 256 := by omega
  have := key ⟨(cur % 256).toNat, h1⟩
  simp only [] at this
  rw [show ((cur % 256).toNat : Int) = cur % 256 by omega] at this
  rw [this]
  omega
theorem cells10_at (done : List Int) (h : done.length ≤ 9) : ∃ v, (cells10 done)[done.length]? = some v := by
  have := cells10_size done (by omega)
  exact ⟨_, Array.getElem?_eq_getElem (by omega)⟩
theorem slice97 (g n : Nat) (h : n ≤ 9) (W : World) : (Instr.sliceAt 97 (.pointer (some ⟨g, 0, none⟩)) none (some (.int .i64 ((n : Int) + 1))) none).run Try.prog W = .ok (.slice (some ⟨g, 0, none⟩) (n + 1) 10) W := by
  have hal : Try.prog.arrayLen 97 = 10 := by kernel_rfl
  have hel : Try.prog.elem 97 = 5 := by kernel_rfl
  have hz : ∀ W : World, (Go.sizeOf 5).run Try.prog W = .ok 1 W := fun _ => by kernel_rfl
  rw [run_sliceAt_array_h W 97 _ (by rw [hal, hel]; exact Try.underlying97) .i64 _ (by omega) (by rw [hal]; omega), hel, hz, hal]
  simp only [Result.andThen, slicedAt]
  rw [show ((n : Int) + 1).toNat - 0 = n + 1 by omega]
  simp
  rfl
theorem pow_step (i : Nat) (cur : Int) (j : Nat) (h0 : 0 ≤ cur) (hj : j = i + 1) (h : (128 : Int) ^ i * cur < 18446744073709551616) : (128 : Int) ^ j * (cur / 128) < 18446744073709551616 := by
  subst hj
  have hp : 0 ≤ (128 : Int) ^ i := Int.le_of_lt (Int.pow_pos (by decide))
  have h1 : 128 * (cur / 128) ≤ cur := by omega
  have h2 := Int.mul_le_mul_of_nonneg_left h1 hp
  rw [Int.pow_succ, Int.mul_assoc]
  omega
theorem pow_lt (i : Nat) (cur : Int) (hi : i ≤ 9) (hlt : 128 ≤ cur) (h : (128 : Int) ^ i * cur < 18446744073709551616) : i < 9 := by
  rcases Nat.lt_or_ge i 9 with h9 | h9
  · exact h9
  · obtain rfl : i = 9 := by omega
    rw [show (128 : Int) ^ 9 = 9223372036854775808 by decide] at h
    omega
/-- What a round of AppendNumber keeps. -/
def AppInv (w : World) (a1 : Int) (n k : Value) (wr : World) : Prop :=
  ∃ (done : List Int) (cur : Int), done.length ≤ 9 ∧ 0 ≤ cur ∧ cur < 18446744073709551616 ∧ (128 : Int) ^ done.length * cur < 18446744073709551616 ∧ n = .int .u64 cur ∧ k = .int .i64 (done.length : Nat) ∧ wr = w.alloc (.cells (cells10 done) 97) ∧ done ++ encL (9 - done.length) cur = encL 9 a1
set_option maxRecDepth 100000 in
set_option maxHeartbeats 2000000 in
theorem wire_AppendNumber.calls (a0 : ByteArray) (a1 : Int) (r : ByteArray) (w : World) (h : wire_AppendNumber.f a0 a1 = some r) :
    Calls Try.prog 26 #[.string a0, .int .u64 a1] w fun e w' => e = .returned (.string r) ∧ Below w.heap.size w w' := by
  unfold wire_AppendNumber.f at h
  split at h
  case isFalse => simp at h
  rename_i hg
  obtain ⟨h0, h1, h2⟩ := hg
  obtain rfl := Option.some.inj h
  clear h
  go_enter Try.func26, Try.ntmps26
  go_wp2
  go_loopw [1, 6] (fun n k wr => AppInv w a1 n k wr) (fun n _ _ => (intOf n).toNat)
  case atStart => exact ⟨[], a1, by simp, h0, h1, by simpa using h1, rfl, rfl, by rfl, rfl⟩
  case round =>
    obtain ⟨done, cur, hd, hc0, hc1, hc2, rfl, rfl, rfl, he⟩ := hrel
    have HE := Lib.hid he
    clear he
    obtain ⟨v, hv⟩ := cells10_at done hd
    have hsz := cells10_size done (by omega)
    by_cases hlt : 128 ≤ cur
    · have hd9 : done.length < 9 := by
        exact pow_lt done.length cur hd hlt hc2
      go_wp2
      refine ⟨⟨done ++ [cur % 128 + 128], cur / 128, ?_, ?_, ?_, ?_, rfl, ?_, ?_, ?_⟩, ?_⟩
      · simp; omega
      · omega
      · omega
      · exact pow_step done.length cur _ hc0 (by simp) hc2
      · simp
      · rw [or_128 cur hc0, cells10_set done (by omega)]
      · rw [← HE.out]
        rw [show 9 - done.length = (9 - (done ++ [cur % 128 + 128]).length) + 1 by simp; omega, encL_big _ _ (by omega)]
        simp
      · simp [intOf]; omega
    · have c7 : a0.size + (strOfNums (done ++ [cur])).size ≤ 9223372036854775807 := by rw [strOfNums_size]; simp; omega
      have c7b0 := eq_true c7
      have c7b1 : decide (a0.size + (strOfNums (done ++ [cur])).size ≤ 9223372036854775807) = true := decide_eq_true c7
      have c7b2 : (9223372036854775807 < a0.size + (strOfNums (done ++ [cur])).size) = False := eq_false (Nat.not_lt.2 c7)
      clear c7
      have hsl := slice97 w.heap.size done.length hd
      have hset := cells10_set done (by omega) cur
      have hbs : (convert 99 9 (.slice (some ⟨w.heap.size, 0, none⟩) (done.length + 1) 10)).run Try.prog (w.alloc (.cells (cells10 (done ++ [cur])) 97)) = .ok (.string (strOfNums (done ++ [cur]))) (w.alloc (.cells (cells10 (done ++ [cur])) 97)) := by
        refine run_convert_bytes_arg _ 99 5 Try.underlying99 Try.underlying5 w.heap.size 0 (done.length + 1) 10 (done ++ [cur]) (by simp) ?_ 9 Try.underlying9
        intro i hi
        rw [World.cell?_alloc_at _ _ _ _ rfl, Nat.zero_add]
        exact cells10_get _ _ (by simpa using hi)
      go_wp2
      go_ret
      have he := HE.out
      rw [encL_small _ _ (by omega)] at he
      refine ⟨?_, (Below.refl _ _).alloc (Nat.le_refl _) _⟩
      simp only [Array.getD_eq_getD_getElem?]
      rw [← he]
      rfl
end Go.Proofs.Ytegefemkmdlmaaa.P
