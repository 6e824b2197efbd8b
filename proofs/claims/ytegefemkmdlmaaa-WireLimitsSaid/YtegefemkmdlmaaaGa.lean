/- Joined: Enc F26 F32 Enc2 F110 Dec F2110 F62 F104 F71 F63 F64 F27 F33 F28 F65 F25 F30 F93 F29 F31 Awk1 LawW Enc3 F73 F75 F78 F79 Read ReadE. -/
import Derived.Laws.BytesArg
import Derived.Lib.Hide
import Derived.Test.YtegefemkmdlmaaaF0
section
/- Plain words on the encoding of a number: its list of groups, as numbers. No program in sight. -/
namespace Go.Proofs.Ytegefemkmdlmaaa.P
/-- The groups of seven bits of a number, at most k + 1 of them. -/
def encL : Nat → Int → List Int
  | 0, n => [n]
  | k + 1, n => if n < 128 then [n] else (n % 128 + 128) :: encL k (n / 128)
theorem encL_ne (k : Nat) (n : Int) : encL k n ≠ [] := by
  cases k <;> simp only [encL]
  · simp
  · split <;> simp
theorem encL_length (k : Nat) : ∀ n, 1 ≤ (encL k n).length ∧ (encL k n).length ≤ k + 1 := by
  induction k with
  | zero => intro n; simp [encL]
  | succ k ih =>
    intro n
    simp only [encL]
    have := ih (n / 128)
    split
    · simp
    · rw [List.length_cons]; omega
theorem encL_small (k : Nat) (n : Int) (h : n < 128) : encL k n = [n] := by
  cases k <;> simp [encL, h]
theorem encL_big (k : Nat) (n : Int) (h : ¬ n < 128) : encL (k + 1) n = (n % 128 + 128) :: encL k (n / 128) := by
  simp [encL, h]
/-- What AppendNumber returns; outside the numbers of 64 bits, and past Go's longest string, nothing is told. -/
def wire_AppendNumber.f (a0 : ByteArray) (a1 : Int) : Option ByteArray :=
  if 0 ≤ a1 ∧ a1 < 18446744073709551616 ∧ a0.size + 10 ≤ 9223372036854775807 then some (a0 ++ strOfNums (encL 9 a1)) else none
/-- The ten cells, while the first of them are filled. -/
def cells10 (done : List Int) : Array Value := ((done ++ List.replicate (10 - done.length) 0).map (Value.int .u8)).toArray
theorem cells10_size (done : List Int) (h : done.length ≤ 10) : (cells10 done).size = 10 := by
  simp [cells10]; omega
theorem cells10_set (done : List Int) (h : done.length < 10) (v : Int) :
    (cells10 done).setIfInBounds done.length (.int .u8 v) = cells10 (done ++ [v]) := by
  unfold cells10
  have e : List.replicate (10 - done.length) (0 : Int) = 0 :: List.replicate (10 - (done ++ [v]).length) 0 := by
    rw [← List.replicate_succ]; congr 1; simp; omega
  rw [e]
  simp [List.setIfInBounds_toArray]
theorem cells10_get (done : List Int) (i : Nat) (h : i < done.length) : (cells10 done)[i]? = some (.int .u8 (done.getD i 0)) := by
  simp only [cells10, List.map_append, List.getElem?_toArray]
  rw [List.getElem?_append_left (by simpa using h)]
  simp [List.getElem?_eq_getElem h, List.getD_eq_getElem?_getD]
end Go.Proofs.Ytegefemkmdlmaaa.P
end
section
/- The contract of wire.AppendNumber: it returns the text and the groups of the number behind it. -/
namespace Go.Proofs.Ytegefemkmdlmaaa.P
open Go.RowKit Go.Proofs.YtegefemkmdlmaaaW.PrintWords Go.Proofs.YtegefemkmdlmaaaW.PrintLast Go.Proofs.YtegefemkmdlmaaaW.PrintMore
set_option linter.unusedVariables false
set_option linter.unusedSimpArgs false
theorem or_128 (cur : Int) (h : 0 ≤ cur) : bits BinOp.or IntKind.u8 (cur % 256) 128 = cur % 128 + 128 := by
  have key : ∀ x : Fin 256, bits BinOp.or IntKind.u8 (x.1 : Int) 128 = (x.1 : Int) % 128 + 128 := by decide +kernel
  have h1 : (cur % 256).toNat < 256 := by omega
  have := key ⟨(cur % 256).toNat, h1⟩
  simp only [] at this
  rw [show ((cur % 256).toNat : Int) = cur % 256 by omega] at this
  rw [this]
  omega
theorem cells10_at (done : List Int) (h : done.length ≤ 9) : ∃ v, (cells10 done)[done.length]? = some v := by
  have := cells10_size done (by omega)
  exact ⟨_, Array.getElem?_eq_getElem (by omega)⟩
theorem slice97 (g n : Nat) (h : n ≤ 9) (W : World) : (Instr.sliceAt 97 (.pointer (some ⟨g, 0, none⟩)) none (some (.int .i64 ((n : Int) + 1))) none).run Try.prog W = .ok (.slice (some ⟨g, 0, none⟩) (n + 1) 10) W := by
  have hal : Try.prog.arrayLen 97 = 10 := by kernel_rfl
  have hel : Try.prog.elem 97 = 5 := by kernel_rfl
  have hz : ∀ W : World, (Go.sizeOf 5).run Try.prog W = .ok 1 W := fun _ => by kernel_rfl
  rw [run_sliceAt_array_h W 97 _ (by rw [hal, hel]; exact Try.underlying97) .i64 _ (by omega) (by rw [hal]; omega), hel, hz, hal]
  simp only [Result.andThen, slicedAt]
  rw [show ((n : Int) + 1).toNat - 0 = n + 1 by omega]
  simp
  rfl
theorem pow_step (i : Nat) (cur : Int) (j : Nat) (h0 : 0 ≤ cur) (hj : j = i + 1) (h : (128 : Int) ^ i * cur < 18446744073709551616) : (128 : Int) ^ j * (cur / 128) < 18446744073709551616 := by
  subst hj
  have hp : 0 ≤ (128 : Int) ^ i := Int.le_of_lt (Int.pow_pos (by decide))
  have h1 : 128 * (cur / 128) ≤ cur := by omega
  have h2 := Int.mul_le_mul_of_nonneg_left h1 hp
  rw [Int.pow_succ, Int.mul_assoc]
  omega
theorem pow_lt (i : Nat) (cur : Int) (hi : i ≤ 9) (hlt : 128 ≤ cur) (h : (128 : Int) ^ i * cur < 18446744073709551616) : i < 9 := by
  rcases Nat.lt_or_ge i 9 with h9 | h9
  · exact h9
  · obtain rfl : i = 9 := by omega
    rw [show (128 : Int) ^ 9 = 9223372036854775808 by decide] at h
    omega
/-- What a round of AppendNumber keeps. -/
def AppInv (w : World) (a1 : Int) (n k : Value) (wr : World) : Prop :=
  ∃ (done : List Int) (cur : Int), done.length ≤ 9 ∧ 0 ≤ cur ∧ cur < 18446744073709551616 ∧ (128 : Int) ^ done.length * cur < 18446744073709551616 ∧ n = .int .u64 cur ∧ k = .int .i64 (done.length : Nat) ∧ wr = w.alloc (.cells (cells10 done) 97) ∧ done ++ encL (9 - done.length) cur = encL 9 a1
set_option maxRecDepth 100000 in
set_option maxHeartbeats 2000000 in
theorem wire_AppendNumber.calls (a0 : ByteArray) (a1 : Int) (r : ByteArray) (w : World) (h : wire_AppendNumber.f a0 a1 = some r) :
    Calls Try.prog 26 #[.string a0, .int .u64 a1] w fun e w' => e = .returned (.string r) ∧ Below w.heap.size w w' := by
  unfold wire_AppendNumber.f at h
  split at h
  case isFalse => simp at h
  rename_i hg
  obtain ⟨h0, h1, h2⟩ := hg
  obtain rfl := Option.some.inj h
  clear h
  go_enter Try.func26, Try.ntmps26
  go_wp2
  go_loopw [1, 6] (fun n k wr => AppInv w a1 n k wr) (fun n _ _ => (intOf n).toNat)
  case atStart => exact ⟨[], a1, by simp, h0, h1, by simpa using h1, rfl, rfl, by rfl, rfl⟩
  case round =>
    obtain ⟨done, cur, hd, hc0, hc1, hc2, rfl, rfl, rfl, he⟩ := hrel
    have HE := Lib.hid he
    clear he
    obtain ⟨v, hv⟩ := cells10_at done hd
    have hsz := cells10_size done (by omega)
    by_cases hlt : 128 ≤ cur
    · have hd9 : done.length < 9 := by
        exact pow_lt done.length cur hd hlt hc2
      go_wp2
      refine ⟨⟨done ++ [cur % 128 + 128], cur / 128, ?_, ?_, ?_, ?_, rfl, ?_, ?_, ?_⟩, ?_⟩
      · simp; omega
      · omega
      · omega
      · exact pow_step done.length cur _ hc0 (by simp) hc2
      · simp
      · rw [or_128 cur hc0, cells10_set done (by omega)]
      · rw [← HE.out]
        rw [show 9 - done.length = (9 - (done ++ [cur % 128 + 128]).length) + 1 by simp; omega, encL_big _ _ (by omega)]
        simp
      · simp [intOf]; omega
    · have c7 : a0.size + (strOfNums (done ++ [cur])).size ≤ 9223372036854775807 := by rw [strOfNums_size]; simp; omega
      have c7b0 := eq_true c7
      have c7b1 : decide (a0.size + (strOfNums (done ++ [cur])).size ≤ 9223372036854775807) = true := decide_eq_true c7
      have c7b2 : (9223372036854775807 < a0.size + (strOfNums (done ++ [cur])).size) = False := eq_false (Nat.not_lt.2 c7)
      clear c7
      have hsl := slice97 w.heap.size done.length hd
      have hset := cells10_set done (by omega) cur
      have hbs : (convert 99 9 (.slice (some ⟨w.heap.size, 0, none⟩) (done.length + 1) 10)).run Try.prog (w.alloc (.cells (cells10 (done ++ [cur])) 97)) = .ok (.string (strOfNums (done ++ [cur]))) (w.alloc (.cells (cells10 (done ++ [cur])) 97)) := by
        refine run_convert_bytes_arg _ 99 5 Try.underlying99 Try.underlying5 w.heap.size 0 (done.length + 1) 10 (done ++ [cur]) (by simp) ?_ 9 Try.underlying9
        intro i hi
        rw [World.cell?_alloc_at _ _ _ _ rfl, Nat.zero_add]
        exact cells10_get _ _ (by simpa using hi)
      go_wp2
      go_ret
      have he := HE.out
      rw [encL_small _ _ (by omega)] at he
      refine ⟨?_, (Below.refl _ _).alloc (Nat.le_refl _) _⟩
      simp only [Array.getD_eq_getD_getElem?]
      rw [← he]
      rfl
end Go.Proofs.Ytegefemkmdlmaaa.P
end
section
-- Printed by a program of this session (hand.py) out of the translation. Lean checks it.
namespace Go.Proofs.Ytegefemkmdlmaaa.P
open Go.RowKit Go.Proofs.YtegefemkmdlmaaaW.PrintWords Go.Proofs.YtegefemkmdlmaaaW.PrintLast Go.Proofs.YtegefemkmdlmaaaW.PrintMore
attribute [local go_sem] max2_int min2_int max_two min_two max_three min_three max_four min_four   -- for this text's walks alone
set_option linter.unusedVariables false
set_option linter.unusedSimpArgs false

/-! ### wire_AppendText: function 32 -/
def wire_AppendText.f (a0 : ByteArray) (a1 : ByteArray) : Option (ByteArray) := (wire_AppendNumber.f a0 (IntKind.u64.wrap ((a1.size : Int)))).bind fun t131 => (if t131.size + a1.size ≤ 9223372036854775807 then (some (t131 ++ a1)) else (none))
set_option maxHeartbeats 8000000 in
set_option maxRecDepth 100000 in
theorem wire_AppendText.calls (a0 : ByteArray) (a1 : ByteArray) (r : ByteArray) (w : World) (h : wire_AppendText.f a0 a1 = some r) :
    Calls Try.prog 32 #[.string a0, .string a1] w fun e w' => e = .returned (.string r) ∧ Below w.heap.size w w' := by
  have HB := Aside0.mk (Below.refl w.heap.size w)
  have H : ((wire_AppendNumber.f a0 (IntKind.u64.wrap ((a1.size : Int)))).bind fun t131 => (if t131.size + a1.size ≤ 9223372036854775807 then (some (t131 ++ a1)) else (none))) = some r := h
  clear h
  replace H := Option.bind_eq_some_iff.mp H
  obtain ⟨t131, A30, H⟩ := H
  replace H : (if t131.size + a1.size ≤ 9223372036854775807 then (some (t131 ++ a1)) else (none)) = some r := H
  have A3 := Aside0.mk A30
  clear A30
  by_cases c4 : t131.size + a1.size ≤ 9223372036854775807
  · rw [if_pos c4] at H
    have c4b0 := eq_true c4
    have c4b1 : decide (t131.size + a1.size ≤ 9223372036854775807) = true := decide_eq_true c4
    try have c4b2 : (9223372036854775807 < t131.size + a1.size) = False := eq_false (Nat.not_lt.2 c4)
    obtain rfl := Option.some.inj H
    have A3_ := Aside0.mk (by have z_ := A3.out; rwa [show IntKind.u64.wrap (a1.size : Int) = a1.size from by simp [IntKind.wrap, IntKind.bits, IntKind.signed]; omega] at z_)
    go_enter Try.func32, Try.ntmps32
    go_wp2_with (first | ((with_reducible refine gate_callee (f := 26) rfl ?_); refine goesL_ (some 9) rfl rfl Try.func26 (by kernel_rfl) rfl #[.string a0, .int .u64 ((a1.size : Int))] rfl (by (try simp only [List.map_toArray, List.map_cons, List.map_nil]); first | done | rfl | (simp only [List.length_drop, List.length_take]; rfl)) ?_; (with_reducible refine (wire_AppendNumber.calls a0 ((a1.size : Int)) t131 _ A3_.out).mono ?_); rintro e w5 ⟨rfl, hb⟩; refine ⟨_, rfl, ?_⟩; have n0_ := Aside0.mk (below_step (by repeat (first | (with_reducible first | exact HB.out | apply below_alloc | apply pw_below_drewN | apply below_drew1) | exact HB.out)) hb); clear HB; have HB := n0_; clear n0_; (try clear hb); (try clear hb2); (try clear hk); (try clear hi)))
    go_ret
    exact ⟨by first | rfl | (simp [errW_none, errW_some] <;> rfl) | (simp [*, errW_none, errW_some] <;> rfl), by repeat (first | (with_reducible first | exact HB.out | apply below_alloc | apply pw_below_drewN | apply below_drew1) | exact HB.out)⟩
  · rw [if_neg c4] at H
    exact absurd H (by simp)

end Go.Proofs.Ytegefemkmdlmaaa.P
end
section
/- Plain words on reading a number, a truth value: what the bytes at the front tell. No program in sight. -/
namespace Go.Proofs.Ytegefemkmdlmaaa.P
/-- The bytes of a text as numbers. -/
def numsB (s : ByteArray) : List Int := s.data.toList.map fun x => (x.toNat : Int)
/-- The number at the front of bytes and how many bytes it has (0: none), from byte i on, with what was read before. -/
def decGo (i : Nat) (n : Int) : List Int → Int × Int
  | [] => (0, 0)
  | b :: r => if 10 ≤ i then (0, 0) else if i = 9 ∧ b > 1 then (0, 0) else if b < 128 then (if b = 0 ∧ 0 < i then (0, 0) else (n + b % 128 * 2 ^ (7 * i), (i : Int) + 1)) else decGo (i + 1) (n + b % 128 * 2 ^ (7 * i)) r
def decB (s : ByteArray) : Int × Int := decGo 0 0 (numsB s)
/-- A reader's state behind Number, with what it returns. -/
def wire_Reader_Number.f (s0_0 : ByteArray) (s0_1 : Int) : Option (Int × ByteArray × Int) :=
  if s0_1 = 0 then (if (decB s0_0).2 = 0 then some ((decB s0_0).1, ⟨#[]⟩, 11) else some ((decB s0_0).1, s0_0.extract (decB s0_0).2.toNat s0_0.size, 0)) else some (0, s0_0, s0_1)
/-- A reader's state behind Bool, with what it returns. -/
def wire_Reader_Bool.f (s0_0 : ByteArray) (s0_1 : Int) : Option (Bool × ByteArray × Int) :=
  if s0_1 = 0 then (match numsB s0_0 with
    | [] => some (false, ⟨#[]⟩, 11)
    | b :: _ => if b > 1 then some (false, ⟨#[]⟩, 11) else some (decide (b = 1), s0_0.extract 1 s0_0.size, 0)) else some (false, s0_0, s0_1)
/-- A reader's state behind End, with what it returns. -/
def wire_Reader_End.f (s0_0 : ByteArray) (s0_1 : Int) : Option (Int × ByteArray × Int) :=
  some (if s0_1 = 0 ∧ s0_0.size ≠ 0 then 11 else s0_1, s0_0, s0_1)
end Go.Proofs.Ytegefemkmdlmaaa.P
end
section
-- Printed by a program of this session (hand.py) out of the translation. Lean checks it.
namespace Go.Proofs.Ytegefemkmdlmaaa.P
open Go.RowKit Go.Proofs.YtegefemkmdlmaaaW.PrintWords Go.Proofs.YtegefemkmdlmaaaW.PrintLast Go.Proofs.YtegefemkmdlmaaaW.PrintMore
attribute [local go_sem] max2_int min2_int max_two min_two max_three min_three max_four min_four   -- for this text's walks alone
set_option linter.unusedVariables false
set_option linter.unusedSimpArgs false

/-! ### wire_decode: function 110 -/
mutual
def wire_decode.l0 : Nat → ByteArray → Int → Int → Option (Int × Int)
  | 0, _, _, _ => none
  | k + 1, x0, x4, x5 => if x5 < (x0.size : Int) then (wire_decode.j1 k x0 x4 x5 (decide (x5 < 10))) else (wire_decode.j1 k x0 x4 x5 false)
def wire_decode.j1 : Nat → ByteArray → Int → Int → Bool → Option (Int × Int)
  | 0, _, _, _, _ => none
  | k + 1, x0, x4, x5, x14 => if x14 = true then (if 0 ≤ x5 then (if x5 < (x0.size : Int) then (if x5 = 9 then (wire_decode.j2 k x0 x4 x5 (bt x0 x5) (decide ((bt x0 x5) > 1))) else (wire_decode.j2 k x0 x4 x5 (bt x0 x5) false)) else (none)) else (none)) else (some (0, 0))
def wire_decode.j2 : Nat → ByteArray → Int → Int → Int → Bool → Option (Int × Int)
  | 0, _, _, _, _, _ => none
  | k + 1, x0, x4, x5, x6, x25 => if x25 = true then (some (0, 0)) else (if 0 ≤ (wrap64 (7 * x5)) then (if x6 < 128 then (if x6 = 0 then (if x5 > 0 then (some (0, 0)) else (some (Go.bits .or .u64 x4 (shl .u64 (IntKind.u64.wrap (Go.bits .and .u8 x6 127)) (wrap64 (7 * x5))), wrap64 (x5 + 1)))) else (some (Go.bits .or .u64 x4 (shl .u64 (IntKind.u64.wrap (Go.bits .and .u8 x6 127)) (wrap64 (7 * x5))), wrap64 (x5 + 1)))) else (wire_decode.l0 k x0 (Go.bits .or .u64 x4 (shl .u64 (IntKind.u64.wrap (Go.bits .and .u8 x6 127)) (wrap64 (7 * x5)))) (wrap64 (x5 + 1)))) else (none))
end
def wire_decode.f (k : Nat) (a0 : ByteArray) : Option (Int × Int) := wire_decode.l0 k a0 0 0
theorem wire_decode.mono_l : ∀ k, (∀ y0 y1 y2, LeO (wire_decode.l0 k y0 y1 y2) (wire_decode.l0 (k + 1) y0 y1 y2)) ∧ (∀ y0 y1 y2 y3, LeO (wire_decode.j1 k y0 y1 y2 y3) (wire_decode.j1 (k + 1) y0 y1 y2 y3)) ∧ (∀ y0 y1 y2 y3 y4, LeO (wire_decode.j2 k y0 y1 y2 y3 y4) (wire_decode.j2 (k + 1) y0 y1 y2 y3 y4))
  | 0 => ⟨fun _ _ _ r h => by simp [wire_decode.l0] at h, fun _ _ _ _ r h => by simp [wire_decode.j1] at h, fun _ _ _ _ _ r h => by simp [wire_decode.j2] at h⟩
  | k + 1 => by
    obtain ⟨ih0, ih1, ih2⟩ := wire_decode.mono_l k
    refine ⟨?_, ?_, ?_⟩
    · intro y0 y1 y2
      unfold wire_decode.l0
      repeat' first
      | (with_reducible exact ih0 _ _ _)
      | (with_reducible exact ih1 _ _ _ _)
      | (with_reducible exact ih2 _ _ _ _ _)
      | (with_reducible exact LeO.refl _)
      | (with_reducible exact LeO.none _)
      | (with_reducible refine LeO.ite ?_ ?_)
      | (with_reducible refine LeO.bind ?_ (fun _ => ?_))
      | exact ih0 _ _ _
      | exact ih1 _ _ _ _
      | exact ih2 _ _ _ _ _
      | exact LeO.none _
      | refine LeO.ite ?_ ?_
      | refine LeO.bind ?_ (fun _ => ?_)
    · intro y0 y1 y2 y3
      unfold wire_decode.j1
      repeat' first
      | (with_reducible exact ih0 _ _ _)
      | (with_reducible exact ih1 _ _ _ _)
      | (with_reducible exact ih2 _ _ _ _ _)
      | (with_reducible exact LeO.refl _)
      | (with_reducible exact LeO.none _)
      | (with_reducible refine LeO.ite ?_ ?_)
      | (with_reducible refine LeO.bind ?_ (fun _ => ?_))
      | exact ih0 _ _ _
      | exact ih1 _ _ _ _
      | exact ih2 _ _ _ _ _
      | exact LeO.none _
      | refine LeO.ite ?_ ?_
      | refine LeO.bind ?_ (fun _ => ?_)
    · intro y0 y1 y2 y3 y4
      unfold wire_decode.j2
      repeat' first
      | (with_reducible exact ih0 _ _ _)
      | (with_reducible exact ih1 _ _ _ _)
      | (with_reducible exact ih2 _ _ _ _ _)
      | (with_reducible exact LeO.refl _)
      | (with_reducible exact LeO.none _)
      | (with_reducible refine LeO.ite ?_ ?_)
      | (with_reducible refine LeO.bind ?_ (fun _ => ?_))
      | exact ih0 _ _ _
      | exact ih1 _ _ _ _
      | exact ih2 _ _ _ _ _
      | exact LeO.none _
      | refine LeO.ite ?_ ?_
      | refine LeO.bind ?_ (fun _ => ?_)
theorem wire_decode.mono : ∀ a0 k, LeO (wire_decode.f k a0) (wire_decode.f (k + 1) a0) := by
  intro a0 k
  obtain ⟨ih0, ih1, ih2⟩ := wire_decode.mono_l k
  unfold wire_decode.f
  repeat' first
      | (with_reducible exact ih0 _ _ _)
      | (with_reducible exact ih1 _ _ _ _)
      | (with_reducible exact ih2 _ _ _ _ _)
      | (with_reducible exact LeO.refl _)
      | (with_reducible exact LeO.none _)
      | (with_reducible refine LeO.ite ?_ ?_)
      | (with_reducible refine LeO.bind ?_ (fun _ => ?_))
      | exact ih0 _ _ _
      | exact ih1 _ _ _ _
      | exact ih2 _ _ _ _ _
      | exact LeO.none _
      | refine LeO.ite ?_ ?_
      | refine LeO.bind ?_ (fun _ => ?_)
set_option maxHeartbeats 8000000 in
set_option maxRecDepth 100000 in
theorem wire_decode.calls (k : Nat) (a0 : ByteArray) (r1 : Int) (r2 : Int) (w : World) (h : wire_decode.f k a0 = some (r1, r2)) :
    Calls Try.prog 110 #[.string a0] w fun e w' => e = .returned (.tuple #[.int .u64 r1, .int .i64 r2]) ∧ Drawn0 w w' := by
  have H : (wire_decode.l0 k a0 0 0) = some (r1, r2) := h
  clear h
  have H' := Aside0.mk H
  clear H
  go_enter Try.func110, Try.ntmps110
  go_wp2
  go_loopg [4, 5] k (fun kq v4 v5 w' => ∃ (x4_1 : Int) (x5_1 : Int), v4 = .int .u64 x4_1 ∧ v5 = .int .i64 x5_1 ∧ Aside0 (wire_decode.l0 kq a0 x4_1 x5_1 = some (r1, r2)) ∧ Aside0 (kq ≤ k) ∧ Drawn0 w w')
  case atStart => exact ⟨(0), (0), (by first | rfl | (simp; done) | (simp [*]; done)), (by first | rfl | (simp; done) | (simp [*]; done)), H', ⟨Nat.le_refl _⟩, by repeat (first | exact Drawn0.refl _ | apply Drawn0.step)⟩
  case round =>
    clear H'
    try clear c1
    obtain ⟨x4_1, x5_1, rfl, rfl, HA, HK1, ⟨m1, rfl⟩⟩ := hrel
    cases gk with
    | zero => exact absurd HA.out (by simp [wire_decode.l0])
    | succ k1 =>
      have H := HA.out
      clear HA
      simp only [wire_decode.l0] at H
      have HC2 := Aside0.mk H
      clear H
      go_upto_region 3 with (fail)
      go_cut [14] (fun v14 wc => ∃ (kq : Nat) (x14_1 : Bool), v14 = .bool x14_1 ∧ Aside0 (wire_decode.j1 kq a0 x4_1 x5_1 x14_1 = some (r1, r2)) ∧ Aside0 (kq ≤ k1) ∧ Drawn0 w wc)
      case first =>
        have H := HC2.out
        clear HC2
        by_cases c3 : x5_1 < (a0.size : Int)
        · rw [if_pos c3] at H
          have c3b0 : decide (x5_1 < (a0.size : Int)) = true := decide_eq_true c3
          clear c3
          (first | rw [c3b0] | (simp only [i64_w, i32_w]; rw [c3b0]) | skip)
          have H' := Aside0.mk H
          clear H
          go_wp2
          go_meet
          case rel => exact ⟨_, (decide (x5_1 < 10)), (by first | rfl | (simp; done) | (simp [*]; done)), H', ⟨by have := HK1.out; first | omega | exact Nat.le_refl _⟩, by repeat (first | exact Drawn0.refl _ | apply Drawn0.step)⟩
        · rw [if_neg c3] at H
          have c3b0 : decide (x5_1 < (a0.size : Int)) = false := decide_eq_false c3
          clear c3
          (first | rw [c3b0] | (simp only [i64_w, i32_w]; rw [c3b0]) | skip)
          have H' := Aside0.mk H
          clear H
          go_wp2
          go_meet
          case rel => exact ⟨_, (false), (by first | rfl | (simp; done) | (simp [*]; done)), H', ⟨by have := HK1.out; first | omega | exact Nat.le_refl _⟩, by repeat (first | exact Drawn0.refl _ | apply Drawn0.step)⟩
      case rest =>
        clear HC2
        try clear c1
        try clear p2
        try clear c3
        try clear c3b0
        obtain ⟨kq, x14_1, rfl, HA, HJ1, ⟨mc1, rfl⟩⟩ := hcut
        cases kq with
        | zero => exact absurd HA.out (by simp [wire_decode.j1])
        | succ kj1 =>
          have H := HA.out
          clear HA
          simp only [wire_decode.j1] at H
          by_cases c4 : x14_1 = true
          · subst c4
            have H1 : (if 0 ≤ x5_1 then (if x5_1 < (a0.size : Int) then (if x5_1 = 9 then (wire_decode.j2 kj1 a0 x4_1 x5_1 (bt a0 x5_1) (decide ((bt a0 x5_1) > 1))) else (wire_decode.j2 kj1 a0 x4_1 x5_1 (bt a0 x5_1) false)) else (none)) else (none)) = some (r1, r2) := by rw [if_pos rfl] at H; exact H
            clear H
            have H := H1
            clear H1
            by_cases c5 : 0 ≤ x5_1
            · rw [if_pos c5] at H
              have c5b0 : decide (0 ≤ x5_1) = true := decide_eq_true c5
              clear c5
              by_cases c6 : x5_1 < (a0.size : Int)
              · rw [if_pos c6] at H
                have c6b0 : decide (x5_1 < (a0.size : Int)) = true := decide_eq_true c6
                clear c6
                have HC8 := Aside0.mk H
                clear H
                have p7 : 0 ≤ (x5_1 : Int) := of_decide_eq_true (by first | (with_reducible assumption) | assumption)
                have q7 : x5_1 < (a0.size : Int) := of_decide_eq_true (by first | (with_reducible assumption) | assumption)
                have hx7 := bt_at a0 x5_1
                replace p7 := eq_true p7
                replace q7 := eq_true q7
                go_upto_region 6 with (fail)
                go_cut [25] (fun v25 wc => ∃ (kq : Nat) (x25_7 : Bool), v25 = .bool x25_7 ∧ Aside0 (wire_decode.j2 kq a0 x4_1 x5_1 (bt a0 x5_1) x25_7 = some (r1, r2)) ∧ Aside0 (kq ≤ kj1) ∧ Drawn0 w wc)
                case first =>
                  have H := HC8.out
                  clear HC8
                  by_cases c9 : x5_1 = 9
                  · rw [if_pos c9] at H
                    have c9b0 : (x5_1 == 9) = true := beq_iff_eq.mpr c9
                    have c9b1 : (x5_1 != 9) = false := bne_eq_false_iff_eq.mpr c9
                    clear c9
                    (first | rw [c9b0] | (simp only [i64_w, i32_w]; rw [c9b0]) | skip)
                    have H' := Aside0.mk H
                    clear H
                    go_wp2
                    go_meet
                    case rel => exact ⟨_, (decide ((bt a0 x5_1) > 1)), (by first | rfl | (simp; done) | (simp [*]; done)), H', ⟨by have := HK1.out; have := HJ1.out; first | omega | exact Nat.le_refl _⟩, by repeat (first | exact Drawn0.refl _ | apply Drawn0.step)⟩
                  · rw [if_neg c9] at H
                    have c9b0 : (x5_1 == 9) = false := beq_eq_false_iff_ne.mpr c9
                    have c9b1 : (x5_1 != 9) = true := bne_iff_ne.mpr c9
                    (first | rw [c9b0] | (simp only [i64_w, i32_w]; rw [c9b0]) | skip)
                    have H' := Aside0.mk H
                    clear H
                    go_wp2
                    go_meet
                    case rel => exact ⟨_, (false), (by first | rfl | (simp; done) | (simp [*]; done)), H', ⟨by have := HK1.out; have := HJ1.out; first | omega | exact Nat.le_refl _⟩, by repeat (first | exact Drawn0.refl _ | apply Drawn0.step)⟩
                case rest =>
                  clear HC8
                  try clear c1
                  try clear p2
                  try clear c3
                  try clear c3b0
                  try clear c4
                  try clear c5
                  try clear c5b0
                  try clear c6
                  try clear c6b0
                  try clear p7
                  try clear q7
                  try clear hx7
                  try clear c9
                  try clear c9b0
                  try clear c9b1
                  try clear p2
                  try clear p7
                  try clear q7
                  obtain ⟨kq, x25_7, rfl, HA, HJ7, ⟨mc7, rfl⟩⟩ := hcut
                  cases kq with
                  | zero => exact absurd HA.out (by simp [wire_decode.j2])
                  | succ kj7 =>
                    have H := HA.out
                    clear HA
                    simp only [wire_decode.j2] at H
                    by_cases c10 : x25_7 = true
                    · subst c10
                      have H1 : (some (0, 0)) = some (r1, r2) := by rw [if_pos rfl] at H; exact H
                      clear H
                      have H := H1
                      clear H1
                      simp only [Option.some.injEq, Prod.mk.injEq] at H
                      obtain ⟨rfl, rfl⟩ := H
                      go_wp2
                      go_ret2
                      exact ⟨by first | rfl | (simp; done) | (simp [*]; done), by repeat (first | exact Drawn0.refl _ | apply Drawn0.step)⟩
                    · replace c10 := Bool.eq_false_iff.mpr c10
                      subst c10
                      have H1 : (if 0 ≤ (wrap64 (7 * x5_1)) then (if (bt a0 x5_1) < 128 then (if (bt a0 x5_1) = 0 then (if x5_1 > 0 then (some (0, 0)) else (some (Go.bits .or .u64 x4_1 (shl .u64 (IntKind.u64.wrap (Go.bits .and .u8 (bt a0 x5_1) 127)) (wrap64 (7 * x5_1))), wrap64 (x5_1 + 1)))) else (some (Go.bits .or .u64 x4_1 (shl .u64 (IntKind.u64.wrap (Go.bits .and .u8 (bt a0 x5_1) 127)) (wrap64 (7 * x5_1))), wrap64 (x5_1 + 1)))) else (wire_decode.l0 kj7 a0 (Go.bits .or .u64 x4_1 (shl .u64 (IntKind.u64.wrap (Go.bits .and .u8 (bt a0 x5_1) 127)) (wrap64 (7 * x5_1)))) (wrap64 (x5_1 + 1)))) else (none)) = some (r1, r2) := by rw [if_neg (show ¬ (false = true) by decide)] at H; exact H
                      clear H
                      have H := H1
                      clear H1
                      obtain ⟨ji11, hji11⟩ : ∃ j_ : Int, (wrap64 (7 * x5_1)) = j_ := ⟨_, rfl⟩
                      replace H : (if 0 ≤ (ji11) then (if (bt a0 x5_1) < 128 then (if (bt a0 x5_1) = 0 then (if x5_1 > 0 then (some (0, 0)) else (some (Go.bits .or .u64 x4_1 (shl .u64 (IntKind.u64.wrap (Go.bits .and .u8 (bt a0 x5_1) 127)) (ji11)), wrap64 (x5_1 + 1)))) else (some (Go.bits .or .u64 x4_1 (shl .u64 (IntKind.u64.wrap (Go.bits .and .u8 (bt a0 x5_1) 127)) (ji11)), wrap64 (x5_1 + 1)))) else (wire_decode.l0 kj7 a0 (Go.bits .or .u64 x4_1 (shl .u64 (IntKind.u64.wrap (Go.bits .and .u8 (bt a0 x5_1) 127)) (ji11))) (wrap64 (x5_1 + 1)))) else (none)) = some (r1, r2) := by first | (rw [hji11] at H; exact H) | (simp only [hji11] at H ⊢; exact H)
                      have hji11w : (IntKind.i64.wrap (7 * x5_1)) = ji11 := (i64_w _).trans hji11
                      by_cases c12 : 0 ≤ (ji11)
                      · rw [if_pos c12] at H
                        have c12b0 := eq_true c12
                        have c12b1 : decide (0 ≤ (ji11)) = true := decide_eq_true c12
                        clear c12
                        obtain ⟨ji13, hji13⟩ : ∃ j_ : Int, (shl .u64 (IntKind.u64.wrap (Go.bits .and .u8 (bt a0 x5_1) 127)) (ji11)) = j_ := ⟨_, rfl⟩
                        replace H : (if (bt a0 x5_1) < 128 then (if (bt a0 x5_1) = 0 then (if x5_1 > 0 then (some (0, 0)) else (some (Go.bits .or .u64 x4_1 (ji13), wrap64 (x5_1 + 1)))) else (some (Go.bits .or .u64 x4_1 (ji13), wrap64 (x5_1 + 1)))) else (wire_decode.l0 kj7 a0 (Go.bits .or .u64 x4_1 (ji13)) (wrap64 (x5_1 + 1)))) = some (r1, r2) := by first | (rw [hji13] at H; exact H) | (simp only [hji13] at H ⊢; exact H)
                        have hji13_ : (IntKind.u64.wrap ((IntKind.u64.wrap (Go.bits .and .u8 (bt a0 x5_1) 127)) * 2 ^ min (ji11).toNat 64)) = ji13 := hji13
                        have hji13z : (ji11) ≤ 64 → (IntKind.u64.wrap ((IntKind.u64.wrap (Go.bits .and .u8 (bt a0 x5_1) 127)) * 2 ^ (ji11).toNat)) = ji13 := shl_small hji13
                        by_cases c14 : (bt a0 x5_1) < 128
                        · rw [if_pos c14] at H
                          have c14b0 : decide ((bt a0 x5_1) < 128) = true := decide_eq_true c14
                          clear c14
                          by_cases c15 : (bt a0 x5_1) = 0
                          · rw [if_pos c15] at H
                            have c15b0 : ((bt a0 x5_1) == 0) = true := beq_iff_eq.mpr c15
                            have c15b1 : ((bt a0 x5_1) != 0) = false := bne_eq_false_iff_eq.mpr c15
                            clear c15
                            by_cases c16 : x5_1 > 0
                            · rw [if_pos c16] at H
                              have c16b0 : decide (0 < x5_1) = true := decide_eq_true c16
                              clear c16
                              simp only [Option.some.injEq, Prod.mk.injEq] at H
                              obtain ⟨rfl, rfl⟩ := H
                              go_wp2
                              go_ret2
                              exact ⟨by first | rfl | (simp; done) | (simp only [← hji11, ← hji13] <;> (first | rfl | simp)) | (simp [*]; done), by repeat (first | exact Drawn0.refl _ | apply Drawn0.step)⟩
                            · rw [if_neg c16] at H
                              have c16b0 : decide (0 < x5_1) = false := decide_eq_false c16
                              clear c16
                              simp only [Option.some.injEq, Prod.mk.injEq] at H
                              obtain ⟨rfl, rfl⟩ := H
                              go_wp2
                              go_ret2
                              exact ⟨by first | rfl | (simp; done) | (simp only [← hji11, ← hji13] <;> (first | rfl | simp)) | (simp [*]; done), by repeat (first | exact Drawn0.refl _ | apply Drawn0.step)⟩
                          · rw [if_neg c15] at H
                            have c15b0 : ((bt a0 x5_1) == 0) = false := beq_eq_false_iff_ne.mpr c15
                            have c15b1 : ((bt a0 x5_1) != 0) = true := bne_iff_ne.mpr c15
                            simp only [Option.some.injEq, Prod.mk.injEq] at H
                            obtain ⟨rfl, rfl⟩ := H
                            go_wp2
                            go_ret2
                            exact ⟨by first | rfl | (simp; done) | (simp only [← hji11, ← hji13] <;> (first | rfl | simp)) | (simp [*]; done), by repeat (first | exact Drawn0.refl _ | apply Drawn0.step)⟩
                        · rw [if_neg c14] at H
                          have c14b0 : decide ((bt a0 x5_1) < 128) = false := decide_eq_false c14
                          clear c14
                          have H' := Aside0.mk H
                          clear H
                          go_wp2
                          go_roundg kj7
                          case measure => have := HK1.out; have := HJ1.out; have := HJ7.out; omega
                          case rel => exact ⟨(Go.bits .or .u64 x4_1 (ji13)), (wrap64 (x5_1 + 1)), (by first | rfl | (simp; done) | (simp only [← hji13] <;> (first | rfl | simp)) | (simp [*]; done)), (by first | rfl | (simp; done) | (simp [*]; done)), H', ⟨by have := HK1.out; have := HJ1.out; have := HJ7.out; omega⟩, by repeat (first | exact Drawn0.refl _ | apply Drawn0.step)⟩
                      · rw [if_neg c12] at H
                        exact absurd H (by simp)
              · rw [if_neg c6] at H
                exact absurd H (by simp)
            · rw [if_neg c5] at H
              exact absurd H (by simp)
          · replace c4 := Bool.eq_false_iff.mpr c4
            subst c4
            have H1 : (some (0, 0)) = some (r1, r2) := by rw [if_neg (show ¬ (false = true) by decide)] at H; exact H
            clear H
            have H := H1
            clear H1
            simp only [Option.some.injEq, Prod.mk.injEq] at H
            obtain ⟨rfl, rfl⟩ := H
            go_wp2
            go_ret2
            exact ⟨by first | rfl | (simp; done) | (simp [*]; done), by repeat (first | exact Drawn0.refl _ | apply Drawn0.step)⟩

end Go.Proofs.Ytegefemkmdlmaaa.P
end
section
/- The printed decode of wire answers what the plain words on reading a number say. -/
namespace Go.Proofs.Ytegefemkmdlmaaa.P
open Go.RowKit Go.Proofs.YtegefemkmdlmaaaW.PrintWords Go.Proofs.YtegefemkmdlmaaaW.PrintLast Go.Proofs.YtegefemkmdlmaaaW.PrintMore
theorem numsB_length (s : ByteArray) : (numsB s).length = s.size := by
  unfold numsB
  rw [List.length_map]
  rfl
theorem numsB_drop (s : ByteArray) (i : Nat) (h : i < s.size) : (numsB s).drop i = bt s i :: (numsB s).drop (i + 1) := by
  have hl : i < (numsB s).length := by rw [numsB_length]; exact h
  rw [List.drop_eq_getElem_cons hl]
  congr 1
  have h2 := bt_at s (i : Int) (by simpa using h)
  rw [← h2]
  simp [numsB, ByteArray.getElem_eq_getElem_data]
theorem numsB_drop_nil (s : ByteArray) (i : Nat) (h : ¬ i < s.size) : (numsB s).drop i = [] := by
  rw [List.drop_eq_nil_iff, numsB_length]; omega
theorem bits_or_comm (k : IntKind) (x y : Int) : bits .or k x y = bits .or k y x := by
  simp only [bits, BitVec.or_comm]
theorem u64_wraps (n : Int) (h0 : 0 ≤ n) (h1 : n < 2 ^ 64) : IntKind.u64.wrap n = n := by
  simp [IntKind.wrap, IntKind.bits, IntKind.signed]
  omega
theorem u8_and127 (x : Int) (h0 : 0 ≤ x) (h1 : x < 256) : bits .and .u8 x 127 = x % 128 :=
  bits_mask .u8 8 (by decide) wraps_u8 7 (by decide) x h0 h1
theorem pow7 (i : Nat) (h : i < 9) : (2 : Int) ^ (7 * i) * 128 ≤ 2 ^ 63 := by
  rw [show (128 : Int) = 2 ^ 7 from rfl, ← Int.pow_add]
  exact_mod_cast Nat.pow_le_pow_right (by decide) (by omega)
theorem pow_pos2 (i : Nat) : (0 : Int) < 2 ^ i := Int.pow_pos (by decide)
theorem wrap7 (i : Nat) (h : i ≤ 9) : wrap64 (7 * (i : Int)) = 7 * i := by unfold wrap64; omega
theorem wrap1 (i : Nat) (h : i ≤ 9) : wrap64 ((i : Int) + 1) = ((i + 1 : Nat) : Int) := by unfold wrap64; omega
/-- One group more. -/
theorem group_eq (n b : Int) (i : Nat) (hi : i ≤ 9) (h0 : 0 ≤ n) (h1 : n < 2 ^ (7 * i)) (hb0 : 0 ≤ b) (hb : b < 256) (h9 : i = 9 → b ≤ 1) :
    Go.bits .or .u64 n (shl .u64 (IntKind.u64.wrap (Go.bits .and .u8 b 127)) (wrap64 (7 * (i : Int)))) = n + b % 128 * 2 ^ (7 * i) ∧ n + b % 128 * 2 ^ (7 * i) < 2 ^ (7 * (i + 1)) := by
  have hp := pow_pos2 (7 * i)
  have hv : 0 ≤ b % 128 ∧ b % 128 < 128 := by omega
  have hlt : n + b % 128 * 2 ^ (7 * i) < 2 ^ (7 * (i + 1)) := by
    rw [show 7 * (i + 1) = 7 * i + 7 by omega, Int.pow_add]
    have := Int.mul_le_mul_of_nonneg_right (show b % 128 ≤ 127 by omega) (Int.le_of_lt hp)
    omega
  refine ⟨?_, hlt⟩
  have hw := wrap7 i hi
  have hsz : b % 128 * 2 ^ (7 * i) < 2 ^ 64 := by
    rcases Nat.lt_or_ge i 9 with h | h
    · have := pow7 i h
      have := Int.mul_le_mul_of_nonneg_right (show b % 128 ≤ 127 by omega) (Int.le_of_lt hp)
      omega
    · obtain rfl : i = 9 := by omega
      have := h9 rfl
      have : b % 128 ≤ 1 := by omega
      have := Int.mul_le_mul_of_nonneg_right this (Int.le_of_lt hp)
      simp only [Nat.reduceMul] at this ⊢
      omega
  have hnn : 0 ≤ b % 128 * 2 ^ (7 * i) := Int.mul_nonneg hv.1 (Int.le_of_lt hp)
  rw [u8_and127 b hb0 hb, u64_wraps _ hv.1 (by omega), hw]
  have hs : shl .u64 (b % 128) (7 * (i : Int)) = b % 128 * 2 ^ (7 * i) := by
    unfold shl
    rw [show (7 * (i : Int)).toNat = 7 * i by omega, Nat.min_eq_left (show 7 * i ≤ IntKind.u64.bits by show 7 * i ≤ 64; omega)]
    exact u64_wraps _ hnn hsz
  rw [hs, bits_or_comm, bits_join .u64 64 (by decide) (fun n h0 h1 => u64_wraps n h0 h1) (7 * i) _ _ hnn (Int.mul_emod_left _ _) hsz h0 h1 ?_]
  · omega
  · have : (2 : Int) ^ (7 * i) ≤ 2 ^ 63 := by exact_mod_cast Nat.pow_le_pow_right (by decide) (by omega)
    omega
theorem decode_l0 (s : ByteArray) : ∀ (d i : Nat) (n : Int) (k : Nat), i + d = 10 → 3 * d + 3 ≤ k → 0 ≤ n → n < 2 ^ (7 * i) → wire_decode.l0 k s n i = some (decGo i n ((numsB s).drop i)) := by
  intro d
  induction d with
  | zero =>
    intro i n k hi hk h0 h1
    obtain ⟨k, rfl⟩ : ∃ m, k = m + 2 := ⟨k - 2, by omega⟩
    simp only [wire_decode.l0, wire_decode.j1]
    by_cases h : i < s.size
    · rw [if_pos (by omega), numsB_drop s i h]
      rw [if_neg (by simp; omega)]
      simp only [decGo]
      rw [if_pos (by omega)]
    · rw [if_neg (by omega), numsB_drop_nil s i h]
      rfl
  | succ d ih =>
    intro i n k hi hk h0 h1
    obtain ⟨k, rfl⟩ : ∃ m, k = m + 3 := ⟨k - 3, by omega⟩
    by_cases h : i < s.size
    · have hr := bt_range s i
      simp only [wire_decode.l0]
      rw [if_pos (by omega)]
      simp only [wire_decode.j1]
      rw [if_pos (by simp; omega), if_pos (by omega), if_pos (by omega), numsB_drop s i h]
      simp only [decGo]
      rw [if_neg (show ¬ 10 ≤ i by omega)]
      by_cases h9 : i = 9 ∧ bt s i > 1
      · rw [if_pos h9, if_pos (by omega)]
        simp only [wire_decode.j2]
        rw [if_pos (decide_eq_true h9.2)]
      · rw [if_neg h9]
        have hw := wrap1 i (by omega)
        have h7 : 0 ≤ wrap64 (7 * (i : Int)) := by rw [wrap7 i (by omega)]; omega
        have hnn : 0 ≤ n + bt s i % 128 * 2 ^ (7 * i) :=
          Int.add_nonneg h0 (Int.mul_nonneg (Int.emod_nonneg _ (by decide)) (Int.le_of_lt (pow_pos2 (7 * i))))
        have hb9 : i = 9 → bt s i ≤ 1 := fun e => Int.not_lt.1 fun h => h9 ⟨e, h⟩
        obtain ⟨hg, hlt⟩ := group_eq n (bt s i) i (by omega) h0 h1 hr.1 (by omega) hb9
        have main : ∀ b : Bool, b = false → wire_decode.j2 (k + 1) s n i (bt s i) b = some (if bt s i < 128 then (if bt s i = 0 ∧ 0 < i then (0, 0) else (n + bt s i % 128 * 2 ^ (7 * i), (i : Int) + 1)) else decGo (i + 1) (n + bt s i % 128 * 2 ^ (7 * i)) ((numsB s).drop (i + 1))) := by
          rintro b rfl
          simp only [wire_decode.j2]
          rw [if_neg (by simp), if_pos h7, hg, hw]
          by_cases h128 : bt s i < 128
          · rw [if_pos h128, if_pos h128]
            clear hlt h1 ih
            by_cases hz : bt s i = 0
            · rw [if_pos hz]
              by_cases hp : 0 < i
              · rw [if_pos (by omega), if_pos ⟨hz, hp⟩]
              · rw [if_neg (by omega), if_neg (fun h => hp h.2)]; rfl
            · rw [if_neg hz, if_neg (fun h => hz h.1)]; rfl
          · rw [if_neg h128, if_neg h128]
            exact ih (i + 1) _ k (by omega) (by omega) hnn hlt
        by_cases hi9 : (i : Int) = 9
        · rw [if_pos hi9]
          exact main _ (by simp; omega)
        · rw [if_neg hi9]
          exact main _ rfl
    · simp only [wire_decode.l0, wire_decode.j1]
      rw [if_neg (by omega), numsB_drop_nil s i h, if_neg (by simp)]
      rfl
theorem decode_eq (s : ByteArray) : wire_decode.f 33 s = some (decB s) := by
  have := decode_l0 s 10 0 0 33 rfl (by omega) (by omega) (by decide)
  simpa [wire_decode.f, decB] using this
/-- The bytes that a number has lie at the front. -/
theorem decGo_bound (l : List Int) : ∀ (i : Nat) (n : Int), (decGo i n l).2 = 0 ∨ ((i : Int) < (decGo i n l).2 ∧ (decGo i n l).2 ≤ i + l.length ∧ (decGo i n l).2 ≤ 10) := by
  induction l with
  | nil => intro i n; simp [decGo]
  | cons b r ih =>
    intro i n
    simp only [decGo]
    split
    · simp
    · split
      · simp
      · split
        · split
          · simp
          · right; simp; omega
        · have := ih (i + 1) (n + b % 128 * 2 ^ (7 * i))
          simp only [List.length_cons] at this ⊢
          omega
theorem decB_bound (s : ByteArray) : (decB s).2 = 0 ∨ (0 < (decB s).2 ∧ (decB s).2 ≤ s.size ∧ (decB s).2 ≤ 10) := by
  have := decGo_bound (numsB s) 0 0
  rw [numsB_length] at this
  simpa [decB] using this
end Go.Proofs.Ytegefemkmdlmaaa.P
end
section
-- Printed by a program of this session (hand.py) out of the translation. Lean checks it.
namespace Go.Proofs.Ytegefemkmdlmaaa.P
open Go.RowKit Go.Proofs.YtegefemkmdlmaaaW.PrintWords Go.Proofs.YtegefemkmdlmaaaW.PrintLast Go.Proofs.YtegefemkmdlmaaaW.PrintMore
attribute [local go_sem] max2_int min2_int max_two min_two max_three min_three max_four min_four   -- for this text's walks alone
set_option linter.unusedVariables false
set_option linter.unusedSimpArgs false

/-- A state of type 110 at block g of W; what its slices lead to came in by w0. -/
def IsS110 (w0 W : World) (g : Nat) (f0 : ByteArray) (f1 : Int) : Prop := W.heap[g]? = some (.cells #[.string f0, .int .i64 f1] 110 (0, 0)) ∧ w0.heap.size ≤ g
theorem IsS110.grown {w0 W : World} {g : Nat} {f0 : ByteArray} {f1 : Int} {W1 : World} {row : Option Nat} (h : IsS110 w0 W g f0 f1) (hw : W.grownBy W1 row) (hne : some g ≠ row) : IsS110 w0 W1 g f0 f1 := by
  obtain ⟨hb, hg⟩ := h
  exact ⟨blk_grown hb hw hne, hg⟩
theorem IsS110.own_neN {w0 W : World} {g : Nat} {f0 : ByteArray} {f1 : Int} {α : Type} {d : Kd α} {e : Nat} {base : Nat} {ok : Nat → Prop} {v : Value} {xs : List α} (h : IsS110 w0 W g f0 f1) (ho : Kd.N d e W base ok v xs) (ht : e ≠ 110) : some g ≠ v.ownBlock := by
  obtain ⟨hb, hg⟩ := h
  exact Kd.N_ne ho hb ht
theorem IsS110.fresh {w0 W : World} {g : Nat} {f0 : ByteArray} {f1 : Int} (h : IsS110 w0 W g f0 f1) : ∀ k, W.heap.size ≤ k → k ≠ g := by
  obtain ⟨hb, hg⟩ := h
  exact Kd.freshB hb
theorem IsS110.kept {w0 W : World} {g : Nat} {f0 : ByteArray} {f1 : Int} {W1 : World} {S : Nat → Prop} (h : IsS110 w0 W g f0 f1) (hk : Kept W W1 S) (hne : ¬ S g) : IsS110 w0 W1 g f0 f1 := by
  obtain ⟨hb, hg⟩ := h
  exact ⟨blk_kept hb hk hne, hg⟩
theorem IsS110.below {w0 W : World} {g : Nat} {f0 : ByteArray} {f1 : Int} {W1 : World} (h : IsS110 w0 W g f0 f1) (hw : Below W.heap.size W W1) : IsS110 w0 W1 g f0 f1 := h.grown (grown_of_below hw none) (by simp)
theorem IsS110.alloc {w0 W : World} {g : Nat} {f0 : ByteArray} {f1 : Int} (h : IsS110 w0 W g f0 f1) (o : Obj) : IsS110 w0 (W.alloc o) g f0 f1 := h.below (below_alloc (Below.refl _ _) o)
theorem IsS110.drewN {w0 W : World} {g : Nat} {f0 : ByteArray} {f1 : Int} (h : IsS110 w0 W g f0 f1) (m : Nat) : IsS110 w0 (W.drewN m) g f0 f1 := h
theorem IsS110.drew {w0 W : World} {g : Nat} {f0 : ByteArray} {f1 : Int} (h : IsS110 w0 W g f0 f1) : IsS110 w0 W.drew g f0 f1 := h
theorem IsS110.at_ {w0 W : World} {g : Nat} {f0 : ByteArray} {f1 : Int} {w' : World} {m : Nat} (hq : W.drewN m = w') (h : IsS110 w0 W g f0 f1) : IsS110 w0 w' g f0 f1 := by subst hq; exact IsS110.drewN h m
theorem IsS110.apart {w0 W : World} {g : Nat} {f0 : ByteArray} {f1 : Int} {α : Type} {d : Kd α} {e : Nat} {base : Nat} {ok : Nat → Prop} {v : Value} {xs : List α} (h : IsS110 w0 W g f0 f1) (ho : d.R e W base ok v xs) (ht : ∀ q, q ∈ e :: d.E → q ≠ 110) : d.R e W base (fun k => ok k ∧ k ≠ g) v xs := by
  obtain ⟨hb, hg⟩ := h
  exact Kd.R_types ho hb ht
theorem IsS110.own_ne {w0 W : World} {g : Nat} {f0 : ByteArray} {f1 : Int} {α : Type} {d : Kd α} {e : Nat} {base : Nat} {ok : Nat → Prop} {v : Value} {xs : List α} (h : IsS110 w0 W g f0 f1) (ho : d.R e W base ok v xs) (ht : e ≠ 110) : some g ≠ v.ownBlock := by
  obtain ⟨hb, hg⟩ := h
  exact Kd.R_ne ho hb ht
theorem IsS110.apartQ {w0 W : World} {g : Nat} {f0 : ByteArray} {f1 : Int} {α : Type} {d : Kd α} {e : Nat} {base : Nat} {ok : Nat → Prop} {v : Value} {xs : List α} (h : IsS110 w0 W g f0 f1) (ho : d.Q e W base ok v xs) (ht : ∀ q, q ∈ e :: d.E → q ≠ 110) : d.Q e W base (fun k => ok k ∧ k ≠ g) v xs := by
  obtain ⟨hb, hg⟩ := h
  exact Kd.Q_types ho hb ht
theorem IsS110.own_neQ {w0 W : World} {g : Nat} {f0 : ByteArray} {f1 : Int} {α : Type} {d : Kd α} {e : Nat} {base : Nat} {ok : Nat → Prop} {v : Value} {xs : List α} (h : IsS110 w0 W g f0 f1) (ho : d.Q e W base ok v xs) (ht : e ≠ 110) : some g ≠ v.ownBlock := by
  obtain ⟨hb, hg⟩ := h
  exact Kd.Q_ne ho hb ht
theorem IsS110.apartS {w0 W : World} {g : Nat} {f0 : ByteArray} {f1 : Int} {α : Type} {d : Kd α} {e : Nat} {base : Nat} {ok : Nat → Prop} {v : Value} {xs : List α} (h : IsS110 w0 W g f0 f1) (ho : d.S e W base ok v xs) (ht : ∀ q, q ∈ e :: d.E → q ≠ 110) : d.S e W base (fun k => ok k ∧ k ≠ g) v xs := by
  obtain ⟨hb, hg⟩ := h
  exact Kd.S_types ho hb ht
theorem IsS110.own_neS {w0 W : World} {g : Nat} {f0 : ByteArray} {f1 : Int} {α : Type} {d : Kd α} {e : Nat} {base : Nat} {ok : Nat → Prop} {v : Value} {xs : List α} (h : IsS110 w0 W g f0 f1) (ho : d.S e W base ok v xs) (ht : e ≠ 110) : some g ≠ v.ownBlock := by
  obtain ⟨hb, hg⟩ := h
  exact Kd.S_ne ho hb ht
theorem IsS110.lt {w0 W : World} {g : Nat} {f0 : ByteArray} {f1 : Int} (h : IsS110 w0 W g f0 f1) : g < W.heap.size := by
  obtain ⟨hb, hg⟩ := h
  exact blk_lt hb
theorem IsS110.ge {w0 W : World} {g : Nat} {f0 : ByteArray} {f1 : Int} (h : IsS110 w0 W g f0 f1) : w0.heap.size ≤ g := by
  obtain ⟨hb, hg⟩ := h
  exact hg
theorem IsS110.ne_blk {w0 W : World} {g : Nat} {f0 : ByteArray} {f1 : Int} {a : Nat} {cs : Array Value} {t : TypeId} {fr : Nat × Nat} (h : IsS110 w0 W g f0 f1) (hb2 : W.heap[a]? = some (.cells cs t fr)) (ht : t ≠ 110) : g ≠ a := by
  obtain ⟨hb, hg⟩ := h
  rintro rfl
  rw [hb] at hb2
  injection hb2 with hb2
  injection hb2 with _ ht2
  exact ht ht2.symm
theorem IsS110.far {w0 W : World} {g : Nat} {f0 : ByteArray} {f1 : Int} {p : Addr} (h : IsS110 w0 W g f0 f1) (hne : g ≠ p.block) (u : Value) : IsS110 w0 (W.setCell p u) g f0 f1 := by
  obtain ⟨hb, hg⟩ := h
  exact ⟨blk_far hb hne u, hg⟩
theorem cellS110_0 {W : World} {g : Nat} {f0 : ByteArray} {f1 : Int} (h : W.heap[g]? = some (.cells #[.string f0, .int .i64 f1] 110 (0, 0))) : W.cell? ⟨g, 0, none⟩ = some (.string f0) := (blk_cell h 0).trans rfl
theorem IsS110.set_0 {w0 W : World} {g : Nat} {f0 : ByteArray} {f1 : Int} (h : IsS110 w0 W g f0 f1) (x : ByteArray) : IsS110 w0 (W.setCell ⟨g, 0, none⟩ (.string x)) g x f1 := by
  obtain ⟨hb, hg⟩ := h
  exact ⟨by simpa using blk_set hb 0 (.string x), hg⟩
theorem cellS110_1 {W : World} {g : Nat} {f0 : ByteArray} {f1 : Int} (h : W.heap[g]? = some (.cells #[.string f0, .int .i64 f1] 110 (0, 0))) : W.cell? ⟨g, 1, none⟩ = some (.int .i64 f1) := (blk_cell h 1).trans rfl
theorem IsS110.set_1 {w0 W : World} {g : Nat} {f0 : ByteArray} {f1 : Int} (h : IsS110 w0 W g f0 f1) (x : Int) : IsS110 w0 (W.setCell ⟨g, 1, none⟩ (.int .i64 x)) g f0 x := by
  obtain ⟨hb, hg⟩ := h
  exact ⟨by simpa using blk_set hb 1 (.int .i64 x), hg⟩
theorem IsS110.new (w0 W : World) (f0 : ByteArray) (f1 : Int) (hB : Below w0.heap.size w0 W) : IsS110 w0 (W.alloc (.cells #[.string f0, .int .i64 f1] 110)) W.heap.size f0 f1 := ⟨by simpa using heap_alloc_new W _, hB.size⟩

end Go.Proofs.Ytegefemkmdlmaaa.P
end
section
-- Printed by a program of this session (hand.py) out of the translation. Lean checks it.
namespace Go.Proofs.Ytegefemkmdlmaaa.P
open Go.RowKit Go.Proofs.YtegefemkmdlmaaaW.PrintWords Go.Proofs.YtegefemkmdlmaaaW.PrintLast Go.Proofs.YtegefemkmdlmaaaW.PrintMore
attribute [local go_sem] max2_int min2_int max_two min_two max_three min_three max_four min_four   -- for this text's walks alone
set_option linter.unusedVariables false
set_option linter.unusedSimpArgs false

/-! ### wire_NewReader: function 62 -/
def wire_NewReader.f (a0 : ByteArray) : Option (ByteArray × Int) := some (a0, 0)
set_option maxHeartbeats 8000000 in
set_option maxRecDepth 100000 in
theorem wire_NewReader.calls (a0 : ByteArray) (r1 : ByteArray) (r2 : Int) (w0 w : World) (hB : Below w0.heap.size w0 w) (h : wire_NewReader.f a0 = some (r1, r2)) :
    Calls Try.prog 62 #[.string a0] w fun e w' => ∃ g_ : Nat, e = .returned (.pointer (some ⟨g_, 0, none⟩)) ∧ IsS110 w0 w' g_ r1 r2 ∧ Below w0.heap.size w0 w' ∧ Below w.heap.size w w' := by
  have hu110 := Try.underlying110
  have HBW := Aside0.mk (Below.refl w.heap.size w)
  have HW0 := Aside0.mk hB.size
  have HB := Aside0.mk hB
  clear hB
  have H : (some (a0, 0)) = some (r1, r2) := h
  clear h
  simp only [Option.some.injEq, Prod.mk.injEq] at H
  obtain ⟨rfl, rfl⟩ := H
  go_enter Try.func62, Try.ntmps62
  go_wp2_with (first | ((with_reducible refine gate_dst (N := 5) rfl ?_); refine box_event ?hg (N := 5) ?hd (cs := #[.string a0, .int .i64 0]) (t := 110) ?hr ?_; (case hd => rfl); (case hg => rfl); (case hr => first | (go_simp; done) | (go_simp; rfl)); intro gb102 hg w2 hbox hb; have n0_ := Aside0.mk (below_step HBW.out hb); have n1_ := Aside0.mk (below_step (by repeat (first | (with_reducible first | exact HB.out | apply below_alloc | apply pw_below_drewN | apply below_drew1) | exact HB.out)) hb); have n2_ := Aside0.mk (hbox); have n3_ := Aside0.mk ((by rw [hg]; exact (below_size (by repeat (first | (with_reducible first | exact HBW.out | apply below_alloc | apply pw_below_drewN | apply below_drew1) | exact HBW.out))) : w.heap.size ≤ gb102)); have n4_ := Aside0.mk ((Nat.le_trans HW0.out (by rw [hg]; exact (below_size (by repeat (first | (with_reducible first | exact HBW.out | apply below_alloc | apply pw_below_drewN | apply below_drew1) | exact HBW.out))) : w.heap.size ≤ gb102) : w0.heap.size ≤ gb102)); clear HBW; clear HB; have HBW := n0_; have HB := n1_; have BK102 := n2_; have GW102 := n3_; have GE102 := n4_; clear n0_ n1_ n2_ n3_ n4_; clear hb hbox hg))
  go_ret
  exact ⟨_, rfl, (show IsS110 w0 _ gb102 a0 0 from ⟨by (with_reducible repeat (first | refine blk_drewN ?_ _ | refine blk_drew ?_ | refine blk_alloc ?_ _)); exact BK102.out, GE102.out⟩), by repeat (first | (with_reducible first | exact HB.out | apply below_alloc | apply pw_below_drewN | apply below_drew1 | refine below_set ?_ GE102.out) | exact HB.out), by repeat (first | (with_reducible first | exact HBW.out | apply below_alloc | apply pw_below_drewN | apply below_drew1 | refine below_set ?_ GW102.out) | exact HBW.out)⟩

end Go.Proofs.Ytegefemkmdlmaaa.P
end
section
-- Printed by a program of this session (hand.py) out of the translation. Lean checks it.
namespace Go.Proofs.Ytegefemkmdlmaaa.P
open Go.RowKit Go.Proofs.YtegefemkmdlmaaaW.PrintWords Go.Proofs.YtegefemkmdlmaaaW.PrintLast Go.Proofs.YtegefemkmdlmaaaW.PrintMore
attribute [local go_sem] max2_int min2_int max_two min_two max_three min_three max_four min_four   -- for this text's walks alone
set_option linter.unusedVariables false
set_option linter.unusedSimpArgs false

/-! ### wire_Reader_fail: function 104 -/
def wire_Reader_fail.f (s0_0 : ByteArray) (s0_1 : Int) (a1 : Int) : Option (ByteArray × Int) := if s0_1 = 0 then (some ((⟨#[]⟩ : ByteArray), a1)) else (some (s0_0, s0_1))
set_option maxHeartbeats 8000000 in
set_option maxRecDepth 100000 in
theorem wire_Reader_fail.calls (g : Nat) (s0_0 : ByteArray) (s0_1 : Int) (a1 : Int) (r1 : ByteArray) (r2 : Int) (w0 w : World) (hI : IsS110 w0 w g s0_0 s0_1) (hB : Below w0.heap.size w0 w) (h : wire_Reader_fail.f s0_0 s0_1 a1 = some (r1, r2)) :
    Calls Try.prog 104 #[.pointer (some ⟨g, 0, none⟩), .int .i64 a1] w fun e w' => e = .returned (.tuple #[]) ∧ IsS110 w0 w' g r1 r2 ∧ Below w0.heap.size w0 w' ∧ KeepBut w w' g none := by
  have HI0 := Aside0.mk hI
  have HK := Aside0.mk (KeepBut.refl w g none)
  have HL := Aside0.mk hB.size
  clear hI
  have HW0 := Aside0.mk hB.size
  have HB := Aside0.mk hB
  clear hB
  have H : (if s0_1 = 0 then (some ((⟨#[]⟩ : ByteArray), a1)) else (some (s0_0, s0_1))) = some (r1, r2) := h
  clear h
  by_cases c3 : s0_1 = 0
  · rw [if_pos c3] at H
    have c3b0 : (s0_1 == 0) = true := beq_iff_eq.mpr c3
    have c3b1 : (s0_1 != 0) = false := bne_eq_false_iff_eq.mpr c3
    clear c3
    simp only [Option.some.injEq, Prod.mk.injEq] at H
    obtain ⟨rfl, rfl⟩ := H
    obtain ⟨HGz4, hgz4⟩ := HI0.out
    have hcz4_0 := cellS110_0 HGz4
    have hcz4_1 := cellS110_1 HGz4
    have hfz4_0 := blk_frozen HGz4 0
    have hfz4_1 := blk_frozen HGz4 1
    clear HGz4 hgz4
    go_enter Try.func104, Try.ntmps104
    go_wp2
    first | go_end0 | ((try simp only [Exit.inBlock, Exit.then]); refine bodyPost_ret (results_none rfl _ _ _) rfl ?_)
    exact ⟨by first | rfl | (simp [errW_none, errW_some] <;> rfl) | (simp [*, errW_none, errW_some] <;> rfl), by repeat (first | (with_reducible first | exact HI0.out | apply IsS110.alloc | apply IsS110.drewN | apply IsS110.drew | apply IsS110.set_0 | apply IsS110.set_1) | exact HI0.out), by repeat (first | (with_reducible first | exact HB.out | apply below_alloc | apply pw_below_drewN | apply below_drew1 | refine below_set ?_ (IsS110.ge HI0.out)) | exact HB.out), by repeat (first | (with_reducible first | exact HK.out | apply KeepBut.set_ | apply keep_drewN | apply keep_drew | apply keep_alloc) | exact HK.out)⟩
  · rw [if_neg c3] at H
    have c3b0 : (s0_1 == 0) = false := beq_eq_false_iff_ne.mpr c3
    have c3b1 : (s0_1 != 0) = true := bne_iff_ne.mpr c3
    simp only [Option.some.injEq, Prod.mk.injEq] at H
    obtain ⟨rfl, rfl⟩ := H
    obtain ⟨HGz5, hgz5⟩ := HI0.out
    have hcz5_0 := cellS110_0 HGz5
    have hcz5_1 := cellS110_1 HGz5
    have hfz5_0 := blk_frozen HGz5 0
    have hfz5_1 := blk_frozen HGz5 1
    clear HGz5 hgz5
    go_enter Try.func104, Try.ntmps104
    go_wp2
    first | go_end0 | ((try simp only [Exit.inBlock, Exit.then]); refine bodyPost_ret (results_none rfl _ _ _) rfl ?_)
    exact ⟨by first | rfl | (simp [errW_none, errW_some] <;> rfl) | (simp [*, errW_none, errW_some] <;> rfl), by repeat (first | (with_reducible first | exact HI0.out | apply IsS110.alloc | apply IsS110.drewN | apply IsS110.drew | apply IsS110.set_0 | apply IsS110.set_1) | exact HI0.out), by repeat (first | (with_reducible first | exact HB.out | apply below_alloc | apply pw_below_drewN | apply below_drew1 | refine below_set ?_ (IsS110.ge HI0.out)) | exact HB.out), by repeat (first | (with_reducible first | exact HK.out | apply KeepBut.set_ | apply keep_drewN | apply keep_drew | apply keep_alloc) | exact HK.out)⟩

end Go.Proofs.Ytegefemkmdlmaaa.P
end
section
/- The contract of wire_Reader_Number. -/
namespace Go.Proofs.Ytegefemkmdlmaaa.P
open Go.RowKit Go.Proofs.YtegefemkmdlmaaaW.PrintWords Go.Proofs.YtegefemkmdlmaaaW.PrintLast Go.Proofs.YtegefemkmdlmaaaW.PrintMore
set_option linter.unusedVariables false
set_option linter.unusedSimpArgs false
set_option maxRecDepth 100000 in
set_option maxHeartbeats 2000000 in
theorem number1 (s : ByteArray) (q : Nat) (x : Int) (w : World) (hc : w.heap[q]? = some (.cells #[.int .u64 x] 22 (0, 0))) :
    Calls Try.prog 109 #[.string s, .pointer (some ⟨q, 0, none⟩)] w fun e w' => e = .returned (.int .i64 (decB s).2) ∧ ∃ m, w' = (w.drewN m).setCell ⟨q, 0, none⟩ (.int .u64 (decB s).1) := by
  have hc0 : w.cell? ⟨q, 0, none⟩ = some (.int .u64 x) := (blk_cell hc 0).trans rfl
  have hf0 := blk_frozen hc 0
  go_enter Try.func109, Try.ntmps109
  go_wp2_with (go_at_call 110; refine (wire_decode.calls 33 s (decB s).1 (decB s).2 _ (decode_eq s)).mono ?_; rintro e w1 ⟨rfl, ⟨m, rfl⟩⟩)
  go_ret
  exact ⟨rfl, m, rfl⟩
set_option maxRecDepth 100000 in
set_option maxHeartbeats 4000000 in
theorem wire_Reader_Number.calls (g : Nat) (s0_0 : ByteArray) (s0_1 : Int) (r1 : Int) (r2 : ByteArray) (r3 : Int) (w0 w : World) (hI : IsS110 w0 w g s0_0 s0_1) (hB : Below w0.heap.size w0 w) (h : wire_Reader_Number.f s0_0 s0_1 = some (r1, r2, r3)) :
    Calls Try.prog 71 #[.pointer (some ⟨g, 0, none⟩)] w fun e w' => e = .returned (.int .u64 r1) ∧ IsS110 w0 w' g r2 r3 ∧ Below w0.heap.size w0 w' ∧ KeepBut w w' g none := by
  have hmf : ∀ (fn : Fn) (first cap : Array Value) (w : World), (Instr.makeFunc fn first cap).run Try.prog w = .ok (.func fn first cap) w := fun _ _ _ _ => rfl
  have HI0 := Aside0.mk hI
  have HK := Aside0.mk (KeepBut.refl w g none)
  have hlt := IsS110.lt hI
  have hge := IsS110.ge hI
  clear hI
  have HB := Aside0.mk hB
  clear hB
  obtain ⟨HGz4, hgz4⟩ := HI0.out
  have hcz4_0 := cellS110_0 HGz4
  have hcz4_1 := cellS110_1 HGz4
  have hfz4_0 := blk_frozen HGz4 0
  have hfz4_1 := blk_frozen HGz4 1
  have HG := Aside0.mk HGz4
  clear HGz4 hgz4
  unfold wire_Reader_Number.f at h
  by_cases h0 : s0_1 = 0
  · rw [if_pos h0] at h
    have c1 : (s0_1 == 0) = true := beq_iff_eq.mpr h0
    have c2 : (s0_1 != 0) = false := bne_eq_false_iff_eq.mpr h0
    have H0 := Aside0.mk h0
    clear h0
    have hbd := decB_bound s0_0
    have hq : (w.alloc (.cells #[.int .u64 0] 22)).heap[w.heap.size]? = some (.cells #[.int .u64 0] 22 (0, 0)) := heap_alloc_new w _
    have hne : ¬ w.heap.size = g := by omega
    by_cases hz : (decB s0_0).2 = 0
    · rw [if_pos hz] at h
      simp only [Option.some.injEq, Prod.mk.injEq] at h
      obtain ⟨rfl, rfl, rfl⟩ := h
      have hz1 : ((decB s0_0).2 == 0) = true := beq_iff_eq.mpr hz
      clear hz hbd
      go_enter Try.func71, Try.ntmps71
      go_wp2_with (first | (go_at_call 108; go_in) | (go_at_call 109; refine (number1 s0_0 w.heap.size 0 _ hq).mono ?_; rintro e w1 ⟨rfl, ⟨m, rfl⟩⟩) | (go_at_call 104; go_in))
      first | go_end0 | ((try simp only [Exit.inBlock, Exit.then]); refine bodyPost_ret (results_none rfl _ _ _) rfl ?_)
      go_wp2
      first | go_end0 | ((try simp only [Exit.inBlock, Exit.then]); refine bodyPost_ret (results_none rfl _ _ _) rfl ?_)
      go_wp2
      go_ret
      refine ⟨rfl, ?_, ?_, ?_⟩
      · exact ((((HI0.out.alloc (.cells #[.int .u64 0] 22)).drewN m).far (p := ⟨w.heap.size, 0, none⟩) (fun e => hne e.symm) (.int .u64 (decB s0_0).1)).set_1 11).set_0 ⟨#[]⟩
      · exact below_set (below_set (below_set (pw_below_drewN (below_alloc HB.out _) m) (Nat.le_trans HB.out.size (Nat.le_refl _))) hge) hge
      · exact (((keep_far (keep_drewN (keep_alloc HK.out _) m) (Nat.le_refl _) _).set_ 1 _).set_ 0 _)
    · rw [if_neg hz] at h
      simp only [Option.some.injEq, Prod.mk.injEq] at h
      obtain ⟨rfl, rfl, rfl⟩ := h
      have hz1 : ((decB s0_0).2 == 0) = false := beq_eq_false_iff_ne.mpr hz
      have hk0 : 0 ≤ (decB s0_0).2 := by omega
      have hk1 : (decB s0_0).2 ≤ s0_0.size := by omega
      clear hz hbd
      go_enter Try.func71, Try.ntmps71
      go_wp2_with (first | (go_at_call 108; go_in) | (go_at_call 109; refine (number1 s0_0 w.heap.size 0 _ hq).mono ?_; rintro e w1 ⟨rfl, ⟨m, rfl⟩⟩))
      go_end0
      go_wp2
      go_ret
      refine ⟨rfl, ?_, ?_, ?_⟩
      · have hi := (((HI0.out.alloc (.cells #[.int .u64 0] 22)).drewN m).far (p := ⟨w.heap.size, 0, none⟩) (fun e => hne e.symm) (.int .u64 (decB s0_0).1)).set_0 (s0_0.extract (decB s0_0).2.toNat s0_0.size)
        rw [H0.out] at hi
        exact hi
      · exact below_set (below_set (pw_below_drewN (below_alloc HB.out _) m) (Nat.le_trans HB.out.size (Nat.le_refl _))) hge
      · exact ((keep_far (keep_drewN (keep_alloc HK.out _) m) (Nat.le_refl _) _).set_ 0 _)
  · rw [if_neg h0] at h
    simp only [Option.some.injEq, Prod.mk.injEq] at h
    obtain ⟨rfl, rfl, rfl⟩ := h
    have c1 : (s0_1 == 0) = false := beq_eq_false_iff_ne.mpr h0
    have c2 : (s0_1 != 0) = true := bne_iff_ne.mpr h0
    clear h0
    go_enter Try.func71, Try.ntmps71
    go_wp2
    first | go_end0 | ((try simp only [Exit.inBlock, Exit.then]); refine bodyPost_ret (results_none rfl _ _ _) rfl ?_)
    go_wp2
    go_ret
    exact ⟨rfl, HI0.out.alloc _, below_alloc HB.out _, keep_alloc HK.out _⟩
end Go.Proofs.Ytegefemkmdlmaaa.P
end
section
-- Printed by a program of this session (hand.py) out of the translation. Lean checks it.
namespace Go.Proofs.Ytegefemkmdlmaaa.P
open Go.RowKit Go.Proofs.YtegefemkmdlmaaaW.PrintWords Go.Proofs.YtegefemkmdlmaaaW.PrintLast Go.Proofs.YtegefemkmdlmaaaW.PrintMore
attribute [local go_sem] max2_int min2_int max_two min_two max_three min_three max_four min_four   -- for this text's walks alone
set_option linter.unusedVariables false
set_option linter.unusedSimpArgs false

/-! ### wire_Reader_Count: function 63 -/
def wire_Reader_Count.f (s0_0 : ByteArray) (s0_1 : Int) (a1 : Int) : Option (Int × ByteArray × Int) := (wire_Reader_Number.f s0_0 s0_1).bind fun bt395 => (if bt395.2.2 = 0 then (if a1 < 0 then ((wire_Reader_fail.f bt395.2.1 bt395.2.2 8).bind fun bt398 => (some (0, bt398.1, bt398.2))) else (if bt395.1 > (IntKind.u64.wrap (a1)) then ((wire_Reader_fail.f bt395.2.1 bt395.2.2 8).bind fun bt400 => (some (0, bt400.1, bt400.2))) else (some (wrap64 (bt395.1), bt395.2.1, bt395.2.2)))) else (some (0, bt395.2.1, bt395.2.2)))
set_option maxHeartbeats 8000000 in
set_option maxRecDepth 100000 in
theorem wire_Reader_Count.calls (g : Nat) (s0_0 : ByteArray) (s0_1 : Int) (a1 : Int) (r1 : Int) (r2 : ByteArray) (r3 : Int) (w0 w : World) (hI : IsS110 w0 w g s0_0 s0_1) (hB : Below w0.heap.size w0 w) (h : wire_Reader_Count.f s0_0 s0_1 a1 = some (r1, r2, r3)) :
    Calls Try.prog 63 #[.pointer (some ⟨g, 0, none⟩), .int .i64 a1] w fun e w' => e = .returned (.int .i64 r1) ∧ IsS110 w0 w' g r2 r3 ∧ Below w0.heap.size w0 w' ∧ KeepBut w w' g none := by
  have HI0 := Aside0.mk hI
  have HK := Aside0.mk (KeepBut.refl w g none)
  have HL := Aside0.mk hB.size
  clear hI
  have HW0 := Aside0.mk hB.size
  have HB := Aside0.mk hB
  clear hB
  have H : ((wire_Reader_Number.f s0_0 s0_1).bind fun bt395 => (if bt395.2.2 = 0 then (if a1 < 0 then ((wire_Reader_fail.f bt395.2.1 bt395.2.2 8).bind fun bt398 => (some (0, bt398.1, bt398.2))) else (if bt395.1 > (IntKind.u64.wrap (a1)) then ((wire_Reader_fail.f bt395.2.1 bt395.2.2 8).bind fun bt400 => (some (0, bt400.1, bt400.2))) else (some (wrap64 (bt395.1), bt395.2.1, bt395.2.2)))) else (some (0, bt395.2.1, bt395.2.2)))) = some (r1, r2, r3) := h
  clear h
  replace H := Option.bind_eq_some_iff.mp H
  obtain ⟨⟨t395, t396, t397⟩, A30, H⟩ := H
  replace H : (if t397 = 0 then (if a1 < 0 then ((wire_Reader_fail.f t396 t397 8).bind fun bt398 => (some (0, bt398.1, bt398.2))) else (if t395 > (IntKind.u64.wrap (a1)) then ((wire_Reader_fail.f t396 t397 8).bind fun bt400 => (some (0, bt400.1, bt400.2))) else (some (wrap64 (t395), t396, t397)))) else (some (0, t396, t397))) = some (r1, r2, r3) := H
  have A3 := Aside0.mk A30
  clear A30
  by_cases c4 : t397 = 0
  · rw [if_pos c4] at H
    have c4b0 : (t397 == 0) = true := beq_iff_eq.mpr c4
    have c4b1 : (t397 != 0) = false := bne_eq_false_iff_eq.mpr c4
    clear c4
    by_cases c5 : a1 < 0
    · rw [if_pos c5] at H
      have c5b0 : decide (a1 < 0) = true := decide_eq_true c5
      clear c5
      replace H := Option.bind_eq_some_iff.mp H
      obtain ⟨⟨t398, t399⟩, A60, H⟩ := H
      replace H : (some (0, t398, t399)) = some (r1, r2, r3) := H
      have A6 := Aside0.mk A60
      clear A60
      simp only [Option.some.injEq, Prod.mk.injEq] at H
      obtain ⟨rfl, rfl, rfl⟩ := H
      go_enter Try.func63, Try.ntmps63
      go_wp2_with (first | ((with_reducible refine gate_callee (f := 71) rfl ?_); refine goesL_ (some 7) rfl rfl Try.func71 (by kernel_rfl) rfl #[.pointer (some ⟨g, 0, none⟩)] rfl (by (try simp only [List.map_toArray, List.map_cons, List.map_nil]); first | done | rfl | (simp only [List.length_drop, List.length_take]; rfl)) ?_; (with_reducible refine (wire_Reader_Number.calls g s0_0 s0_1 t395 t396 t397 w0 _ ?side1 ?side2 A3.out).mono ?_); (case side1 => repeat (first | (with_reducible first | exact HI0.out | apply IsS110.alloc | apply IsS110.drewN | apply IsS110.drew | apply IsS110.set_0 | apply IsS110.set_1) | exact HI0.out)); (case side2 => repeat (first | (with_reducible first | exact HB.out | apply below_alloc | apply pw_below_drewN | apply below_drew1 | refine below_set ?_ (IsS110.ge HI0.out)) | exact HB.out)); rintro e w7 ⟨rfl, hi, hb, hk⟩; refine ⟨_, rfl, ?_⟩; have n0_ := Aside0.mk (KeepBut.trans (by repeat (first | (with_reducible first | exact HK.out | apply KeepBut.set_ | apply keep_drewN | apply keep_drew | apply keep_alloc) | exact HK.out)) hk (.inl rfl)); have n1_ := Aside0.mk (hb); have n2_ := Aside0.mk (hi); clear HK; clear HB; clear HI0; have HK := n0_; have HB := n1_; have HI0 := n2_; clear n0_ n1_ n2_; (try clear hb); (try clear hb2); (try clear hk); (try clear hi); obtain ⟨HGz8, hgz8⟩ := HI0.out; have hcz8_0 := cellS110_0 HGz8; have hcz8_1 := cellS110_1 HGz8; have hfz8_0 := blk_frozen HGz8 0; have hfz8_1 := blk_frozen HGz8 1; clear HGz8 hgz8) | ((with_reducible refine gate_callee (f := 104) rfl ?_); refine goesL_ (some 22) rfl rfl Try.func104 (by kernel_rfl) rfl #[.pointer (some ⟨g, 0, none⟩), .int .i64 8] rfl (by (try simp only [List.map_toArray, List.map_cons, List.map_nil]); first | done | rfl | (simp only [List.length_drop, List.length_take]; rfl)) ?_; (with_reducible refine (wire_Reader_fail.calls g t396 t397 8 t398 t399 w0 _ ?side1 ?side2 A6.out).mono ?_); (case side1 => repeat (first | (with_reducible first | exact HI0.out | apply IsS110.alloc | apply IsS110.drewN | apply IsS110.drew | apply IsS110.set_0 | apply IsS110.set_1) | exact HI0.out)); (case side2 => repeat (first | (with_reducible first | exact HB.out | apply below_alloc | apply pw_below_drewN | apply below_drew1 | refine below_set ?_ (IsS110.ge HI0.out)) | exact HB.out)); rintro e w9 ⟨rfl, hi, hb, hk⟩; refine ⟨_, rfl, ?_⟩; have n0_ := Aside0.mk (KeepBut.trans (by repeat (first | (with_reducible first | exact HK.out | apply KeepBut.set_ | apply keep_drewN | apply keep_drew | apply keep_alloc) | exact HK.out)) hk (.inl rfl)); have n1_ := Aside0.mk (hb); have n2_ := Aside0.mk (hi); clear HK; clear HB; clear HI0; have HK := n0_; have HB := n1_; have HI0 := n2_; clear n0_ n1_ n2_; (try clear hb); (try clear hb2); (try clear hk); (try clear hi)))
      go_ret
      exact ⟨by first | rfl | (simp [errW_none, errW_some] <;> rfl) | (simp [*, errW_none, errW_some] <;> rfl), by repeat (first | (with_reducible first | exact HI0.out | apply IsS110.alloc | apply IsS110.drewN | apply IsS110.drew | apply IsS110.set_0 | apply IsS110.set_1) | exact HI0.out), by repeat (first | (with_reducible first | exact HB.out | apply below_alloc | apply pw_below_drewN | apply below_drew1 | refine below_set ?_ (IsS110.ge HI0.out)) | exact HB.out), by repeat (first | (with_reducible first | exact HK.out | apply KeepBut.set_ | apply keep_drewN | apply keep_drew | apply keep_alloc) | exact HK.out)⟩
    · rw [if_neg c5] at H
      have c5b0 : decide (a1 < 0) = false := decide_eq_false c5
      clear c5
      by_cases c10 : t395 > (IntKind.u64.wrap (a1))
      · rw [if_pos c10] at H
        have c10b0 : decide ((IntKind.u64.wrap (a1)) < t395) = true := decide_eq_true c10
        clear c10
        replace H := Option.bind_eq_some_iff.mp H
        obtain ⟨⟨t400, t401⟩, A110, H⟩ := H
        replace H : (some (0, t400, t401)) = some (r1, r2, r3) := H
        have A11 := Aside0.mk A110
        clear A110
        simp only [Option.some.injEq, Prod.mk.injEq] at H
        obtain ⟨rfl, rfl, rfl⟩ := H
        go_enter Try.func63, Try.ntmps63
        go_wp2_with (first | ((with_reducible refine gate_callee (f := 71) rfl ?_); refine goesL_ (some 7) rfl rfl Try.func71 (by kernel_rfl) rfl #[.pointer (some ⟨g, 0, none⟩)] rfl (by (try simp only [List.map_toArray, List.map_cons, List.map_nil]); first | done | rfl | (simp only [List.length_drop, List.length_take]; rfl)) ?_; (with_reducible refine (wire_Reader_Number.calls g s0_0 s0_1 t395 t396 t397 w0 _ ?side1 ?side2 A3.out).mono ?_); (case side1 => repeat (first | (with_reducible first | exact HI0.out | apply IsS110.alloc | apply IsS110.drewN | apply IsS110.drew | apply IsS110.set_0 | apply IsS110.set_1) | exact HI0.out)); (case side2 => repeat (first | (with_reducible first | exact HB.out | apply below_alloc | apply pw_below_drewN | apply below_drew1 | refine below_set ?_ (IsS110.ge HI0.out)) | exact HB.out)); rintro e w12 ⟨rfl, hi, hb, hk⟩; refine ⟨_, rfl, ?_⟩; have n0_ := Aside0.mk (KeepBut.trans (by repeat (first | (with_reducible first | exact HK.out | apply KeepBut.set_ | apply keep_drewN | apply keep_drew | apply keep_alloc) | exact HK.out)) hk (.inl rfl)); have n1_ := Aside0.mk (hb); have n2_ := Aside0.mk (hi); clear HK; clear HB; clear HI0; have HK := n0_; have HB := n1_; have HI0 := n2_; clear n0_ n1_ n2_; (try clear hb); (try clear hb2); (try clear hk); (try clear hi); obtain ⟨HGz13, hgz13⟩ := HI0.out; have hcz13_0 := cellS110_0 HGz13; have hcz13_1 := cellS110_1 HGz13; have hfz13_0 := blk_frozen HGz13 0; have hfz13_1 := blk_frozen HGz13 1; clear HGz13 hgz13) | ((with_reducible refine gate_callee (f := 104) rfl ?_); refine goesL_ (some 22) rfl rfl Try.func104 (by kernel_rfl) rfl #[.pointer (some ⟨g, 0, none⟩), .int .i64 8] rfl (by (try simp only [List.map_toArray, List.map_cons, List.map_nil]); first | done | rfl | (simp only [List.length_drop, List.length_take]; rfl)) ?_; (with_reducible refine (wire_Reader_fail.calls g t396 t397 8 t400 t401 w0 _ ?side1 ?side2 A11.out).mono ?_); (case side1 => repeat (first | (with_reducible first | exact HI0.out | apply IsS110.alloc | apply IsS110.drewN | apply IsS110.drew | apply IsS110.set_0 | apply IsS110.set_1) | exact HI0.out)); (case side2 => repeat (first | (with_reducible first | exact HB.out | apply below_alloc | apply pw_below_drewN | apply below_drew1 | refine below_set ?_ (IsS110.ge HI0.out)) | exact HB.out)); rintro e w14 ⟨rfl, hi, hb, hk⟩; refine ⟨_, rfl, ?_⟩; have n0_ := Aside0.mk (KeepBut.trans (by repeat (first | (with_reducible first | exact HK.out | apply KeepBut.set_ | apply keep_drewN | apply keep_drew | apply keep_alloc) | exact HK.out)) hk (.inl rfl)); have n1_ := Aside0.mk (hb); have n2_ := Aside0.mk (hi); clear HK; clear HB; clear HI0; have HK := n0_; have HB := n1_; have HI0 := n2_; clear n0_ n1_ n2_; (try clear hb); (try clear hb2); (try clear hk); (try clear hi)))
        go_ret
        exact ⟨by first | rfl | (simp [errW_none, errW_some] <;> rfl) | (simp [*, errW_none, errW_some] <;> rfl), by repeat (first | (with_reducible first | exact HI0.out | apply IsS110.alloc | apply IsS110.drewN | apply IsS110.drew | apply IsS110.set_0 | apply IsS110.set_1) | exact HI0.out), by repeat (first | (with_reducible first | exact HB.out | apply below_alloc | apply pw_below_drewN | apply below_drew1 | refine below_set ?_ (IsS110.ge HI0.out)) | exact HB.out), by repeat (first | (with_reducible first | exact HK.out | apply KeepBut.set_ | apply keep_drewN | apply keep_drew | apply keep_alloc) | exact HK.out)⟩
      · rw [if_neg c10] at H
        have c10b0 : decide ((IntKind.u64.wrap (a1)) < t395) = false := decide_eq_false c10
        clear c10
        simp only [Option.some.injEq, Prod.mk.injEq] at H
        obtain ⟨rfl, rfl, rfl⟩ := H
        go_enter Try.func63, Try.ntmps63
        go_wp2_with (first | ((with_reducible refine gate_callee (f := 71) rfl ?_); refine goesL_ (some 7) rfl rfl Try.func71 (by kernel_rfl) rfl #[.pointer (some ⟨g, 0, none⟩)] rfl (by (try simp only [List.map_toArray, List.map_cons, List.map_nil]); first | done | rfl | (simp only [List.length_drop, List.length_take]; rfl)) ?_; (with_reducible refine (wire_Reader_Number.calls g s0_0 s0_1 t395 t396 t397 w0 _ ?side1 ?side2 A3.out).mono ?_); (case side1 => repeat (first | (with_reducible first | exact HI0.out | apply IsS110.alloc | apply IsS110.drewN | apply IsS110.drew | apply IsS110.set_0 | apply IsS110.set_1) | exact HI0.out)); (case side2 => repeat (first | (with_reducible first | exact HB.out | apply below_alloc | apply pw_below_drewN | apply below_drew1 | refine below_set ?_ (IsS110.ge HI0.out)) | exact HB.out)); rintro e w15 ⟨rfl, hi, hb, hk⟩; refine ⟨_, rfl, ?_⟩; have n0_ := Aside0.mk (KeepBut.trans (by repeat (first | (with_reducible first | exact HK.out | apply KeepBut.set_ | apply keep_drewN | apply keep_drew | apply keep_alloc) | exact HK.out)) hk (.inl rfl)); have n1_ := Aside0.mk (hb); have n2_ := Aside0.mk (hi); clear HK; clear HB; clear HI0; have HK := n0_; have HB := n1_; have HI0 := n2_; clear n0_ n1_ n2_; (try clear hb); (try clear hb2); (try clear hk); (try clear hi); obtain ⟨HGz16, hgz16⟩ := HI0.out; have hcz16_0 := cellS110_0 HGz16; have hcz16_1 := cellS110_1 HGz16; have hfz16_0 := blk_frozen HGz16 0; have hfz16_1 := blk_frozen HGz16 1; clear HGz16 hgz16))
        go_ret
        exact ⟨by first | rfl | (simp [errW_none, errW_some] <;> rfl) | (simp [*, errW_none, errW_some] <;> rfl), by repeat (first | (with_reducible first | exact HI0.out | apply IsS110.alloc | apply IsS110.drewN | apply IsS110.drew | apply IsS110.set_0 | apply IsS110.set_1) | exact HI0.out), by repeat (first | (with_reducible first | exact HB.out | apply below_alloc | apply pw_below_drewN | apply below_drew1 | refine below_set ?_ (IsS110.ge HI0.out)) | exact HB.out), by repeat (first | (with_reducible first | exact HK.out | apply KeepBut.set_ | apply keep_drewN | apply keep_drew | apply keep_alloc) | exact HK.out)⟩
  · rw [if_neg c4] at H
    have c4b0 : (t397 == 0) = false := beq_eq_false_iff_ne.mpr c4
    have c4b1 : (t397 != 0) = true := bne_iff_ne.mpr c4
    simp only [Option.some.injEq, Prod.mk.injEq] at H
    obtain ⟨rfl, rfl, rfl⟩ := H
    go_enter Try.func63, Try.ntmps63
    go_wp2_with (first | ((with_reducible refine gate_callee (f := 71) rfl ?_); refine goesL_ (some 7) rfl rfl Try.func71 (by kernel_rfl) rfl #[.pointer (some ⟨g, 0, none⟩)] rfl (by (try simp only [List.map_toArray, List.map_cons, List.map_nil]); first | done | rfl | (simp only [List.length_drop, List.length_take]; rfl)) ?_; (with_reducible refine (wire_Reader_Number.calls g s0_0 s0_1 t395 t396 t397 w0 _ ?side1 ?side2 A3.out).mono ?_); (case side1 => repeat (first | (with_reducible first | exact HI0.out | apply IsS110.alloc | apply IsS110.drewN | apply IsS110.drew | apply IsS110.set_0 | apply IsS110.set_1) | exact HI0.out)); (case side2 => repeat (first | (with_reducible first | exact HB.out | apply below_alloc | apply pw_below_drewN | apply below_drew1 | refine below_set ?_ (IsS110.ge HI0.out)) | exact HB.out)); rintro e w17 ⟨rfl, hi, hb, hk⟩; refine ⟨_, rfl, ?_⟩; have n0_ := Aside0.mk (KeepBut.trans (by repeat (first | (with_reducible first | exact HK.out | apply KeepBut.set_ | apply keep_drewN | apply keep_drew | apply keep_alloc) | exact HK.out)) hk (.inl rfl)); have n1_ := Aside0.mk (hb); have n2_ := Aside0.mk (hi); clear HK; clear HB; clear HI0; have HK := n0_; have HB := n1_; have HI0 := n2_; clear n0_ n1_ n2_; (try clear hb); (try clear hb2); (try clear hk); (try clear hi); obtain ⟨HGz18, hgz18⟩ := HI0.out; have hcz18_0 := cellS110_0 HGz18; have hcz18_1 := cellS110_1 HGz18; have hfz18_0 := blk_frozen HGz18 0; have hfz18_1 := blk_frozen HGz18 1; clear HGz18 hgz18))
    go_ret
    exact ⟨by first | rfl | (simp [errW_none, errW_some] <;> rfl) | (simp [*, errW_none, errW_some] <;> rfl), by repeat (first | (with_reducible first | exact HI0.out | apply IsS110.alloc | apply IsS110.drewN | apply IsS110.drew | apply IsS110.set_0 | apply IsS110.set_1) | exact HI0.out), by repeat (first | (with_reducible first | exact HB.out | apply below_alloc | apply pw_below_drewN | apply below_drew1 | refine below_set ?_ (IsS110.ge HI0.out)) | exact HB.out), by repeat (first | (with_reducible first | exact HK.out | apply KeepBut.set_ | apply keep_drewN | apply keep_drew | apply keep_alloc) | exact HK.out)⟩

end Go.Proofs.Ytegefemkmdlmaaa.P
end
section
-- Printed by a program of this session (hand.py) out of the translation. Lean checks it.
namespace Go.Proofs.Ytegefemkmdlmaaa.P
open Go.RowKit Go.Proofs.YtegefemkmdlmaaaW.PrintWords Go.Proofs.YtegefemkmdlmaaaW.PrintLast Go.Proofs.YtegefemkmdlmaaaW.PrintMore
attribute [local go_sem] max2_int min2_int max_two min_two max_three min_three max_four min_four   -- for this text's walks alone
set_option linter.unusedVariables false
set_option linter.unusedSimpArgs false

/-! ### wire_Reader_Text: function 64 -/
def wire_Reader_Text.f (s0_0 : ByteArray) (s0_1 : Int) (a1 : Int) : Option (ByteArray × ByteArray × Int) := (wire_Reader_Count.f s0_0 s0_1 a1).bind fun bt402 => (if bt402.2.2 = 0 then (if bt402.1 > (bt402.2.1.size : Int) then ((wire_Reader_fail.f bt402.2.1 bt402.2.2 11).bind fun bt405 => (some ((⟨#[]⟩ : ByteArray), bt405.1, bt405.2))) else (if 0 ≤ bt402.1 then (if bt402.1 ≤ (bt402.2.1.size : Int) then (some (bt402.2.1.extract 0 (bt402.1 : Int).toNat, bt402.2.1.extract (bt402.1 : Int).toNat bt402.2.1.size, bt402.2.2)) else (none)) else (none))) else (some ((⟨#[]⟩ : ByteArray), bt402.2.1, bt402.2.2)))
set_option maxHeartbeats 8000000 in
set_option maxRecDepth 100000 in
theorem wire_Reader_Text.calls (g : Nat) (s0_0 : ByteArray) (s0_1 : Int) (a1 : Int) (r1 : ByteArray) (r2 : ByteArray) (r3 : Int) (w0 w : World) (hI : IsS110 w0 w g s0_0 s0_1) (hB : Below w0.heap.size w0 w) (h : wire_Reader_Text.f s0_0 s0_1 a1 = some (r1, r2, r3)) :
    Calls Try.prog 64 #[.pointer (some ⟨g, 0, none⟩), .int .i64 a1] w fun e w' => e = .returned (.string r1) ∧ IsS110 w0 w' g r2 r3 ∧ Below w0.heap.size w0 w' ∧ KeepBut w w' g none := by
  have HI0 := Aside0.mk hI
  have HK := Aside0.mk (KeepBut.refl w g none)
  have HL := Aside0.mk hB.size
  clear hI
  have HW0 := Aside0.mk hB.size
  have HB := Aside0.mk hB
  clear hB
  have H : ((wire_Reader_Count.f s0_0 s0_1 a1).bind fun bt402 => (if bt402.2.2 = 0 then (if bt402.1 > (bt402.2.1.size : Int) then ((wire_Reader_fail.f bt402.2.1 bt402.2.2 11).bind fun bt405 => (some ((⟨#[]⟩ : ByteArray), bt405.1, bt405.2))) else (if 0 ≤ bt402.1 then (if bt402.1 ≤ (bt402.2.1.size : Int) then (some (bt402.2.1.extract 0 (bt402.1 : Int).toNat, bt402.2.1.extract (bt402.1 : Int).toNat bt402.2.1.size, bt402.2.2)) else (none)) else (none))) else (some ((⟨#[]⟩ : ByteArray), bt402.2.1, bt402.2.2)))) = some (r1, r2, r3) := h
  clear h
  replace H := Option.bind_eq_some_iff.mp H
  obtain ⟨⟨t402, t403, t404⟩, A30, H⟩ := H
  replace H : (if t404 = 0 then (if t402 > (t403.size : Int) then ((wire_Reader_fail.f t403 t404 11).bind fun bt405 => (some ((⟨#[]⟩ : ByteArray), bt405.1, bt405.2))) else (if 0 ≤ t402 then (if t402 ≤ (t403.size : Int) then (some (t403.extract 0 (t402 : Int).toNat, t403.extract (t402 : Int).toNat t403.size, t404)) else (none)) else (none))) else (some ((⟨#[]⟩ : ByteArray), t403, t404))) = some (r1, r2, r3) := H
  have A3 := Aside0.mk A30
  clear A30
  by_cases c4 : t404 = 0
  · rw [if_pos c4] at H
    have c4b0 : (t404 == 0) = true := beq_iff_eq.mpr c4
    have c4b1 : (t404 != 0) = false := bne_eq_false_iff_eq.mpr c4
    clear c4
    by_cases c5 : t402 > (t403.size : Int)
    · rw [if_pos c5] at H
      have c5b0 : decide ((t403.size : Int) < t402) = true := decide_eq_true c5
      clear c5
      replace H := Option.bind_eq_some_iff.mp H
      obtain ⟨⟨t405, t406⟩, A60, H⟩ := H
      replace H : (some ((⟨#[]⟩ : ByteArray), t405, t406)) = some (r1, r2, r3) := H
      have A6 := Aside0.mk A60
      clear A60
      simp only [Option.some.injEq, Prod.mk.injEq] at H
      obtain ⟨rfl, rfl, rfl⟩ := H
      go_enter Try.func64, Try.ntmps64
      go_wp2_with (first | ((with_reducible refine gate_callee (f := 63) rfl ?_); refine goesL_ (some 9) rfl rfl Try.func63 (by kernel_rfl) rfl #[.pointer (some ⟨g, 0, none⟩), .int .i64 a1] rfl (by (try simp only [List.map_toArray, List.map_cons, List.map_nil]); first | done | rfl | (simp only [List.length_drop, List.length_take]; rfl)) ?_; (with_reducible refine (wire_Reader_Count.calls g s0_0 s0_1 a1 t402 t403 t404 w0 _ ?side1 ?side2 A3.out).mono ?_); (case side1 => repeat (first | (with_reducible first | exact HI0.out | apply IsS110.alloc | apply IsS110.drewN | apply IsS110.drew | apply IsS110.set_0 | apply IsS110.set_1) | exact HI0.out)); (case side2 => repeat (first | (with_reducible first | exact HB.out | apply below_alloc | apply pw_below_drewN | apply below_drew1 | refine below_set ?_ (IsS110.ge HI0.out)) | exact HB.out)); rintro e w7 ⟨rfl, hi, hb, hk⟩; refine ⟨_, rfl, ?_⟩; have n0_ := Aside0.mk (KeepBut.trans (by repeat (first | (with_reducible first | exact HK.out | apply KeepBut.set_ | apply keep_drewN | apply keep_drew | apply keep_alloc) | exact HK.out)) hk (.inl rfl)); have n1_ := Aside0.mk (hb); have n2_ := Aside0.mk (hi); clear HK; clear HB; clear HI0; have HK := n0_; have HB := n1_; have HI0 := n2_; clear n0_ n1_ n2_; (try clear hb); (try clear hb2); (try clear hk); (try clear hi); obtain ⟨HGz8, hgz8⟩ := HI0.out; have hcz8_0 := cellS110_0 HGz8; have hcz8_1 := cellS110_1 HGz8; have hfz8_0 := blk_frozen HGz8 0; have hfz8_1 := blk_frozen HGz8 1; clear HGz8 hgz8) | ((with_reducible refine gate_callee (f := 104) rfl ?_); refine goesL_ (some 23) rfl rfl Try.func104 (by kernel_rfl) rfl #[.pointer (some ⟨g, 0, none⟩), .int .i64 11] rfl (by (try simp only [List.map_toArray, List.map_cons, List.map_nil]); first | done | rfl | (simp only [List.length_drop, List.length_take]; rfl)) ?_; (with_reducible refine (wire_Reader_fail.calls g t403 t404 11 t405 t406 w0 _ ?side1 ?side2 A6.out).mono ?_); (case side1 => repeat (first | (with_reducible first | exact HI0.out | apply IsS110.alloc | apply IsS110.drewN | apply IsS110.drew | apply IsS110.set_0 | apply IsS110.set_1) | exact HI0.out)); (case side2 => repeat (first | (with_reducible first | exact HB.out | apply below_alloc | apply pw_below_drewN | apply below_drew1 | refine below_set ?_ (IsS110.ge HI0.out)) | exact HB.out)); rintro e w9 ⟨rfl, hi, hb, hk⟩; refine ⟨_, rfl, ?_⟩; have n0_ := Aside0.mk (KeepBut.trans (by repeat (first | (with_reducible first | exact HK.out | apply KeepBut.set_ | apply keep_drewN | apply keep_drew | apply keep_alloc) | exact HK.out)) hk (.inl rfl)); have n1_ := Aside0.mk (hb); have n2_ := Aside0.mk (hi); clear HK; clear HB; clear HI0; have HK := n0_; have HB := n1_; have HI0 := n2_; clear n0_ n1_ n2_; (try clear hb); (try clear hb2); (try clear hk); (try clear hi)))
      go_ret
      exact ⟨by first | rfl | (simp [errW_none, errW_some] <;> rfl) | (simp [*, errW_none, errW_some] <;> rfl), by repeat (first | (with_reducible first | exact HI0.out | apply IsS110.alloc | apply IsS110.drewN | apply IsS110.drew | apply IsS110.set_0 | apply IsS110.set_1) | exact HI0.out), by repeat (first | (with_reducible first | exact HB.out | apply below_alloc | apply pw_below_drewN | apply below_drew1 | refine below_set ?_ (IsS110.ge HI0.out)) | exact HB.out), by repeat (first | (with_reducible first | exact HK.out | apply KeepBut.set_ | apply keep_drewN | apply keep_drew | apply keep_alloc) | exact HK.out)⟩
    · rw [if_neg c5] at H
      have c5b0 : decide ((t403.size : Int) < t402) = false := decide_eq_false c5
      clear c5
      by_cases c10 : 0 ≤ t402
      · rw [if_pos c10] at H
        have c10b0 := eq_true c10
        have c10b1 : decide (0 ≤ t402) = true := decide_eq_true c10
        clear c10
        by_cases c11 : t402 ≤ (t403.size : Int)
        · rw [if_pos c11] at H
          have c11b0 := eq_true c11
          have c11b1 : decide (t402 ≤ (t403.size : Int)) = true := decide_eq_true c11
          clear c11
          have c12b0 := eq_true (of_decide_eq_true (by first | (with_reducible assumption) | assumption) : 0 ≤ t402)
          have c13b0 := eq_true (of_decide_eq_true (by first | (with_reducible assumption) | assumption) : t402 ≤ (t403.size : Int))
          simp only [Option.some.injEq, Prod.mk.injEq] at H
          obtain ⟨rfl, rfl, rfl⟩ := H
          go_enter Try.func64, Try.ntmps64
          go_wp2_with (first | ((with_reducible refine gate_callee (f := 63) rfl ?_); refine goesL_ (some 9) rfl rfl Try.func63 (by kernel_rfl) rfl #[.pointer (some ⟨g, 0, none⟩), .int .i64 a1] rfl (by (try simp only [List.map_toArray, List.map_cons, List.map_nil]); first | done | rfl | (simp only [List.length_drop, List.length_take]; rfl)) ?_; (with_reducible refine (wire_Reader_Count.calls g s0_0 s0_1 a1 t402 t403 t404 w0 _ ?side1 ?side2 A3.out).mono ?_); (case side1 => repeat (first | (with_reducible first | exact HI0.out | apply IsS110.alloc | apply IsS110.drewN | apply IsS110.drew | apply IsS110.set_0 | apply IsS110.set_1) | exact HI0.out)); (case side2 => repeat (first | (with_reducible first | exact HB.out | apply below_alloc | apply pw_below_drewN | apply below_drew1 | refine below_set ?_ (IsS110.ge HI0.out)) | exact HB.out)); rintro e w14 ⟨rfl, hi, hb, hk⟩; refine ⟨_, rfl, ?_⟩; have n0_ := Aside0.mk (KeepBut.trans (by repeat (first | (with_reducible first | exact HK.out | apply KeepBut.set_ | apply keep_drewN | apply keep_drew | apply keep_alloc) | exact HK.out)) hk (.inl rfl)); have n1_ := Aside0.mk (hb); have n2_ := Aside0.mk (hi); clear HK; clear HB; clear HI0; have HK := n0_; have HB := n1_; have HI0 := n2_; clear n0_ n1_ n2_; (try clear hb); (try clear hb2); (try clear hk); (try clear hi); obtain ⟨HGz15, hgz15⟩ := HI0.out; have hcz15_0 := cellS110_0 HGz15; have hcz15_1 := cellS110_1 HGz15; have hfz15_0 := blk_frozen HGz15 0; have hfz15_1 := blk_frozen HGz15 1; clear HGz15 hgz15))
          go_ret
          exact ⟨by first | rfl | (simp [errW_none, errW_some] <;> rfl) | (simp [*, errW_none, errW_some] <;> rfl), by repeat (first | (with_reducible first | exact HI0.out | apply IsS110.alloc | apply IsS110.drewN | apply IsS110.drew | apply IsS110.set_0 | apply IsS110.set_1) | exact HI0.out), by repeat (first | (with_reducible first | exact HB.out | apply below_alloc | apply pw_below_drewN | apply below_drew1 | refine below_set ?_ (IsS110.ge HI0.out)) | exact HB.out), by repeat (first | (with_reducible first | exact HK.out | apply KeepBut.set_ | apply keep_drewN | apply keep_drew | apply keep_alloc) | exact HK.out)⟩
        · rw [if_neg c11] at H
          exact absurd H (by simp)
      · rw [if_neg c10] at H
        exact absurd H (by simp)
  · rw [if_neg c4] at H
    have c4b0 : (t404 == 0) = false := beq_eq_false_iff_ne.mpr c4
    have c4b1 : (t404 != 0) = true := bne_iff_ne.mpr c4
    simp only [Option.some.injEq, Prod.mk.injEq] at H
    obtain ⟨rfl, rfl, rfl⟩ := H
    go_enter Try.func64, Try.ntmps64
    go_wp2_with (first | ((with_reducible refine gate_callee (f := 63) rfl ?_); refine goesL_ (some 9) rfl rfl Try.func63 (by kernel_rfl) rfl #[.pointer (some ⟨g, 0, none⟩), .int .i64 a1] rfl (by (try simp only [List.map_toArray, List.map_cons, List.map_nil]); first | done | rfl | (simp only [List.length_drop, List.length_take]; rfl)) ?_; (with_reducible refine (wire_Reader_Count.calls g s0_0 s0_1 a1 t402 t403 t404 w0 _ ?side1 ?side2 A3.out).mono ?_); (case side1 => repeat (first | (with_reducible first | exact HI0.out | apply IsS110.alloc | apply IsS110.drewN | apply IsS110.drew | apply IsS110.set_0 | apply IsS110.set_1) | exact HI0.out)); (case side2 => repeat (first | (with_reducible first | exact HB.out | apply below_alloc | apply pw_below_drewN | apply below_drew1 | refine below_set ?_ (IsS110.ge HI0.out)) | exact HB.out)); rintro e w16 ⟨rfl, hi, hb, hk⟩; refine ⟨_, rfl, ?_⟩; have n0_ := Aside0.mk (KeepBut.trans (by repeat (first | (with_reducible first | exact HK.out | apply KeepBut.set_ | apply keep_drewN | apply keep_drew | apply keep_alloc) | exact HK.out)) hk (.inl rfl)); have n1_ := Aside0.mk (hb); have n2_ := Aside0.mk (hi); clear HK; clear HB; clear HI0; have HK := n0_; have HB := n1_; have HI0 := n2_; clear n0_ n1_ n2_; (try clear hb); (try clear hb2); (try clear hk); (try clear hi); obtain ⟨HGz17, hgz17⟩ := HI0.out; have hcz17_0 := cellS110_0 HGz17; have hcz17_1 := cellS110_1 HGz17; have hfz17_0 := blk_frozen HGz17 0; have hfz17_1 := blk_frozen HGz17 1; clear HGz17 hgz17))
    go_ret
    exact ⟨by first | rfl | (simp [errW_none, errW_some] <;> rfl) | (simp [*, errW_none, errW_some] <;> rfl), by repeat (first | (with_reducible first | exact HI0.out | apply IsS110.alloc | apply IsS110.drewN | apply IsS110.drew | apply IsS110.set_0 | apply IsS110.set_1) | exact HI0.out), by repeat (first | (with_reducible first | exact HB.out | apply below_alloc | apply pw_below_drewN | apply below_drew1 | refine below_set ?_ (IsS110.ge HI0.out)) | exact HB.out), by repeat (first | (with_reducible first | exact HK.out | apply KeepBut.set_ | apply keep_drewN | apply keep_drew | apply keep_alloc) | exact HK.out)⟩

end Go.Proofs.Ytegefemkmdlmaaa.P
end
section
-- Printed by a program of this session (hand.py) out of the translation. Lean checks it.
namespace Go.Proofs.Ytegefemkmdlmaaa.P
open Go.RowKit Go.Proofs.YtegefemkmdlmaaaW.PrintWords Go.Proofs.YtegefemkmdlmaaaW.PrintLast Go.Proofs.YtegefemkmdlmaaaW.PrintMore
attribute [local go_sem] max2_int min2_int max_two min_two max_three min_three max_four min_four   -- for this text's walks alone
set_option linter.unusedVariables false
set_option linter.unusedSimpArgs false

/-! ### dasdref01_Number: function 27 -/
def dasdref01_Number.f : Nat → Int → Option (ByteArray)
  | 0, _ => none
  | k + 1, a0 => if a0 < 128 then (some (strOfNums (([(a0) % 256] : List Int)))) else ((some (([(IntKind.u64.wrap ((Int.tmod a0 128) + 128)) % 256] : List Int) : List Int)).bind fun y119 => ((dasdref01_Number.f k (IntKind.u64.wrap (Int.tdiv a0 128))).bind fun t122 => (if (strOfNums y119).size + t122.size ≤ 9223372036854775807 then (some ((strOfNums y119) ++ t122)) else (none))))
theorem dasdref01_Number.mono_l : ∀ k, (∀ y0, LeO (dasdref01_Number.f k y0) (dasdref01_Number.f (k + 1) y0))
  | 0 => fun _ r h => by simp [dasdref01_Number.f] at h
  | k + 1 => by
    have ih0 := dasdref01_Number.mono_l k
    · intro y0
      unfold dasdref01_Number.f
      repeat' first
      | (with_reducible exact ih0 _)
      | (with_reducible exact LeO.refl _)
      | (with_reducible exact LeO.none _)
      | (with_reducible refine LeO.ite ?_ ?_)
      | (with_reducible refine LeO.bind ?_ (fun _ => ?_))
      | exact ih0 _
      | exact LeO.none _
      | refine LeO.ite ?_ ?_
      | refine LeO.bind ?_ (fun _ => ?_)
theorem dasdref01_Number.mono : ∀ a0 k, LeO (dasdref01_Number.f k a0) (dasdref01_Number.f (k + 1) a0) := by
  intro a0 k
  have ih0 := dasdref01_Number.mono_l k
  exact ih0 a0
def dasdref01_Number.T3 : Bool × List (List Nat × List Nat) := (true, [([], []), ([0], [0]), ([1], [1]), ([2], [2]), ([3], [3]), ([4], [4]), ([], []), ([6], [6]), ([7], [7]), ([5, 8], [5, 8]), ([9, 8, 0, 1, 2, 3, 4, 5, 6, 7, 8, 9], [9])])
def dasdref01_Number.B3 : List Nat := [0, 1, 3, 7, 15, 31, 0, 64, 192, 511, 1023]
theorem dasdref01_Number.tab3 : rtab .any (opsOf Try.f27 3) = dasdref01_Number.T3 := by kernel_rfl
theorem dasdref01_Number.bits3 : waitsOk dasdref01_Number.T3.2 dasdref01_Number.B3 = true := by kernel_rfl
set_option maxHeartbeats 8000000 in
set_option maxRecDepth 100000 in
theorem dasdref01_Number.calls (k : Nat) : ∀ (a0 : Int) (r : ByteArray) (w : World) (h : dasdref01_Number.f k a0 = some r),
    Calls Try.prog 27 #[.int .u64 a0] w fun e w' => e = .returned (.string r) ∧ Below w.heap.size w w' := by
  induction k using Nat.strongRecOn with
  | _ k ih =>
  intro a0 r w h
  cases k with
  | zero => exact absurd h (by simp [dasdref01_Number.f])
  | succ k =>
  simp only [dasdref01_Number.f] at h
  have HB := Aside0.mk (Below.refl w.heap.size w)
  have H : (if a0 < 128 then (some (strOfNums (([(a0) % 256] : List Int)))) else ((some (([(IntKind.u64.wrap ((Int.tmod a0 128) + 128)) % 256] : List Int) : List Int)).bind fun y119 => ((dasdref01_Number.f k (IntKind.u64.wrap (Int.tdiv a0 128))).bind fun t122 => (if (strOfNums y119).size + t122.size ≤ 9223372036854775807 then (some ((strOfNums y119) ++ t122)) else (none))))) = some r := h
  clear h
  by_cases c2 : a0 < 128
  · rw [if_pos c2] at H
    have c2b0 : decide (a0 < 128) = true := decide_eq_true c2
    clear c2
    obtain ⟨y116, hy116⟩ : ∃ y_ : List Int, y_ = (([(a0) % 256] : List Int)) := ⟨_, rfl⟩
    replace H : (some (strOfNums y116)) = some r := by first | (rw [hy116]; with_reducible exact H) | (have H2_ := (Option.bind_some _ _).symm.trans H; rw [hy116]; with_reducible exact H2_) | (have H2_ := (Option.bind_some _ _).symm.trans H; with_reducible exact H2_) | with_reducible exact H | (rw [hy116]; exact H) | exact H
    have Ny116 := Aside0.mk hy116
    clear hy116
    obtain rfl := Option.some.inj H
    go_enter Try.func27, Try.ntmps27
    go_wp2_with (first | ((with_reducible refine gate_dst (N := 7) rfl ?_); refine Kd.R_lit (Kd.int .u8) _ 5 ?hg (N := 7) ?hd (xs := ([(a0) % 256] : List Int)) (inner := [.int .u8 ((a0) % 256)]) (ok := fun _ => True) (okp := fun _ => True) ?hr ?hp (fun _ hk => hk) trivial (Below.refl _ _) (Nat.le_refl _) (by simp) ?_; (case hd => rfl); (case hg => rfl); (case hr => first | (go_simp; done) | (go_simp; rfl)); (case hp => exact (Reps.one (show Kd.M (Kd.int .u8) _ _ _ ((a0) % 256) [.int .u8 ((a0) % 256)] from rfl) (Reps.none _ _))); intro v117 w3 ho4 hb hg_ hnew_; clear hg_ hnew_; (first | rw [← Ny116.out] at ho4 | (simp only [Int.reduceToNat] at ho4; rw [← Ny116.out] at ho4)); have n0_ := Aside0.mk (Kd.R_lower ho4 (below_size (by repeat (first | (with_reducible first | exact HB.out | apply below_alloc | apply pw_below_drewN | apply below_drew1) | exact HB.out)))); have n1_ := Aside0.mk (below_step (by repeat (first | (with_reducible first | exact HB.out | apply below_alloc | apply pw_below_drewN | apply below_drew1) | exact HB.out)) hb); clear HB; have HO118 := n0_; have HB := n1_; clear n0_ n1_; clear hb ho4; have hcv5 := own_string (P := Try.prog) Try.underlying99 Try.underlying5 Try.underlying9 (Kd.own_of_R HO118.out)))
    go_ret
    exact ⟨by first | rfl | (simp [errW_none, errW_some] <;> rfl) | (simp [*, errW_none, errW_some] <;> rfl), by repeat (first | (with_reducible first | exact HB.out | apply below_alloc | apply pw_below_drewN | apply below_drew1) | exact HB.out)⟩
  · rw [if_neg c2] at H
    have c2b0 : decide (a0 < 128) = false := decide_eq_false c2
    clear c2
    obtain ⟨y119, hy119⟩ : ∃ y_ : List Int, y_ = (([(IntKind.u64.wrap ((Int.tmod a0 128) + 128)) % 256] : List Int)) := ⟨_, rfl⟩
    replace H : ((dasdref01_Number.f k (IntKind.u64.wrap (Int.tdiv a0 128))).bind fun t122 => (if (strOfNums y119).size + t122.size ≤ 9223372036854775807 then (some ((strOfNums y119) ++ t122)) else (none))) = some r := by first | (rw [hy119]; with_reducible exact H) | (have H2_ := (Option.bind_some _ _).symm.trans H; rw [hy119]; with_reducible exact H2_) | (have H2_ := (Option.bind_some _ _).symm.trans H; with_reducible exact H2_) | with_reducible exact H | (rw [hy119]; exact H) | exact H
    have Ny119 := Aside0.mk hy119
    clear hy119
    replace H := Option.bind_eq_some_iff.mp H
    obtain ⟨t122, A60, H⟩ := H
    replace H : (if (strOfNums y119).size + t122.size ≤ 9223372036854775807 then (some ((strOfNums y119) ++ t122)) else (none)) = some r := H
    have A6 := Aside0.mk A60
    clear A60
    by_cases c7 : (strOfNums y119).size + t122.size ≤ 9223372036854775807
    · rw [if_pos c7] at H
      have c7b0 := eq_true c7
      have c7b1 : decide ((strOfNums y119).size + t122.size ≤ 9223372036854775807) = true := decide_eq_true c7
      try have c7b2 : (9223372036854775807 < (strOfNums y119).size + t122.size) = False := eq_false (Nat.not_lt.2 c7)
      obtain rfl := Option.some.inj H
      go_enter Try.func27, Try.ntmps27
      try go_wp2
      have n0_ := Aside0.mk (below_drew1 HB.out)
      clear HB
      have HB := n0_
      clear n0_
      refine start_ (n := 11) (S := fun w' => True) (ds := []) #[false, false, false, false, false, false, false, false, false, false, false] (by kernel_rfl) rfl rfl trivial (fun hHeld => ?_); refine with_tabW dasdref01_Number.tab3 dasdref01_Number.bits3 (fun HT_ HW_ => ?_)
      generalize w.drew = w8 at HB hHeld ⊢
      refine pure_ (i := 0) (N := some 9) (v := ?_) (a' := ?_) #[true, false, false, false, false, false, false, false, false, false, false] rfl rfl (any_of HT_.out (by kernel_rfl)) (fun _ _ _ h => h) (Or.inl ⟨by rfl, ?_⟩) ?_ ?_
      rotate_left
      · intro w'
        go_simp
        with_reducible rfl
      rotate_left
      · simp only [Act.put, List.setIfInBounds_toArray, List.set_cons_zero, List.set_cons_succ, i64_w, i32_w]
        rfl
      refine pure_ (i := 1) (N := some 10) (v := ?_) (a' := ?_) #[true, true, false, false, false, false, false, false, false, false, false] rfl rfl (any_of HT_.out (by kernel_rfl)) (fun _ _ _ h => h) (Or.inl ⟨by rfl, ?_⟩) ?_ ?_
      rotate_left
      · intro w'
        go_simp
        with_reducible rfl
      rotate_left
      · simp only [Act.put, List.setIfInBounds_toArray, List.set_cons_zero, List.set_cons_succ, i64_w, i32_w]
        rfl
      refine pure_ (i := 2) (N := some 11) (v := ?_) (a' := ?_) #[true, true, true, false, false, false, false, false, false, false, false] rfl rfl (any_of HT_.out (by kernel_rfl)) (fun _ _ _ h => h) (Or.inl ⟨by rfl, ?_⟩) ?_ ?_
      rotate_left
      · intro w'
        go_simp
        with_reducible rfl
      rotate_left
      · simp only [Act.put, List.setIfInBounds_toArray, List.set_cons_zero, List.set_cons_succ, i64_w, i32_w]
        rfl
      refine pure_ (i := 3) (N := some 12) (v := ?_) (a' := ?_) #[true, true, true, true, false, false, false, false, false, false, false] rfl rfl (any_of HT_.out (by kernel_rfl)) (fun _ _ _ h => h) (Or.inl ⟨by rfl, ?_⟩) ?_ ?_
      rotate_left
      · intro w'
        go_simp
        with_reducible rfl
      rotate_left
      · simp only [Act.put, List.setIfInBounds_toArray, List.set_cons_zero, List.set_cons_succ, i64_w, i32_w]
        rfl
      refine pure_ (i := 6) (N := some 15) (v := ?_) (a' := ?_) #[true, true, true, true, false, false, true, false, false, false, false] rfl rfl (any_of HT_.out (by kernel_rfl)) (fun _ _ _ h => h) (Or.inl ⟨by rfl, ?_⟩) ?_ ?_
      rotate_left
      · intro w'
        go_simp
        with_reducible rfl
      rotate_left
      · simp only [Act.put, List.setIfInBounds_toArray, List.set_cons_zero, List.set_cons_succ, i64_w, i32_w]
        rfl
      refine pure_ (i := 7) (N := some 16) (v := ?_) (a' := ?_) #[true, true, true, true, false, false, true, true, false, false, false] rfl rfl (any_of HT_.out (by kernel_rfl)) (fun _ _ _ h => h) (Or.inl ⟨by rfl, ?_⟩) ?_ ?_
      rotate_left
      · intro w'
        go_simp
        with_reducible rfl
      rotate_left
      · simp only [Act.put, List.setIfInBounds_toArray, List.set_cons_zero, List.set_cons_succ, i64_w, i32_w]
        rfl
      refine join_ (σ := Value) 2 #[true, true, true, true, true, true, true, true, true, false, false] (fun s_ => [(13, s_), (14, .string (strOfNums y119)), (17, .string t122)]) (fun s_ w' => (Kd.R (Kd.int .u8) 5 w' w.heap.size (fun _ => True) s_ y119) ∧ (Below w.heap.size w w')) ?_ ?_
      rotate_left
      · intro hCont
        refine two_ (i := 4) (j := 8) (Ni := some 13) (Nj := some 17) #[true, true, true, true, true, false, true, true, false, false, false] #[true, true, true, true, false, false, true, true, true, false, false] rfl rfl rfl rfl (two_of HT_.out (by kernel_rfl)) (by decide) (by decide) (fun K hK => ?_) (fun K hK => ?_)
        · skip
          refine Kd.R_lit_step (Kd.int .u8) _ 5 ?hg (N := 13) ?hd (xs := ([(IntKind.u64.wrap ((Int.tmod a0 128) + 128)) % 256] : List Int)) (inner := [.int .u8 ((IntKind.u64.wrap ((Int.tmod a0 128) + 128)) % 256)]) (ok := fun _ => True) (okp := fun _ => True) ?hr ?hp (fun _ hk => hk) trivial (Below.refl _ _) (Nat.le_refl _) (by simp) ?_; (case hd => rfl); (case hg => rfl); (case hr => first | (go_simp; done) | (go_simp; rfl)); (case hp => exact (Reps.one (show Kd.M (Kd.int .u8) _ _ _ ((IntKind.u64.wrap ((Int.tmod a0 128) + 128)) % 256) [.int .u8 ((IntKind.u64.wrap ((Int.tmod a0 128) + 128)) % 256)] from rfl) (Reps.none _ _)))
          intro v120 w9 ho10 hb hg_ hnew_
          clear hg_ hnew_
          (first | rw [← Ny119.out] at ho10 | (simp only [Int.reduceToNat] at ho10; rw [← Ny119.out] at ho10))
          have n0_ := Aside0.mk (Kd.R_lower ho10 (below_size (by repeat (first | (with_reducible first | exact HB.out | apply below_alloc | apply pw_below_drewN | apply below_drew1) | exact HB.out))))
          have n1_ := Aside0.mk (below_step (by repeat (first | (with_reducible first | exact HB.out | apply below_alloc | apply pw_below_drewN | apply below_drew1) | exact HB.out)) hb)
          clear HB
          have HO121 := n0_
          have HB := n1_
          clear n0_ n1_
          clear hb ho10
          refine hK.out _ _ trivial (fun hHeld => ?_)
          clear hK K
          refine norm_ (a' := ?_) ?_ ?_
          rotate_left
          · show Act.put _ (some 13) _ = _
            simp only [Act.put, List.setIfInBounds_toArray, List.set_cons_zero, List.set_cons_succ, i64_w, i32_w]
            rfl
          refine two_ (i := 5) (j := 8) (Ni := some 14) (Nj := some 17) #[true, true, true, true, true, true, true, true, false, false, false] #[true, true, true, true, true, false, true, true, true, false, false] rfl rfl rfl rfl (two_of HT_.out (by kernel_rfl)) (by decide) (by decide) (fun K hK => ?_) (fun K hK => ?_)
          · skip
            have hcv11 := own_string (P := Try.prog) Try.underlying99 Try.underlying5 Try.underlying9 (Kd.own_of_R HO121.out)
            refine value_ (w1 := ?_) (v := ?_) (by rfl) rfl ?_ ?_
            rotate_left 2
            · go_simp
              constructor
              · rfl
              · rfl
            clear hcv11
            refine hK.out _ _ trivial (fun hHeld => ?_)
            clear hK K
            refine norm_ (a' := ?_) ?_ ?_
            rotate_left
            · show Act.put _ (some 14) _ = _
              simp only [Act.put, List.setIfInBounds_toArray, List.set_cons_zero, List.set_cons_succ, i64_w, i32_w]
              rfl
            refine one_ (i := 8) (N := some 17) #[true, true, true, true, true, true, true, true, true, false, false] rfl rfl (one_of HT_.out (by kernel_rfl)) (by decide) (fun K hK => ?_)
            refine goes_ Try.func27 (by kernel_rfl) rfl #[.int .u64 (IntKind.u64.wrap (Int.tdiv a0 128))] (by rfl) rfl rfl (by (try simp only [List.map_toArray, List.map_cons, List.map_nil]); first | done | rfl | (simp only [List.length_drop, List.length_take]; rfl)) ?_
            with_reducible refine (ih k (by omega) (IntKind.u64.wrap (Int.tdiv a0 128)) t122 _ A6.out).mono ?_
            rintro e w12 ⟨rfl, hb⟩
            refine ⟨_, rfl, ?_⟩
            have n0_ := Aside0.mk (Kd.R_below (by (with_reducible repeat (first | apply Kd.R_alloc | apply Kd.R_drewN | apply Kd.R_drew)); exact HO121.out) hb)
            have n1_ := Aside0.mk (below_step (by repeat (first | (with_reducible first | exact HB.out | apply below_alloc | apply pw_below_drewN | apply below_drew1) | exact HB.out)) hb)
            clear HO121
            clear HB
            have HO121 := n0_
            have HB := n1_
            clear n0_ n1_
            (try clear hb)
            (try clear hb2)
            (try clear hk)
            (try clear hi)
            refine hK.out _ _ trivial (fun hHeld => ?_)
            clear hK K
            refine norm_ (a' := ?_) ?_ ?_
            rotate_left
            · show Act.put _ (some 17) _ = _
              simp only [Act.put, List.setIfInBounds_toArray, List.set_cons_zero, List.set_cons_succ, i64_w, i32_w]
              rfl
            exact norm_ (by simp only [putAll, Act.put, List.setIfInBounds_toArray, List.set_cons_zero, List.set_cons_succ]) (hCont (v120) _ ⟨(by (with_reducible repeat (first | apply Kd.R_alloc | apply Kd.R_drewN | apply Kd.R_drew)); exact HO121.out), (by repeat (first | (with_reducible first | exact HB.out | apply below_alloc | apply pw_below_drewN | apply below_drew1) | exact HB.out))⟩)
          · skip
            refine goes_ Try.func27 (by kernel_rfl) rfl #[.int .u64 (IntKind.u64.wrap (Int.tdiv a0 128))] (by rfl) rfl rfl (by (try simp only [List.map_toArray, List.map_cons, List.map_nil]); first | done | rfl | (simp only [List.length_drop, List.length_take]; rfl)) ?_
            with_reducible refine (ih k (by omega) (IntKind.u64.wrap (Int.tdiv a0 128)) t122 _ A6.out).mono ?_
            rintro e w11 ⟨rfl, hb⟩
            refine ⟨_, rfl, ?_⟩
            have n0_ := Aside0.mk (Kd.R_below (by (with_reducible repeat (first | apply Kd.R_alloc | apply Kd.R_drewN | apply Kd.R_drew)); exact HO121.out) hb)
            have n1_ := Aside0.mk (below_step (by repeat (first | (with_reducible first | exact HB.out | apply below_alloc | apply pw_below_drewN | apply below_drew1) | exact HB.out)) hb)
            clear HO121
            clear HB
            have HO121 := n0_
            have HB := n1_
            clear n0_ n1_
            (try clear hb)
            (try clear hb2)
            (try clear hk)
            (try clear hi)
            refine hK.out _ _ trivial (fun hHeld => ?_)
            clear hK K
            refine norm_ (a' := ?_) ?_ ?_
            rotate_left
            · show Act.put _ (some 17) _ = _
              simp only [Act.put, List.setIfInBounds_toArray, List.set_cons_zero, List.set_cons_succ, i64_w, i32_w]
              rfl
            refine one_ (i := 5) (N := some 14) #[true, true, true, true, true, true, true, true, true, false, false] rfl rfl (one_of HT_.out (by kernel_rfl)) (by decide) (fun K hK => ?_)
            have hcv12 := own_string (P := Try.prog) Try.underlying99 Try.underlying5 Try.underlying9 (Kd.own_of_R HO121.out)
            refine value_ (w1 := ?_) (v := ?_) (by rfl) rfl ?_ ?_
            rotate_left 2
            · go_simp
              constructor
              · rfl
              · rfl
            clear hcv12
            refine hK.out _ _ trivial (fun hHeld => ?_)
            clear hK K
            refine norm_ (a' := ?_) ?_ ?_
            rotate_left
            · show Act.put _ (some 14) _ = _
              simp only [Act.put, List.setIfInBounds_toArray, List.set_cons_zero, List.set_cons_succ, i64_w, i32_w]
              rfl
            exact norm_ (by simp only [putAll, Act.put, List.setIfInBounds_toArray, List.set_cons_zero, List.set_cons_succ]) (hCont (v120) _ ⟨(by (with_reducible repeat (first | apply Kd.R_alloc | apply Kd.R_drewN | apply Kd.R_drew)); exact HO121.out), (by repeat (first | (with_reducible first | exact HB.out | apply below_alloc | apply pw_below_drewN | apply below_drew1) | exact HB.out))⟩)
        · skip
          refine goes_ Try.func27 (by kernel_rfl) rfl #[.int .u64 (IntKind.u64.wrap (Int.tdiv a0 128))] (by rfl) rfl rfl (by (try simp only [List.map_toArray, List.map_cons, List.map_nil]); first | done | rfl | (simp only [List.length_drop, List.length_take]; rfl)) ?_
          with_reducible refine (ih k (by omega) (IntKind.u64.wrap (Int.tdiv a0 128)) t122 _ A6.out).mono ?_
          rintro e w9 ⟨rfl, hb⟩
          refine ⟨_, rfl, ?_⟩
          have n0_ := Aside0.mk (below_step (by repeat (first | (with_reducible first | exact HB.out | apply below_alloc | apply pw_below_drewN | apply below_drew1) | exact HB.out)) hb)
          clear HB
          have HB := n0_
          clear n0_
          (try clear hb)
          (try clear hb2)
          (try clear hk)
          (try clear hi)
          refine hK.out _ _ trivial (fun hHeld => ?_)
          clear hK K
          refine norm_ (a' := ?_) ?_ ?_
          rotate_left
          · show Act.put _ (some 17) _ = _
            simp only [Act.put, List.setIfInBounds_toArray, List.set_cons_zero, List.set_cons_succ, i64_w, i32_w]
            rfl
          refine one_ (i := 4) (N := some 13) #[true, true, true, true, true, false, true, true, true, false, false] rfl rfl (one_of HT_.out (by kernel_rfl)) (by decide) (fun K hK => ?_)
          refine Kd.R_lit_step (Kd.int .u8) _ 5 ?hg (N := 13) ?hd (xs := ([(IntKind.u64.wrap ((Int.tmod a0 128) + 128)) % 256] : List Int)) (inner := [.int .u8 ((IntKind.u64.wrap ((Int.tmod a0 128) + 128)) % 256)]) (ok := fun _ => True) (okp := fun _ => True) ?hr ?hp (fun _ hk => hk) trivial (Below.refl _ _) (Nat.le_refl _) (by simp) ?_; (case hd => rfl); (case hg => rfl); (case hr => first | (go_simp; done) | (go_simp; rfl)); (case hp => exact (Reps.one (show Kd.M (Kd.int .u8) _ _ _ ((IntKind.u64.wrap ((Int.tmod a0 128) + 128)) % 256) [.int .u8 ((IntKind.u64.wrap ((Int.tmod a0 128) + 128)) % 256)] from rfl) (Reps.none _ _)))
          intro v120 w10 ho11 hb hg_ hnew_
          clear hg_ hnew_
          (first | rw [← Ny119.out] at ho11 | (simp only [Int.reduceToNat] at ho11; rw [← Ny119.out] at ho11))
          have n0_ := Aside0.mk (Kd.R_lower ho11 (below_size (by repeat (first | (with_reducible first | exact HB.out | apply below_alloc | apply pw_below_drewN | apply below_drew1) | exact HB.out))))
          have n1_ := Aside0.mk (below_step (by repeat (first | (with_reducible first | exact HB.out | apply below_alloc | apply pw_below_drewN | apply below_drew1) | exact HB.out)) hb)
          clear HB
          have HO121 := n0_
          have HB := n1_
          clear n0_ n1_
          clear hb ho11
          refine hK.out _ _ trivial (fun hHeld => ?_)
          clear hK K
          refine norm_ (a' := ?_) ?_ ?_
          rotate_left
          · show Act.put _ (some 13) _ = _
            simp only [Act.put, List.setIfInBounds_toArray, List.set_cons_zero, List.set_cons_succ, i64_w, i32_w]
            rfl
          refine one_ (i := 5) (N := some 14) #[true, true, true, true, true, true, true, true, true, false, false] rfl rfl (one_of HT_.out (by kernel_rfl)) (by decide) (fun K hK => ?_)
          have hcv12 := own_string (P := Try.prog) Try.underlying99 Try.underlying5 Try.underlying9 (Kd.own_of_R HO121.out)
          refine value_ (w1 := ?_) (v := ?_) (by rfl) rfl ?_ ?_
          rotate_left 2
          · go_simp
            constructor
            · rfl
            · rfl
          clear hcv12
          refine hK.out _ _ trivial (fun hHeld => ?_)
          clear hK K
          refine norm_ (a' := ?_) ?_ ?_
          rotate_left
          · show Act.put _ (some 14) _ = _
            simp only [Act.put, List.setIfInBounds_toArray, List.set_cons_zero, List.set_cons_succ, i64_w, i32_w]
            rfl
          exact norm_ (by simp only [putAll, Act.put, List.setIfInBounds_toArray, List.set_cons_zero, List.set_cons_succ]) (hCont (v120) _ ⟨(by (with_reducible repeat (first | apply Kd.R_alloc | apply Kd.R_drewN | apply Kd.R_drew)); exact HO121.out), (by repeat (first | (with_reducible first | exact HB.out | apply below_alloc | apply pw_below_drewN | apply below_drew1) | exact HB.out))⟩)
      rintro v120 w13 ⟨h0_, h1_⟩
      have n0_ : Aside0 (Kd.R (Kd.int .u8) 5 w13 w.heap.size (fun _ => True) v120 y119) := ⟨h0_⟩
      have n1_ : Aside0 (Below w.heap.size w w13) := ⟨h1_⟩
      clear HB
      clear h0_ h1_
      have HO121 := n0_
      have HB := n1_
      clear n0_ n1_
      have hHeld := trivial
      refine norm_ (a' := ?_) ?_ ?_
      rotate_left
      · simp only [putAll, Act.put, List.setIfInBounds_toArray, List.set_cons_zero, List.set_cons_succ]
        rfl
      refine pure_ (i := 9) (N := some 18) (v := ?_) (a' := ?_) #[true, true, true, true, true, true, true, true, true, true, false] rfl rfl (any_of HT_.out (by kernel_rfl)) (fun _ _ _ h => h) (Or.inl ⟨by rfl, ?_⟩) ?_ ?_
      rotate_left
      · intro w'
        go_simp
        with_reducible rfl
      rotate_left
      · simp only [Act.put, List.setIfInBounds_toArray, List.set_cons_zero, List.set_cons_succ, i64_w, i32_w]
        rfl
      refine pure_ (i := 10) (N := some 2) (v := ?_) (a' := ?_) #[true, true, true, true, true, true, true, true, true, true, true] rfl rfl (any_of HT_.out (by kernel_rfl)) (fun _ _ _ h => h) (Or.inl ⟨by rfl, ?_⟩) ?_ ?_
      rotate_left
      · intro w'
        go_simp
        with_reducible rfl
      rotate_left
      · simp only [Act.put, List.setIfInBounds_toArray, List.set_cons_zero, List.set_cons_succ, i64_w, i32_w]
        rfl
      refine done_ (done_of HT_.out (by kernel_rfl)) ?_
      try go_wp2
      go_ret
      exact ⟨by first | rfl | (simp [errW_none, errW_some] <;> rfl) | (simp [*, errW_none, errW_some] <;> rfl), by repeat (first | (with_reducible first | exact HB.out | apply below_alloc | apply pw_below_drewN | apply below_drew1) | exact HB.out)⟩
    · rw [if_neg c7] at H
      exact absurd H (by simp)

end Go.Proofs.Ytegefemkmdlmaaa.P
end
section
-- Printed by a program of this session (hand.py) out of the translation. Lean checks it.
namespace Go.Proofs.Ytegefemkmdlmaaa.P
open Go.RowKit Go.Proofs.YtegefemkmdlmaaaW.PrintWords Go.Proofs.YtegefemkmdlmaaaW.PrintLast Go.Proofs.YtegefemkmdlmaaaW.PrintMore
attribute [local go_sem] max2_int min2_int max_two min_two max_three min_three max_four min_four   -- for this text's walks alone
set_option linter.unusedVariables false
set_option linter.unusedSimpArgs false

/-! ### dasdref01_Text: function 33 -/
def dasdref01_Text.f (k : Nat) (a0 : ByteArray) : Option (ByteArray) := (dasdref01_Number.f k (IntKind.u64.wrap ((a0.size : Int)))).bind fun t132 => (if t132.size + a0.size ≤ 9223372036854775807 then (some (t132 ++ a0)) else (none))
theorem dasdref01_Text.mono : ∀ a0 k, LeO (dasdref01_Text.f k a0) (dasdref01_Text.f (k + 1) a0) := by
  intro a0 k
  unfold dasdref01_Text.f
  repeat' first
      | (with_reducible exact dasdref01_Number.mono _ _)
      | (with_reducible exact LeO.refl _)
      | (with_reducible exact LeO.none _)
      | (with_reducible refine LeO.ite ?_ ?_)
      | (with_reducible refine LeO.bind ?_ (fun _ => ?_))
      | exact dasdref01_Number.mono _ _
      | exact LeO.none _
      | refine LeO.ite ?_ ?_
      | refine LeO.bind ?_ (fun _ => ?_)
set_option maxHeartbeats 8000000 in
set_option maxRecDepth 100000 in
theorem dasdref01_Text.calls (k : Nat) (a0 : ByteArray) (r : ByteArray) (w : World) (h : dasdref01_Text.f k a0 = some r) :
    Calls Try.prog 33 #[.string a0] w fun e w' => e = .returned (.string r) ∧ Below w.heap.size w w' := by
  have HB := Aside0.mk (Below.refl w.heap.size w)
  have H : ((dasdref01_Number.f k (IntKind.u64.wrap ((a0.size : Int)))).bind fun t132 => (if t132.size + a0.size ≤ 9223372036854775807 then (some (t132 ++ a0)) else (none))) = some r := h
  clear h
  replace H := Option.bind_eq_some_iff.mp H
  obtain ⟨t132, A20, H⟩ := H
  replace H : (if t132.size + a0.size ≤ 9223372036854775807 then (some (t132 ++ a0)) else (none)) = some r := H
  have A2 := Aside0.mk A20
  clear A20
  by_cases c3 : t132.size + a0.size ≤ 9223372036854775807
  · rw [if_pos c3] at H
    have c3b0 := eq_true c3
    have c3b1 : decide (t132.size + a0.size ≤ 9223372036854775807) = true := decide_eq_true c3
    try have c3b2 : (9223372036854775807 < t132.size + a0.size) = False := eq_false (Nat.not_lt.2 c3)
    obtain rfl := Option.some.inj H
    have A2_ := Aside0.mk (by have z_ := A2.out; rwa [show IntKind.u64.wrap (a0.size : Int) = a0.size from by simp [IntKind.wrap, IntKind.bits, IntKind.signed]; omega] at z_)
    go_enter Try.func33, Try.ntmps33
    go_wp2_with (first | ((with_reducible refine gate_callee (f := 27) rfl ?_); refine goesL_ (some 6) rfl rfl Try.func27 (by kernel_rfl) rfl #[.int .u64 ((a0.size : Int))] rfl (by (try simp only [List.map_toArray, List.map_cons, List.map_nil]); first | done | rfl | (simp only [List.length_drop, List.length_take]; rfl)) ?_; (with_reducible refine (dasdref01_Number.calls k ((a0.size : Int)) t132 _ A2_.out).mono ?_); rintro e w4 ⟨rfl, hb⟩; refine ⟨_, rfl, ?_⟩; have n0_ := Aside0.mk (below_step (by repeat (first | (with_reducible first | exact HB.out | apply below_alloc | apply pw_below_drewN | apply below_drew1) | exact HB.out)) hb); clear HB; have HB := n0_; clear n0_; (try clear hb); (try clear hb2); (try clear hk); (try clear hi)))
    go_ret
    exact ⟨by first | rfl | (simp [errW_none, errW_some] <;> rfl) | (simp [*, errW_none, errW_some] <;> rfl), by repeat (first | (with_reducible first | exact HB.out | apply below_alloc | apply pw_below_drewN | apply below_drew1) | exact HB.out)⟩
  · rw [if_neg c3] at H
    exact absurd H (by simp)

end Go.Proofs.Ytegefemkmdlmaaa.P
end
section
-- Printed by a program of this session (hand.py) out of the translation. Lean checks it.
namespace Go.Proofs.Ytegefemkmdlmaaa.P
open Go.RowKit Go.Proofs.YtegefemkmdlmaaaW.PrintWords Go.Proofs.YtegefemkmdlmaaaW.PrintLast Go.Proofs.YtegefemkmdlmaaaW.PrintMore
attribute [local go_sem] max2_int min2_int max_two min_two max_three min_three max_four min_four   -- for this text's walks alone
set_option linter.unusedVariables false
set_option linter.unusedSimpArgs false

/-! ### wire_AppendInt: function 28 -/
def wire_AppendInt.f (a0 : ByteArray) (a1 : Int) : Option (ByteArray) := (wire_AppendNumber.f a0 (Go.bits .xor .u64 (IntKind.u64.wrap ((IntKind.u64.wrap (a1)) * 2)) (IntKind.u64.wrap (a1 / 9223372036854775808)))).bind fun t101 => (some t101)
set_option maxHeartbeats 8000000 in
set_option maxRecDepth 100000 in
theorem wire_AppendInt.calls (a0 : ByteArray) (a1 : Int) (r : ByteArray) (w : World) (h : wire_AppendInt.f a0 a1 = some r) :
    Calls Try.prog 28 #[.string a0, .int .i64 a1] w fun e w' => e = .returned (.string r) ∧ Below w.heap.size w w' := by
  have HB := Aside0.mk (Below.refl w.heap.size w)
  have H : ((wire_AppendNumber.f a0 (Go.bits .xor .u64 (IntKind.u64.wrap ((IntKind.u64.wrap (a1)) * 2)) (IntKind.u64.wrap (a1 / 9223372036854775808)))).bind fun t101 => (some t101)) = some r := h
  clear h
  replace H := Option.bind_eq_some_iff.mp H
  obtain ⟨t101, A30, H⟩ := H
  replace H : (some t101) = some r := H
  have A3 := Aside0.mk A30
  clear A30
  obtain rfl := Option.some.inj H
  go_enter Try.func28, Try.ntmps28
  go_wp2_with (first | ((with_reducible refine gate_callee (f := 26) rfl ?_); refine goesL_ (some 13) rfl rfl Try.func26 (by kernel_rfl) rfl #[.string a0, .int .u64 (Go.bits .xor .u64 (IntKind.u64.wrap ((IntKind.u64.wrap (a1)) * 2)) (IntKind.u64.wrap (a1 / 9223372036854775808)))] rfl (by (try simp only [List.map_toArray, List.map_cons, List.map_nil]); first | done | rfl | (simp only [List.length_drop, List.length_take]; rfl)) ?_; (with_reducible refine (wire_AppendNumber.calls a0 (Go.bits .xor .u64 (IntKind.u64.wrap ((IntKind.u64.wrap (a1)) * 2)) (IntKind.u64.wrap (a1 / 9223372036854775808))) t101 _ A3.out).mono ?_); rintro e w4 ⟨rfl, hb⟩; refine ⟨_, rfl, ?_⟩; have n0_ := Aside0.mk (below_step (by repeat (first | (with_reducible first | exact HB.out | apply below_alloc | apply pw_below_drewN | apply below_drew1) | exact HB.out)) hb); clear HB; have HB := n0_; clear n0_; (try clear hb); (try clear hb2); (try clear hk); (try clear hi)))
  go_ret
  exact ⟨by first | rfl | (simp [errW_none, errW_some] <;> rfl) | (simp [*, errW_none, errW_some] <;> rfl), by repeat (first | (with_reducible first | exact HB.out | apply below_alloc | apply pw_below_drewN | apply below_drew1) | exact HB.out)⟩

end Go.Proofs.Ytegefemkmdlmaaa.P
end
section
/- The contract of wire_Reader_End. -/
namespace Go.Proofs.Ytegefemkmdlmaaa.P
open Go.RowKit Go.Proofs.YtegefemkmdlmaaaW.PrintWords Go.Proofs.YtegefemkmdlmaaaW.PrintLast Go.Proofs.YtegefemkmdlmaaaW.PrintMore
set_option linter.unusedVariables false
set_option linter.unusedSimpArgs false
theorem open_end (s : ByteArray) : ((!s.toList.isEmpty) = true → s.size ≠ 0) ∧ ((!s.toList.isEmpty) = false → s.size = 0) := by
  have e : s.toList.isEmpty = decide (s.size = 0) := by
    rw [ByteArray.toList_eq]
    obtain ⟨⟨l⟩⟩ := s
    cases l with
    | nil => rfl
    | cons a l => simp [ByteArray.size]
  rw [e]
  simp
set_option maxRecDepth 100000 in
set_option maxHeartbeats 2000000 in
theorem wire_Reader_End.calls (g : Nat) (s0_0 : ByteArray) (s0_1 : Int) (r1 : Int) (r2 : ByteArray) (r3 : Int) (w0 w : World) (hI : IsS110 w0 w g s0_0 s0_1) (hB : Below w0.heap.size w0 w) (h : wire_Reader_End.f s0_0 s0_1 = some (r1, r2, r3)) :
    Calls Try.prog 65 #[.pointer (some ⟨g, 0, none⟩)] w fun e w' => e = .returned (.int .i64 r1) ∧ IsS110 w0 w' g r2 r3 ∧ Below w0.heap.size w0 w' ∧ KeepBut w w' g none := by
  simp only [wire_Reader_End.f, Option.some.injEq, Prod.mk.injEq] at h
  obtain ⟨he, rfl, rfl⟩ := h
  have HE := Aside0.mk he
  clear he
  have hmf : ∀ (fn : Fn) (first cap : Array Value) (w : World), (Instr.makeFunc fn first cap).run Try.prog w = .ok (.func fn first cap) w := fun _ _ _ _ => rfl
  have HI0 := Aside0.mk hI
  have HK := Aside0.mk (KeepBut.refl w g none)
  clear hI
  have HB := Aside0.mk hB
  clear hB
  obtain ⟨HGz4, hgz4⟩ := HI0.out
  have hcz4_0 := cellS110_0 HGz4
  have hcz4_1 := cellS110_1 HGz4
  clear HGz4 hgz4
  by_cases h0 : s0_1 = 0
  · have c1 : (s0_1 == 0) = true := beq_iff_eq.mpr h0
    have c2 : (s0_1 != 0) = false := bne_eq_false_iff_eq.mpr h0
    have H0 := Aside0.mk h0
    clear h0
    go_enter Try.func65, Try.ntmps65
    go_wp2
    · have hs : (!s0_0.toList.isEmpty) = true := by assumption
      have hz := (open_end s0_0).1 hs
      have he := HE.out
      rw [if_pos ⟨H0.out, hz⟩] at he
      subst he
      go_ret
      exact ⟨rfl, HI0.out, HB.out, HK.out⟩
    · have hs : (!s0_0.toList.isEmpty) = false := by assumption
      have hz := (open_end s0_0).2 hs
      have he := HE.out
      rw [if_neg (fun h => h.2 hz)] at he
      subst he
      go_ret
      exact ⟨rfl, HI0.out, HB.out, HK.out⟩
  · have c1 : (s0_1 == 0) = false := beq_eq_false_iff_ne.mpr h0
    have c2 : (s0_1 != 0) = true := bne_iff_ne.mpr h0
    have he := HE.out
    rw [if_neg (fun h => h0 h.1)] at he
    clear h0 HE
    subst he
    go_enter Try.func65, Try.ntmps65
    go_wp2
    go_ret
    exact ⟨rfl, HI0.out, HB.out, HK.out⟩
end Go.Proofs.Ytegefemkmdlmaaa.P
end
section
-- Printed by a program of this session (hand.py) out of the translation. Lean checks it.
namespace Go.Proofs.Ytegefemkmdlmaaa.P
open Go.RowKit Go.Proofs.YtegefemkmdlmaaaW.PrintWords Go.Proofs.YtegefemkmdlmaaaW.PrintLast Go.Proofs.YtegefemkmdlmaaaW.PrintMore
attribute [local go_sem] max2_int min2_int max_two min_two max_three min_three max_four min_four   -- for this text's walks alone
set_option linter.unusedVariables false
set_option linter.unusedSimpArgs false

/-! ### dasdlaw01_awake: function 25 -/
def dasdlaw01_awake.j0 : Nat → Bool → Option (Bool)
  | 0, _ => none
  | k + 1, x15 => if x15 = true then (some false) else ((wire_NewReader.f (⟨#[128, 0]⟩ : ByteArray)).bind fun bt107 => ((wire_Reader_Number.f bt107.1 bt107.2).bind fun bt110 => (if bt110.1 = 0 then ((wire_Reader_End.f bt110.2.1 bt110.2.2).bind fun bt113 => (some (bt113.1 == 11))) else (some false))))
def dasdlaw01_awake.f (k : Nat)  : Option (Bool) := (wire_AppendNumber.f (⟨#[120]⟩ : ByteArray) 0).bind fun t103 => (if t103.toList = ([120, 0] : List UInt8) then ((wire_AppendNumber.f (⟨#[]⟩ : ByteArray) 127).bind fun t104 => (if t104.toList = ([127] : List UInt8) then ((wire_AppendNumber.f (⟨#[]⟩ : ByteArray) 300).bind fun t105 => (if t105.toList = ([172, 2] : List UInt8) then ((wire_AppendInt.f (⟨#[]⟩ : ByteArray) (-3)).bind fun t106 => (dasdlaw01_awake.j0 k (t106.toList != ([5] : List UInt8)))) else (dasdlaw01_awake.j0 k true))) else (dasdlaw01_awake.j0 k true))) else (dasdlaw01_awake.j0 k true))
theorem dasdlaw01_awake.mono_l : ∀ k, (∀ y0, LeO (dasdlaw01_awake.j0 k y0) (dasdlaw01_awake.j0 (k + 1) y0))
  | 0 => fun _ r h => by simp [dasdlaw01_awake.j0] at h
  | k + 1 => by
    have ih0 := dasdlaw01_awake.mono_l k
    · intro y0
      unfold dasdlaw01_awake.j0
      repeat' first
      | (with_reducible exact ih0 _)
      | (with_reducible exact LeO.refl _)
      | (with_reducible exact LeO.none _)
      | (with_reducible refine LeO.ite ?_ ?_)
      | (with_reducible refine LeO.bind ?_ (fun _ => ?_))
      | exact ih0 _
      | exact LeO.none _
      | refine LeO.ite ?_ ?_
      | refine LeO.bind ?_ (fun _ => ?_)
theorem dasdlaw01_awake.mono : ∀ k, LeO (dasdlaw01_awake.f k ) (dasdlaw01_awake.f (k + 1) ) := by
  intro  k
  have ih0 := dasdlaw01_awake.mono_l k
  unfold dasdlaw01_awake.f
  repeat' first
      | (with_reducible exact ih0 _)
      | (with_reducible exact LeO.refl _)
      | (with_reducible exact LeO.none _)
      | (with_reducible refine LeO.ite ?_ ?_)
      | (with_reducible refine LeO.bind ?_ (fun _ => ?_))
      | exact ih0 _
      | exact LeO.none _
      | refine LeO.ite ?_ ?_
      | refine LeO.bind ?_ (fun _ => ?_)
set_option maxHeartbeats 8000000 in
set_option maxRecDepth 100000 in
theorem dasdlaw01_awake.calls (k : Nat)  (r : Bool) (w : World) (h : dasdlaw01_awake.f k  = some r) :
    Calls Try.prog 25 #[] w fun e w' => e = .returned (.bool r) ∧ Below w.heap.size w w' := by
  have HB := Aside0.mk (Below.refl w.heap.size w)
  have H : ((wire_AppendNumber.f (⟨#[120]⟩ : ByteArray) 0).bind fun t103 => (if t103.toList = ([120, 0] : List UInt8) then ((wire_AppendNumber.f (⟨#[]⟩ : ByteArray) 127).bind fun t104 => (if t104.toList = ([127] : List UInt8) then ((wire_AppendNumber.f (⟨#[]⟩ : ByteArray) 300).bind fun t105 => (if t105.toList = ([172, 2] : List UInt8) then ((wire_AppendInt.f (⟨#[]⟩ : ByteArray) (-3)).bind fun t106 => (dasdlaw01_awake.j0 k (t106.toList != ([5] : List UInt8)))) else (dasdlaw01_awake.j0 k true))) else (dasdlaw01_awake.j0 k true))) else (dasdlaw01_awake.j0 k true))) = some r := h
  clear h
  have HC1 := Aside0.mk H
  clear H
  go_enter Try.func25, Try.ntmps25
  go_upto_region 1 with (fail)
  go_cut [15] (fun v15 wc => ∃ (kq : Nat) (x15_0 : Bool), v15 = .bool x15_0 ∧ Aside0 (dasdlaw01_awake.j0 kq x15_0 = some r) ∧ Aside0 (kq ≤ k) ∧ Aside0 (Below w.heap.size w wc))
  case first =>
    have H := HC1.out
    clear HC1
    replace H := Option.bind_eq_some_iff.mp H
    obtain ⟨t103, A20, H⟩ := H
    replace H : (if t103.toList = ([120, 0] : List UInt8) then ((wire_AppendNumber.f (⟨#[]⟩ : ByteArray) 127).bind fun t104 => (if t104.toList = ([127] : List UInt8) then ((wire_AppendNumber.f (⟨#[]⟩ : ByteArray) 300).bind fun t105 => (if t105.toList = ([172, 2] : List UInt8) then ((wire_AppendInt.f (⟨#[]⟩ : ByteArray) (-3)).bind fun t106 => (dasdlaw01_awake.j0 k (t106.toList != ([5] : List UInt8)))) else (dasdlaw01_awake.j0 k true))) else (dasdlaw01_awake.j0 k true))) else (dasdlaw01_awake.j0 k true)) = some r := H
    have A2 := Aside0.mk A20
    clear A20
    by_cases c3 : t103.toList = ([120, 0] : List UInt8)
    · rw [if_pos c3] at H
      have c3b0 : (t103.toList == ([120, 0] : List UInt8)) = true := beq_iff_eq.mpr c3
      have c3b1 : (t103.toList != ([120, 0] : List UInt8)) = false := bne_eq_false_iff_eq.mpr c3
      clear c3
      (first | rw [c3b0] | (simp only [i64_w, i32_w]; rw [c3b0]) | skip)
      replace H := Option.bind_eq_some_iff.mp H
      obtain ⟨t104, A40, H⟩ := H
      replace H : (if t104.toList = ([127] : List UInt8) then ((wire_AppendNumber.f (⟨#[]⟩ : ByteArray) 300).bind fun t105 => (if t105.toList = ([172, 2] : List UInt8) then ((wire_AppendInt.f (⟨#[]⟩ : ByteArray) (-3)).bind fun t106 => (dasdlaw01_awake.j0 k (t106.toList != ([5] : List UInt8)))) else (dasdlaw01_awake.j0 k true))) else (dasdlaw01_awake.j0 k true)) = some r := H
      have A4 := Aside0.mk A40
      clear A40
      by_cases c5 : t104.toList = ([127] : List UInt8)
      · rw [if_pos c5] at H
        have c5b0 : (t104.toList == ([127] : List UInt8)) = true := beq_iff_eq.mpr c5
        have c5b1 : (t104.toList != ([127] : List UInt8)) = false := bne_eq_false_iff_eq.mpr c5
        clear c5
        replace H := Option.bind_eq_some_iff.mp H
        obtain ⟨t105, A60, H⟩ := H
        replace H : (if t105.toList = ([172, 2] : List UInt8) then ((wire_AppendInt.f (⟨#[]⟩ : ByteArray) (-3)).bind fun t106 => (dasdlaw01_awake.j0 k (t106.toList != ([5] : List UInt8)))) else (dasdlaw01_awake.j0 k true)) = some r := H
        have A6 := Aside0.mk A60
        clear A60
        by_cases c7 : t105.toList = ([172, 2] : List UInt8)
        · rw [if_pos c7] at H
          have c7b0 : (t105.toList == ([172, 2] : List UInt8)) = true := beq_iff_eq.mpr c7
          have c7b1 : (t105.toList != ([172, 2] : List UInt8)) = false := bne_eq_false_iff_eq.mpr c7
          clear c7
          replace H := Option.bind_eq_some_iff.mp H
          obtain ⟨t106, A80, H⟩ := H
          replace H : (dasdlaw01_awake.j0 k (t106.toList != ([5] : List UInt8))) = some r := H
          have A8 := Aside0.mk A80
          clear A80
          have H' := Aside0.mk H
          clear H
          go_wp2_with (first | ((with_reducible refine gate_callee (f := 26) rfl ?_); refine goesL_ (some 2) rfl rfl Try.func26 (by kernel_rfl) rfl #[.string (⟨#[120]⟩ : ByteArray), .int .u64 0] rfl (by (try simp only [List.map_toArray, List.map_cons, List.map_nil]); first | done | rfl | (simp only [List.length_drop, List.length_take]; rfl)) ?_; (with_reducible refine (wire_AppendNumber.calls (⟨#[120]⟩ : ByteArray) 0 t103 _ A2.out).mono ?_); rintro e w9 ⟨rfl, hb⟩; refine ⟨_, rfl, ?_⟩; have n0_ := Aside0.mk (below_step (by repeat (first | (with_reducible first | exact HB.out | apply below_alloc | apply pw_below_drewN | apply below_drew1) | exact HB.out)) hb); clear HB; have HB := n0_; clear n0_; (try clear hb); (try clear hb2); (try clear hk); (try clear hi)) | (go_at_call 26; (with_reducible refine (wire_AppendNumber.calls (⟨#[]⟩ : ByteArray) 127 t104 _ A4.out).mono ?_); rintro e w10 ⟨rfl, hb⟩; have n0_ := Aside0.mk (below_step (by repeat (first | (with_reducible first | exact HB.out | apply below_alloc | apply pw_below_drewN | apply below_drew1) | exact HB.out)) hb); clear HB; have HB := n0_; clear n0_; (try clear hb); (try clear hb2); (try clear hk); (try clear hi)) | (go_at_call 26; (with_reducible refine (wire_AppendNumber.calls (⟨#[]⟩ : ByteArray) 300 t105 _ A6.out).mono ?_); rintro e w11 ⟨rfl, hb⟩; have n0_ := Aside0.mk (below_step (by repeat (first | (with_reducible first | exact HB.out | apply below_alloc | apply pw_below_drewN | apply below_drew1) | exact HB.out)) hb); clear HB; have HB := n0_; clear n0_; (try clear hb); (try clear hb2); (try clear hk); (try clear hi)) | (go_at_call 28; (with_reducible refine (wire_AppendInt.calls (⟨#[]⟩ : ByteArray) (-3) t106 _ A8.out).mono ?_); rintro e w12 ⟨rfl, hb⟩; have n0_ := Aside0.mk (below_step (by repeat (first | (with_reducible first | exact HB.out | apply below_alloc | apply pw_below_drewN | apply below_drew1) | exact HB.out)) hb); clear HB; have HB := n0_; clear n0_; (try clear hb); (try clear hb2); (try clear hk); (try clear hi)))
          go_meet
          case rel => exact ⟨_, ((t106.toList != ([5] : List UInt8))), (by first | rfl | (simp; done) | (simp [*]; done)), H', ⟨by first | omega | exact Nat.le_refl _⟩, ⟨by repeat (first | (with_reducible first | exact HB.out | apply below_alloc | apply pw_below_drewN | apply below_drew1) | exact HB.out)⟩⟩
        · rw [if_neg c7] at H
          have c7b0 : (t105.toList == ([172, 2] : List UInt8)) = false := beq_eq_false_iff_ne.mpr c7
          have c7b1 : (t105.toList != ([172, 2] : List UInt8)) = true := bne_iff_ne.mpr c7
          have H' := Aside0.mk H
          clear H
          go_wp2_with (first | ((with_reducible refine gate_callee (f := 26) rfl ?_); refine goesL_ (some 2) rfl rfl Try.func26 (by kernel_rfl) rfl #[.string (⟨#[120]⟩ : ByteArray), .int .u64 0] rfl (by (try simp only [List.map_toArray, List.map_cons, List.map_nil]); first | done | rfl | (simp only [List.length_drop, List.length_take]; rfl)) ?_; (with_reducible refine (wire_AppendNumber.calls (⟨#[120]⟩ : ByteArray) 0 t103 _ A2.out).mono ?_); rintro e w13 ⟨rfl, hb⟩; refine ⟨_, rfl, ?_⟩; have n0_ := Aside0.mk (below_step (by repeat (first | (with_reducible first | exact HB.out | apply below_alloc | apply pw_below_drewN | apply below_drew1) | exact HB.out)) hb); clear HB; have HB := n0_; clear n0_; (try clear hb); (try clear hb2); (try clear hk); (try clear hi)) | (go_at_call 26; (with_reducible refine (wire_AppendNumber.calls (⟨#[]⟩ : ByteArray) 127 t104 _ A4.out).mono ?_); rintro e w14 ⟨rfl, hb⟩; have n0_ := Aside0.mk (below_step (by repeat (first | (with_reducible first | exact HB.out | apply below_alloc | apply pw_below_drewN | apply below_drew1) | exact HB.out)) hb); clear HB; have HB := n0_; clear n0_; (try clear hb); (try clear hb2); (try clear hk); (try clear hi)) | (go_at_call 26; (with_reducible refine (wire_AppendNumber.calls (⟨#[]⟩ : ByteArray) 300 t105 _ A6.out).mono ?_); rintro e w15 ⟨rfl, hb⟩; have n0_ := Aside0.mk (below_step (by repeat (first | (with_reducible first | exact HB.out | apply below_alloc | apply pw_below_drewN | apply below_drew1) | exact HB.out)) hb); clear HB; have HB := n0_; clear n0_; (try clear hb); (try clear hb2); (try clear hk); (try clear hi)))
          go_meet
          case rel => exact ⟨_, (true), (by first | rfl | (simp; done) | (simp [*]; done)), H', ⟨by first | omega | exact Nat.le_refl _⟩, ⟨by repeat (first | (with_reducible first | exact HB.out | apply below_alloc | apply pw_below_drewN | apply below_drew1) | exact HB.out)⟩⟩
      · rw [if_neg c5] at H
        have c5b0 : (t104.toList == ([127] : List UInt8)) = false := beq_eq_false_iff_ne.mpr c5
        have c5b1 : (t104.toList != ([127] : List UInt8)) = true := bne_iff_ne.mpr c5
        have H' := Aside0.mk H
        clear H
        go_wp2_with (first | ((with_reducible refine gate_callee (f := 26) rfl ?_); refine goesL_ (some 2) rfl rfl Try.func26 (by kernel_rfl) rfl #[.string (⟨#[120]⟩ : ByteArray), .int .u64 0] rfl (by (try simp only [List.map_toArray, List.map_cons, List.map_nil]); first | done | rfl | (simp only [List.length_drop, List.length_take]; rfl)) ?_; (with_reducible refine (wire_AppendNumber.calls (⟨#[120]⟩ : ByteArray) 0 t103 _ A2.out).mono ?_); rintro e w16 ⟨rfl, hb⟩; refine ⟨_, rfl, ?_⟩; have n0_ := Aside0.mk (below_step (by repeat (first | (with_reducible first | exact HB.out | apply below_alloc | apply pw_below_drewN | apply below_drew1) | exact HB.out)) hb); clear HB; have HB := n0_; clear n0_; (try clear hb); (try clear hb2); (try clear hk); (try clear hi)) | (go_at_call 26; (with_reducible refine (wire_AppendNumber.calls (⟨#[]⟩ : ByteArray) 127 t104 _ A4.out).mono ?_); rintro e w17 ⟨rfl, hb⟩; have n0_ := Aside0.mk (below_step (by repeat (first | (with_reducible first | exact HB.out | apply below_alloc | apply pw_below_drewN | apply below_drew1) | exact HB.out)) hb); clear HB; have HB := n0_; clear n0_; (try clear hb); (try clear hb2); (try clear hk); (try clear hi)))
        go_meet
        case rel => exact ⟨_, (true), (by first | rfl | (simp; done) | (simp [*]; done)), H', ⟨by first | omega | exact Nat.le_refl _⟩, ⟨by repeat (first | (with_reducible first | exact HB.out | apply below_alloc | apply pw_below_drewN | apply below_drew1) | exact HB.out)⟩⟩
    · rw [if_neg c3] at H
      have c3b0 : (t103.toList == ([120, 0] : List UInt8)) = false := beq_eq_false_iff_ne.mpr c3
      have c3b1 : (t103.toList != ([120, 0] : List UInt8)) = true := bne_iff_ne.mpr c3
      (first | rw [c3b0] | (simp only [i64_w, i32_w]; rw [c3b0]) | skip)
      have H' := Aside0.mk H
      clear H
      go_wp2_with (first | ((with_reducible refine gate_callee (f := 26) rfl ?_); refine goesL_ (some 2) rfl rfl Try.func26 (by kernel_rfl) rfl #[.string (⟨#[120]⟩ : ByteArray), .int .u64 0] rfl (by (try simp only [List.map_toArray, List.map_cons, List.map_nil]); first | done | rfl | (simp only [List.length_drop, List.length_take]; rfl)) ?_; (with_reducible refine (wire_AppendNumber.calls (⟨#[120]⟩ : ByteArray) 0 t103 _ A2.out).mono ?_); rintro e w18 ⟨rfl, hb⟩; refine ⟨_, rfl, ?_⟩; have n0_ := Aside0.mk (below_step (by repeat (first | (with_reducible first | exact HB.out | apply below_alloc | apply pw_below_drewN | apply below_drew1) | exact HB.out)) hb); clear HB; have HB := n0_; clear n0_; (try clear hb); (try clear hb2); (try clear hk); (try clear hi)))
      go_meet
      case rel => exact ⟨_, (true), (by first | rfl | (simp; done) | (simp [*]; done)), H', ⟨by first | omega | exact Nat.le_refl _⟩, ⟨by repeat (first | (with_reducible first | exact HB.out | apply below_alloc | apply pw_below_drewN | apply below_drew1) | exact HB.out)⟩⟩
  case rest =>
    clear HC1
    try clear c2
    try clear p2
    try clear c3
    try clear c3b0
    try clear c3b1
    try clear c5
    try clear c5b0
    try clear c5b1
    try clear c7
    try clear c7b0
    try clear c7b1
    obtain ⟨kq, x15_0, rfl, HA, HJ0, HB⟩ := hcut
    cases kq with
    | zero => exact absurd HA.out (by simp [dasdlaw01_awake.j0])
    | succ kj0 =>
      have H := HA.out
      clear HA
      simp only [dasdlaw01_awake.j0] at H
      by_cases c19 : x15_0 = true
      · subst c19
        have H1 : (some false) = some r := by rw [if_pos rfl] at H; exact H
        clear H
        have H := H1
        clear H1
        obtain rfl := Option.some.inj H
        go_wp2
        go_ret
        exact ⟨by first | rfl | (simp [errW_none, errW_some] <;> rfl) | (simp [*, errW_none, errW_some] <;> rfl), by repeat (first | (with_reducible first | exact HB.out | apply below_alloc | apply pw_below_drewN | apply below_drew1) | exact HB.out)⟩
      · replace c19 := Bool.eq_false_iff.mpr c19
        subst c19
        have H1 : ((wire_NewReader.f (⟨#[128, 0]⟩ : ByteArray)).bind fun bt107 => ((wire_Reader_Number.f bt107.1 bt107.2).bind fun bt110 => (if bt110.1 = 0 then ((wire_Reader_End.f bt110.2.1 bt110.2.2).bind fun bt113 => (some (bt113.1 == 11))) else (some false)))) = some r := by rw [if_neg (show ¬ (false = true) by decide)] at H; exact H
        clear H
        have H := H1
        clear H1
        replace H := Option.bind_eq_some_iff.mp H
        obtain ⟨⟨t107, t108⟩, A200, H⟩ := H
        replace H : ((wire_Reader_Number.f t107 t108).bind fun bt110 => (if bt110.1 = 0 then ((wire_Reader_End.f bt110.2.1 bt110.2.2).bind fun bt113 => (some (bt113.1 == 11))) else (some false))) = some r := H
        have A20 := Aside0.mk A200
        clear A200
        replace H := Option.bind_eq_some_iff.mp H
        obtain ⟨⟨t110, t111, t112⟩, A210, H⟩ := H
        replace H : (if t110 = 0 then ((wire_Reader_End.f t111 t112).bind fun bt113 => (some (bt113.1 == 11))) else (some false)) = some r := H
        have A21 := Aside0.mk A210
        clear A210
        by_cases c22 : t110 = 0
        · rw [if_pos c22] at H
          have c22b0 : (t110 == 0) = true := beq_iff_eq.mpr c22
          have c22b1 : (t110 != 0) = false := bne_eq_false_iff_eq.mpr c22
          clear c22
          replace H := Option.bind_eq_some_iff.mp H
          obtain ⟨⟨t113, t114, t115⟩, A230, H⟩ := H
          replace H : (some (t113 == 11)) = some r := H
          have A23 := Aside0.mk A230
          clear A230
          obtain rfl := Option.some.inj H
          go_wp2_with (first | ((with_reducible refine gate_callee (f := 62) rfl ?_); refine goesL_ (some 16) rfl rfl Try.func62 (by kernel_rfl) rfl #[.string (⟨#[128, 0]⟩ : ByteArray)] rfl (by (try simp only [List.map_toArray, List.map_cons, List.map_nil]); first | done | rfl | (simp only [List.length_drop, List.length_take]; rfl)) ?_; (with_reducible refine (wire_NewReader.calls (⟨#[128, 0]⟩ : ByteArray) t107 t108 w _ ?side1 A20.out).mono ?_); (case side1 => repeat (first | (with_reducible first | exact HB.out | apply below_alloc | apply pw_below_drewN | apply below_drew1) | exact HB.out)); rintro e w24 ⟨g109, rfl, hi, hb, hb2⟩; refine ⟨_, rfl, ?_⟩; have n0_ := Aside0.mk (hb); have n1_ := Aside0.mk (hi); clear HB; have HB := n0_; have HI109 := n1_; clear n0_ n1_; (try clear hb); (try clear hb2); (try clear hk); (try clear hi)) | (go_at_call 71; (with_reducible refine (wire_Reader_Number.calls g109 t107 t108 t110 t111 t112 w _ ?side1 ?side2 A21.out).mono ?_); (case side1 => repeat (first | (with_reducible first | exact HI109.out | apply IsS110.alloc | apply IsS110.drewN | apply IsS110.drew | apply IsS110.set_0 | apply IsS110.set_1) | exact HI109.out)); (case side2 => repeat (first | (with_reducible first | exact HB.out | apply below_alloc | apply pw_below_drewN | apply below_drew1 | refine below_set ?_ (IsS110.ge HI109.out)) | exact HB.out)); rintro e w25 ⟨rfl, hi, hb, hk⟩; have n0_ := Aside0.mk (hb); have n1_ := Aside0.mk (hi); clear HB; clear HI109; have HB := n0_; have HI109 := n1_; clear n0_ n1_; (try clear hb); (try clear hb2); (try clear hk); (try clear hi)) | (go_at_call 65; (with_reducible refine (wire_Reader_End.calls g109 t111 t112 t113 t114 t115 w _ ?side1 ?side2 A23.out).mono ?_); (case side1 => repeat (first | (with_reducible first | exact HI109.out | apply IsS110.alloc | apply IsS110.drewN | apply IsS110.drew | apply IsS110.set_0 | apply IsS110.set_1) | exact HI109.out)); (case side2 => repeat (first | (with_reducible first | exact HB.out | apply below_alloc | apply pw_below_drewN | apply below_drew1 | refine below_set ?_ (IsS110.ge HI109.out)) | exact HB.out)); rintro e w26 ⟨rfl, hi, hb, hk⟩; have n0_ := Aside0.mk (hb); have n1_ := Aside0.mk (hi); clear HB; clear HI109; have HB := n0_; have HI109 := n1_; clear n0_ n1_; (try clear hb); (try clear hb2); (try clear hk); (try clear hi)))
          go_ret
          exact ⟨by first | rfl | (simp [errW_none, errW_some] <;> rfl) | (simp [*, errW_none, errW_some] <;> rfl), by repeat (first | (with_reducible first | exact HB.out | apply below_alloc | apply pw_below_drewN | apply below_drew1 | refine below_set ?_ (IsS110.ge HI109.out)) | exact HB.out)⟩
        · rw [if_neg c22] at H
          have c22b0 : (t110 == 0) = false := beq_eq_false_iff_ne.mpr c22
          have c22b1 : (t110 != 0) = true := bne_iff_ne.mpr c22
          obtain rfl := Option.some.inj H
          go_wp2_with (first | ((with_reducible refine gate_callee (f := 62) rfl ?_); refine goesL_ (some 16) rfl rfl Try.func62 (by kernel_rfl) rfl #[.string (⟨#[128, 0]⟩ : ByteArray)] rfl (by (try simp only [List.map_toArray, List.map_cons, List.map_nil]); first | done | rfl | (simp only [List.length_drop, List.length_take]; rfl)) ?_; (with_reducible refine (wire_NewReader.calls (⟨#[128, 0]⟩ : ByteArray) t107 t108 w _ ?side1 A20.out).mono ?_); (case side1 => repeat (first | (with_reducible first | exact HB.out | apply below_alloc | apply pw_below_drewN | apply below_drew1) | exact HB.out)); rintro e w27 ⟨g109, rfl, hi, hb, hb2⟩; refine ⟨_, rfl, ?_⟩; have n0_ := Aside0.mk (hb); have n1_ := Aside0.mk (hi); clear HB; have HB := n0_; have HI109 := n1_; clear n0_ n1_; (try clear hb); (try clear hb2); (try clear hk); (try clear hi)) | (go_at_call 71; (with_reducible refine (wire_Reader_Number.calls g109 t107 t108 t110 t111 t112 w _ ?side1 ?side2 A21.out).mono ?_); (case side1 => repeat (first | (with_reducible first | exact HI109.out | apply IsS110.alloc | apply IsS110.drewN | apply IsS110.drew | apply IsS110.set_0 | apply IsS110.set_1) | exact HI109.out)); (case side2 => repeat (first | (with_reducible first | exact HB.out | apply below_alloc | apply pw_below_drewN | apply below_drew1 | refine below_set ?_ (IsS110.ge HI109.out)) | exact HB.out)); rintro e w28 ⟨rfl, hi, hb, hk⟩; have n0_ := Aside0.mk (hb); have n1_ := Aside0.mk (hi); clear HB; clear HI109; have HB := n0_; have HI109 := n1_; clear n0_ n1_; (try clear hb); (try clear hb2); (try clear hk); (try clear hi)))
          go_ret
          exact ⟨by first | rfl | (simp [errW_none, errW_some] <;> rfl) | (simp [*, errW_none, errW_some] <;> rfl), by repeat (first | (with_reducible first | exact HB.out | apply below_alloc | apply pw_below_drewN | apply below_drew1 | refine below_set ?_ (IsS110.ge HI109.out)) | exact HB.out)⟩

end Go.Proofs.Ytegefemkmdlmaaa.P
end
section
-- Printed by a program of this session (hand.py) out of the translation. Lean checks it.
namespace Go.Proofs.Ytegefemkmdlmaaa.P
open Go.RowKit Go.Proofs.YtegefemkmdlmaaaW.PrintWords Go.Proofs.YtegefemkmdlmaaaW.PrintLast Go.Proofs.YtegefemkmdlmaaaW.PrintMore
attribute [local go_sem] max2_int min2_int max_two min_two max_three min_three max_four min_four   -- for this text's walks alone
set_option linter.unusedVariables false
set_option linter.unusedSimpArgs false

/-! ### wire_AppendBool: function 30 -/
def wire_AppendBool.f (a0 : ByteArray) (a1 : Bool) : Option (ByteArray) := if a1 = true then (if a0.size + 1 ≤ 9223372036854775807 then (some (a0 ++ (⟨#[1]⟩ : ByteArray))) else (none)) else (if a0.size + 1 ≤ 9223372036854775807 then (some (a0 ++ (⟨#[0]⟩ : ByteArray))) else (none))
set_option maxHeartbeats 8000000 in
set_option maxRecDepth 100000 in
theorem wire_AppendBool.calls (a0 : ByteArray) (a1 : Bool) (r : ByteArray) (w : World) (h : wire_AppendBool.f a0 a1 = some r) :
    Calls Try.prog 30 #[.string a0, .bool a1] w fun e w' => e = .returned (.string r) ∧ Drawn0 w w' := by
  have H : (if a1 = true then (if a0.size + 1 ≤ 9223372036854775807 then (some (a0 ++ (⟨#[1]⟩ : ByteArray))) else (none)) else (if a0.size + 1 ≤ 9223372036854775807 then (some (a0 ++ (⟨#[0]⟩ : ByteArray))) else (none))) = some r := h
  clear h
  by_cases c3 : a1 = true
  · subst c3
    have H1 : (if a0.size + 1 ≤ 9223372036854775807 then (some (a0 ++ (⟨#[1]⟩ : ByteArray))) else (none)) = some r := by rw [if_pos rfl] at H; exact H
    clear H
    have H := H1
    clear H1
    by_cases c4 : a0.size + 1 ≤ 9223372036854775807
    · rw [if_pos c4] at H
      have c4b0 := eq_true c4
      have c4b1 : decide (a0.size + 1 ≤ 9223372036854775807) = true := decide_eq_true c4
      try have c4b2 : (9223372036854775807 < a0.size + 1) = False := eq_false (Nat.not_lt.2 c4)
      obtain rfl := Option.some.inj H
      go_enter Try.func30, Try.ntmps30
      go_wp2
      go_ret
      exact ⟨by first | rfl | (simp; done) | (simp [*]; done), by repeat (first | exact Drawn0.refl _ | apply Drawn0.step)⟩
    · rw [if_neg c4] at H
      exact absurd H (by simp)
  · replace c3 := Bool.eq_false_iff.mpr c3
    subst c3
    have H1 : (if a0.size + 1 ≤ 9223372036854775807 then (some (a0 ++ (⟨#[0]⟩ : ByteArray))) else (none)) = some r := by rw [if_neg (show ¬ (false = true) by decide)] at H; exact H
    clear H
    have H := H1
    clear H1
    by_cases c5 : a0.size + 1 ≤ 9223372036854775807
    · rw [if_pos c5] at H
      have c5b0 := eq_true c5
      have c5b1 : decide (a0.size + 1 ≤ 9223372036854775807) = true := decide_eq_true c5
      try have c5b2 : (9223372036854775807 < a0.size + 1) = False := eq_false (Nat.not_lt.2 c5)
      obtain rfl := Option.some.inj H
      go_enter Try.func30, Try.ntmps30
      go_wp2
      go_ret
      exact ⟨by first | rfl | (simp; done) | (simp [*]; done), by repeat (first | exact Drawn0.refl _ | apply Drawn0.step)⟩
    · rw [if_neg c5] at H
      exact absurd H (by simp)

end Go.Proofs.Ytegefemkmdlmaaa.P
end
section
-- Printed by a program of this session (hand.py) out of the translation. Lean checks it.
namespace Go.Proofs.Ytegefemkmdlmaaa.P
open Go.RowKit Go.Proofs.YtegefemkmdlmaaaW.PrintWords Go.Proofs.YtegefemkmdlmaaaW.PrintLast Go.Proofs.YtegefemkmdlmaaaW.PrintMore
attribute [local go_sem] max2_int min2_int max_two min_two max_three min_three max_four min_four   -- for this text's walks alone
set_option linter.unusedVariables false
set_option linter.unusedSimpArgs false

/-! ### dasdref01_Zigzag: function 93 -/
def dasdref01_Zigzag.f (a0 : Int) : Option (Int) := if a0 < 0 then (some (IntKind.u64.wrap ((IntKind.u64.wrap (2 * (IntKind.u64.wrap (wrap64 (-(wrap64 (a0 + 1))))))) + 1))) else (some (IntKind.u64.wrap (2 * (IntKind.u64.wrap (a0)))))
set_option maxHeartbeats 8000000 in
set_option maxRecDepth 100000 in
theorem dasdref01_Zigzag.calls (a0 : Int) (r : Int) (w : World) (h : dasdref01_Zigzag.f a0 = some r) :
    Calls Try.prog 93 #[.int .i64 a0] w fun e w' => e = .returned (.int .u64 r) ∧ Drawn0 w w' := by
  have H : (if a0 < 0 then (some (IntKind.u64.wrap ((IntKind.u64.wrap (2 * (IntKind.u64.wrap (wrap64 (-(wrap64 (a0 + 1))))))) + 1))) else (some (IntKind.u64.wrap (2 * (IntKind.u64.wrap (a0)))))) = some r := h
  clear h
  by_cases c2 : a0 < 0
  · rw [if_pos c2] at H
    have c2b0 : decide (a0 < 0) = true := decide_eq_true c2
    clear c2
    obtain rfl := Option.some.inj H
    go_enter Try.func93, Try.ntmps93
    go_wp2
    go_ret
    exact ⟨by first | rfl | (simp; done) | (simp [*]; done), by repeat (first | exact Drawn0.refl _ | apply Drawn0.step)⟩
  · rw [if_neg c2] at H
    have c2b0 : decide (a0 < 0) = false := decide_eq_false c2
    clear c2
    obtain rfl := Option.some.inj H
    go_enter Try.func93, Try.ntmps93
    go_wp2
    go_ret
    exact ⟨by first | rfl | (simp; done) | (simp [*]; done), by repeat (first | exact Drawn0.refl _ | apply Drawn0.step)⟩

end Go.Proofs.Ytegefemkmdlmaaa.P
end
section
-- Printed by a program of this session (hand.py) out of the translation. Lean checks it.
namespace Go.Proofs.Ytegefemkmdlmaaa.P
open Go.RowKit Go.Proofs.YtegefemkmdlmaaaW.PrintWords Go.Proofs.YtegefemkmdlmaaaW.PrintLast Go.Proofs.YtegefemkmdlmaaaW.PrintMore
attribute [local go_sem] max2_int min2_int max_two min_two max_three min_three max_four min_four   -- for this text's walks alone
set_option linter.unusedVariables false
set_option linter.unusedSimpArgs false

/-! ### dasdref01_Int: function 29 -/
def dasdref01_Int.f (k : Nat) (a0 : Int) : Option (ByteArray) := (dasdref01_Zigzag.f a0).bind fun t129 => ((dasdref01_Number.f k t129).bind fun t130 => (some t130))
theorem dasdref01_Int.mono : ∀ a0 k, LeO (dasdref01_Int.f k a0) (dasdref01_Int.f (k + 1) a0) := by
  intro a0 k
  unfold dasdref01_Int.f
  repeat' first
      | (with_reducible exact dasdref01_Number.mono _ _)
      | (with_reducible exact LeO.refl _)
      | (with_reducible exact LeO.none _)
      | (with_reducible refine LeO.ite ?_ ?_)
      | (with_reducible refine LeO.bind ?_ (fun _ => ?_))
      | exact dasdref01_Number.mono _ _
      | exact LeO.none _
      | refine LeO.ite ?_ ?_
      | refine LeO.bind ?_ (fun _ => ?_)
set_option maxHeartbeats 8000000 in
set_option maxRecDepth 100000 in
theorem dasdref01_Int.calls (k : Nat) (a0 : Int) (r : ByteArray) (w : World) (h : dasdref01_Int.f k a0 = some r) :
    Calls Try.prog 29 #[.int .i64 a0] w fun e w' => e = .returned (.string r) ∧ Below w.heap.size w w' := by
  have HB := Aside0.mk (Below.refl w.heap.size w)
  have H : ((dasdref01_Zigzag.f a0).bind fun t129 => ((dasdref01_Number.f k t129).bind fun t130 => (some t130))) = some r := h
  clear h
  replace H := Option.bind_eq_some_iff.mp H
  obtain ⟨t129, A20, H⟩ := H
  replace H : ((dasdref01_Number.f k t129).bind fun t130 => (some t130)) = some r := H
  have A2 := Aside0.mk A20
  clear A20
  replace H := Option.bind_eq_some_iff.mp H
  obtain ⟨t130, A30, H⟩ := H
  replace H : (some t130) = some r := H
  have A3 := Aside0.mk A30
  clear A30
  obtain rfl := Option.some.inj H
  go_enter Try.func29, Try.ntmps29
  go_wp2_with (first | ((with_reducible refine gate_callee (f := 93) rfl ?_); refine goesL_ (some 4) rfl rfl Try.func93 (by kernel_rfl) rfl #[.int .i64 a0] rfl (by (try simp only [List.map_toArray, List.map_cons, List.map_nil]); first | done | rfl | (simp only [List.length_drop, List.length_take]; rfl)) ?_; (with_reducible refine (dasdref01_Zigzag.calls a0 t129 _ A2.out).mono ?_); rintro e w' ⟨rfl, ⟨nd, rfl⟩⟩; refine ⟨_, rfl, ?_⟩) | ((with_reducible refine gate_callee (f := 27) rfl ?_); refine goesL_ (some 5) rfl rfl Try.func27 (by kernel_rfl) rfl #[.int .u64 t129] rfl (by (try simp only [List.map_toArray, List.map_cons, List.map_nil]); first | done | rfl | (simp only [List.length_drop, List.length_take]; rfl)) ?_; (with_reducible refine (dasdref01_Number.calls k t129 t130 _ A3.out).mono ?_); rintro e w4 ⟨rfl, hb⟩; refine ⟨_, rfl, ?_⟩; have n0_ := Aside0.mk (below_step (by repeat (first | (with_reducible first | exact HB.out | apply below_alloc | apply pw_below_drewN | apply below_drew1) | exact HB.out)) hb); clear HB; have HB := n0_; clear n0_; (try clear hb); (try clear hb2); (try clear hk); (try clear hi)))
  go_ret
  exact ⟨by first | rfl | (simp [errW_none, errW_some] <;> rfl) | (simp [*, errW_none, errW_some] <;> rfl), by repeat (first | (with_reducible first | exact HB.out | apply below_alloc | apply pw_below_drewN | apply below_drew1) | exact HB.out)⟩

end Go.Proofs.Ytegefemkmdlmaaa.P
end
section
-- Printed by a program of this session (hand.py) out of the translation. Lean checks it.
namespace Go.Proofs.Ytegefemkmdlmaaa.P
open Go.RowKit Go.Proofs.YtegefemkmdlmaaaW.PrintWords Go.Proofs.YtegefemkmdlmaaaW.PrintLast Go.Proofs.YtegefemkmdlmaaaW.PrintMore
attribute [local go_sem] max2_int min2_int max_two min_two max_three min_three max_four min_four   -- for this text's walks alone
set_option linter.unusedVariables false
set_option linter.unusedSimpArgs false

/-! ### dasdref01_Bool: function 31 -/
def dasdref01_Bool.f (a0 : Bool) : Option (ByteArray) := if a0 = true then (some (⟨#[1]⟩ : ByteArray)) else (some (⟨#[0]⟩ : ByteArray))
set_option maxHeartbeats 8000000 in
set_option maxRecDepth 100000 in
theorem dasdref01_Bool.calls (a0 : Bool) (r : ByteArray) (w : World) (h : dasdref01_Bool.f a0 = some r) :
    Calls Try.prog 31 #[.bool a0] w fun e w' => e = .returned (.string r) ∧ Drawn0 w w' := by
  have H : (if a0 = true then (some (⟨#[1]⟩ : ByteArray)) else (some (⟨#[0]⟩ : ByteArray))) = some r := h
  clear h
  by_cases c2 : a0 = true
  · subst c2
    have H1 : (some (⟨#[1]⟩ : ByteArray)) = some r := by rw [if_pos rfl] at H; exact H
    clear H
    have H := H1
    clear H1
    obtain rfl := Option.some.inj H
    go_enter Try.func31, Try.ntmps31
    go_wp2
    go_ret
    exact ⟨by first | rfl | (simp; done) | (simp [*]; done), by repeat (first | exact Drawn0.refl _ | apply Drawn0.step)⟩
  · replace c2 := Bool.eq_false_iff.mpr c2
    subst c2
    have H1 : (some (⟨#[0]⟩ : ByteArray)) = some r := by rw [if_neg (show ¬ (false = true) by decide)] at H; exact H
    clear H
    have H := H1
    clear H1
    obtain rfl := Option.some.inj H
    go_enter Try.func31, Try.ntmps31
    go_wp2
    go_ret
    exact ⟨by first | rfl | (simp; done) | (simp [*]; done), by repeat (first | exact Drawn0.refl _ | apply Drawn0.step)⟩

end Go.Proofs.Ytegefemkmdlmaaa.P
end
section
/- Plain laws: the example of chapter 1 holds. -/
namespace Go.Proofs.Ytegefemkmdlmaaa.P
open Go.RowKit Go.Proofs.YtegefemkmdlmaaaW.PrintWords Go.Proofs.YtegefemkmdlmaaaW.PrintLast Go.Proofs.YtegefemkmdlmaaaW.PrintMore
theorem awake1_at : dasdlaw01_awake.f 1 = some true := by
  unfold dasdlaw01_awake.f dasdlaw01_awake.j0
  simp only [ByteArray.toList_eq]
  decide +kernel
theorem awake1 : Ev (fun k => dasdlaw01_awake.f k) true := Ev.of dasdlaw01_awake.mono awake1_at
end Go.Proofs.Ytegefemkmdlmaaa.P
end
section
/- Plain laws on the encodings of numbers, integers and texts. -/
namespace Go.Proofs.Ytegefemkmdlmaaa.P
open Go.RowKit Go.Proofs.YtegefemkmdlmaaaW.PrintWords Go.Proofs.YtegefemkmdlmaaaW.PrintLast Go.Proofs.YtegefemkmdlmaaaW.PrintMore
theorem ba_ext {a b : ByteArray} (h : a.data.toList = b.data.toList) : a = b := by
  obtain ⟨⟨l⟩⟩ := a
  obtain ⟨⟨m⟩⟩ := b
  simp only [] at h
  rw [h]
theorem data_append (a b : ByteArray) : (a ++ b).data.toList = a.data.toList ++ b.data.toList := by
  rw [ByteArray.data_append, Array.toList_append]
theorem ba_append_assoc (a b c : ByteArray) : a ++ b ++ c = a ++ (b ++ c) := ba_ext (by simp only [data_append, List.append_assoc])
theorem strOfNums_append (a b : List Int) : strOfNums (a ++ b) = strOfNums a ++ strOfNums b := by
  apply ba_ext
  rw [data_append, strOfNums_data, strOfNums_data, strOfNums_data, List.map_append]
theorem u64_in (n : Int) (h0 : 0 ≤ n) (h1 : n < 18446744073709551616) : IntKind.u64.wrap n = n := u64_wraps n h0 (by simpa using h1)
/-- The encoding of a number. -/
def numE (n : Int) : ByteArray := strOfNums (encL 9 n)
theorem numE_size (n : Int) : 1 ≤ (numE n).size ∧ (numE n).size ≤ 10 := by
  unfold numE
  rw [strOfNums_size]
  exact encL_length 9 n
theorem number_go (j : Nat) : j ≤ 9 → ∀ n : Int, 0 ≤ n → n < 18446744073709551616 → n < 128 ^ (j + 1) → Ev (fun k => dasdref01_Number.f k n) (strOfNums (encL j n)) := by
  induction j with
  | zero =>
    intro hj n h0 h1 h2
    have h2 : n < 128 := by simpa using h2
    refine Ev.step (f := fun _ => some (strOfNums [n % 256])) (fun k => by simp only [dasdref01_Number.f]; rw [if_pos h2]) ?_
    rw [Int.emod_eq_of_lt h0 (by omega)]
    exact Ev.now _
  | succ j ih =>
    intro hj n h0 h1 h2
    by_cases h : n < 128
    · refine Ev.step (f := fun _ => some (strOfNums [n % 256])) (fun k => by simp only [dasdref01_Number.f]; rw [if_pos h]) ?_
      rw [Int.emod_eq_of_lt h0 (by omega), encL_small _ _ h]
      exact Ev.now _
    · have e1 : (IntKind.u64.wrap (Int.tmod n 128 + 128)) % 256 = n % 128 + 128 := by
        rw [Int.tmod_eq_emod_of_nonneg h0, u64_in _ (by omega) (by omega)]; omega
      have e2 : IntKind.u64.wrap (Int.tdiv n 128) = n / 128 := by
        rw [Int.tdiv_eq_ediv_of_nonneg h0, u64_in _ (by omega) (by omega)]
      have hlt : n / 128 < 128 ^ (j + 1) := by
        rw [Int.pow_succ] at h2
        exact Int.ediv_lt_of_lt_mul (by decide) h2
      refine Ev.step (f := fun k => (dasdref01_Number.f k (n / 128)).bind fun t => if (strOfNums [n % 128 + 128]).size + t.size ≤ 9223372036854775807 then some (strOfNums [n % 128 + 128] ++ t) else none) (fun k => by simp only [dasdref01_Number.f]; rw [if_neg h, Option.bind_some, e1, e2]) ?_
      refine Ev.bind (ih (by omega) (n / 128) (by omega) (by omega) hlt) ?_
      rw [encL_big _ _ h]
      have hs : (strOfNums [n % 128 + 128]).size + (strOfNums (encL j (n / 128))).size ≤ 9223372036854775807 := by
        have := (encL_length j (n / 128)).2
        rw [strOfNums_size, strOfNums_size, List.length_singleton]
        omega
      simp only [if_pos hs]
      rw [show (n % 128 + 128) :: encL j (n / 128) = [n % 128 + 128] ++ encL j (n / 128) from rfl, strOfNums_append]
      exact Ev.now _
theorem number_ev (n : Int) (h0 : 0 ≤ n) (h1 : n < 18446744073709551616) : Ev (fun k => dasdref01_Number.f k n) (numE n) :=
  number_go 9 (by omega) n h0 h1 (by
    have : (128 : Int) ^ (9 + 1) = 1180591620717411303424 := by decide
    omega)
theorem appendNumber_eq (s : ByteArray) (n : Int) (h0 : 0 ≤ n) (h1 : n < 18446744073709551616) (hs : s.size ≤ 140737488355328) : wire_AppendNumber.f s n = some (s ++ numE n) := by
  unfold wire_AppendNumber.f
  rw [if_pos ⟨h0, h1, by omega⟩]
  rfl
/-- The number that stands for an integer. -/
def zig (n : Int) : Int := if n < 0 then -2 * n - 1 else 2 * n
theorem zig_range (n : Int) (h0 : -9223372036854775808 ≤ n) (h1 : n ≤ 9223372036854775807) : 0 ≤ zig n ∧ zig n < 18446744073709551616 := by
  unfold zig; split <;> omega
theorem zigzag_eq (n : Int) (h0 : -9223372036854775808 ≤ n) (h1 : n ≤ 9223372036854775807) : dasdref01_Zigzag.f n = some (zig n) := by
  unfold dasdref01_Zigzag.f zig
  by_cases h : n < 0
  · rw [if_pos h, if_pos h]
    have e1 : wrap64 (n + 1) = n + 1 := by unfold wrap64; omega
    have e2 : wrap64 (-(n + 1)) = -(n + 1) := by unfold wrap64; omega
    rw [e1, e2, u64_in (-(n + 1)) (by omega) (by omega), u64_in (2 * -(n + 1)) (by omega) (by omega), u64_in (2 * -(n + 1) + 1) (by omega) (by omega)]
    congr 1
    omega
  · rw [if_neg h, if_neg h, u64_in n (by omega) (by omega), u64_in (2 * n) (by omega) (by omega)]
theorem u64_neg (n : Int) (h0 : -9223372036854775808 ≤ n) (h1 : n < 0) : IntKind.u64.wrap n = n + 18446744073709551616 := by
  simp [IntKind.wrap, IntKind.bits, IntKind.signed]
  omega
theorem xor_zero (x : Int) (h0 : 0 ≤ x) (h1 : x < 18446744073709551616) : bits .xor .u64 x 0 = x := by
  obtain ⟨a, rfl⟩ : ∃ a : Nat, x = a := ⟨x.toNat, by omega⟩
  have ha : a % 2 ^ 64 = a := Nat.mod_eq_of_lt (by omega)
  show IntKind.u64.wrap ((BitVec.ofInt 64 (a : Int) ^^^ BitVec.ofInt 64 0).toNat : Int) = a
  rw [BitVec.ofInt_natCast, show BitVec.ofInt 64 0 = 0#64 from rfl, BitVec.xor_zero, BitVec.toNat_ofNat, ha]
  exact u64_in _ (by omega) (by omega)
theorem xor_ones (x : Int) (h0 : 0 ≤ x) (h1 : x < 18446744073709551616) : bits .xor .u64 x 18446744073709551615 = 18446744073709551615 - x := by
  obtain ⟨a, rfl⟩ : ∃ a : Nat, x = a := ⟨x.toNat, by omega⟩
  have ha : a % 2 ^ 64 = a := Nat.mod_eq_of_lt (by omega)
  show IntKind.u64.wrap ((BitVec.ofInt 64 (a : Int) ^^^ BitVec.ofInt 64 18446744073709551615).toNat : Int) = 18446744073709551615 - a
  rw [BitVec.ofInt_natCast, show BitVec.ofInt 64 18446744073709551615 = BitVec.allOnes 64 from by decide, BitVec.xor_allOnes, BitVec.toNat_not, BitVec.toNat_ofNat, ha]
  rw [u64_in _ (by omega) (by omega)]
  omega
theorem appendInt_eq (s : ByteArray) (n : Int) (h0 : -9223372036854775808 ≤ n) (h1 : n ≤ 9223372036854775807) (hs : s.size ≤ 140737488355328) : wire_AppendInt.f s n = some (s ++ numE (zig n)) := by
  have hz := zig_range n h0 h1
  unfold wire_AppendInt.f
  have e : Go.bits .xor .u64 (IntKind.u64.wrap ((IntKind.u64.wrap n) * 2)) (IntKind.u64.wrap (n / 9223372036854775808)) = zig n := by
    unfold zig
    by_cases h : n < 0
    · rw [if_pos h, u64_neg n h0 h]
      have e1 : n / 9223372036854775808 = -1 := by omega
      have e2 : IntKind.u64.wrap ((n + 18446744073709551616) * 2) = 2 * n + 18446744073709551616 := by
        simp [IntKind.wrap, IntKind.bits, IntKind.signed]
        omega
      have e3 : IntKind.u64.wrap (-1) = 18446744073709551615 := by rw [u64_neg _ (by omega) (by omega)]; rfl
      rw [e1, e2, e3, xor_ones _ (by omega) (by omega)]
      omega
    · rw [if_neg h, u64_in n (by omega) (by omega)]
      have e1 : n / 9223372036854775808 = 0 := by omega
      rw [e1, u64_in (n * 2) (by omega) (by omega), u64_in 0 (by omega) (by omega), xor_zero _ (by omega) (by omega)]
      omega
  rw [e, appendNumber_eq s _ hz.1 hz.2 hs]
  rfl
end Go.Proofs.Ytegefemkmdlmaaa.P
end
section
/- Plain laws: reading an encoding of a number gives the number, and only encodings are read. -/
namespace Go.Proofs.Ytegefemkmdlmaaa.P
open Go.RowKit Go.Proofs.YtegefemkmdlmaaaW.PrintWords Go.Proofs.YtegefemkmdlmaaaW.PrintLast Go.Proofs.YtegefemkmdlmaaaW.PrintMore
theorem pow7_succ (i : Nat) : (2 : Int) ^ (7 * (i + 1)) = 2 ^ (7 * i) * 128 := by
  rw [show 7 * (i + 1) = 7 * i + 7 by omega, Int.pow_add]
  rfl
theorem pow63 : (2 : Int) ^ (7 * 9) = 9223372036854775808 := by decide
theorem pow_ge (i : Nat) (h : 9 ≤ i) : (9223372036854775808 : Int) ≤ 2 ^ (7 * i) := by
  rw [← pow63]
  exact_mod_cast Nat.pow_le_pow_right (by decide) (by omega)
theorem dec_enc (j : Nat) : ∀ (i : Nat) (n acc : Int) (rest : List Int), i + j = 9 → 0 ≤ n → (0 < i → 0 < n) → 0 ≤ acc → n * 2 ^ (7 * i) < 18446744073709551616 →
    decGo i acc (encL j n ++ rest) = (acc + n * 2 ^ (7 * i), (i : Int) + (encL j n).length) := by
  induction j with
  | zero =>
    intro i n acc rest hi h0 hp ha hlt
    obtain rfl : i = 9 := by omega
    rw [pow63] at hlt ⊢
    have hn : n < 2 := by omega
    have hz := hp (by omega)
    simp only [encL, List.singleton_append, decGo]
    rw [if_neg (by omega), if_neg (by omega), if_pos (by omega), if_neg (by omega), Int.emod_eq_of_lt h0 (by omega), pow63]
    simp
  | succ j ih =>
    intro i n acc rest hi h0 hp ha hlt
    have hpos := pow_pos2 (7 * i)
    by_cases h : n < 128
    · rw [encL_small _ _ h]
      simp only [List.singleton_append, decGo]
      rw [if_neg (by omega), if_neg (by omega), if_pos h, if_neg (fun hh => by have := hp hh.2; omega), Int.emod_eq_of_lt h0 h]
      simp
    · rw [encL_big _ _ h]
      simp only [List.cons_append, decGo]
      rw [if_neg (by omega), if_neg (by omega), if_neg (by omega)]
      have e1 : (n % 128 + 128) % 128 = n % 128 := by omega
      have hmul : n / 128 * 2 ^ (7 * (i + 1)) + n % 128 * 2 ^ (7 * i) = n * 2 ^ (7 * i) := by
        rw [pow7_succ, Int.mul_comm (2 ^ (7 * i)) 128, ← Int.mul_assoc, ← Int.add_mul]
        congr 1
        omega
      have hnn : 0 ≤ n % 128 * 2 ^ (7 * i) := Int.mul_nonneg (by omega) (Int.le_of_lt hpos)
      rw [e1, ih (i + 1) (n / 128) _ rest (by omega) (by omega) (fun _ => by omega) (by omega) (by omega)]
      rw [Prod.mk.injEq]
      constructor
      · omega
      · rw [List.length_cons]; omega
theorem encL_bytes (j : Nat) : ∀ n : Int, 0 ≤ n → n < 128 ^ (j + 1) → ∀ x ∈ encL j n, 0 ≤ x ∧ x < 256 := by
  induction j with
  | zero =>
    intro n h0 h1 x hx
    simp only [encL, List.mem_singleton] at hx
    have : n < 128 := by simpa using h1
    omega
  | succ j ih =>
    intro n h0 h1 x hx
    by_cases h : n < 128
    · rw [encL_small _ _ h, List.mem_singleton] at hx
      subst hx; omega
    · rw [encL_big _ _ h] at hx
      rcases List.mem_cons.1 hx with rfl | hx
      · omega
      · refine ih (n / 128) (by omega) ?_ x hx
        rw [Int.pow_succ] at h1
        exact Int.ediv_lt_of_lt_mul (by decide) h1
theorem lt_pow10 {n : Int} (h : n < 18446744073709551616) : n < 128 ^ (9 + 1) := by
  have : (128 : Int) ^ (9 + 1) = 1180591620717411303424 := by decide
  omega
theorem numsB_append (a b : ByteArray) : numsB (a ++ b) = numsB a ++ numsB b := by
  unfold numsB
  rw [data_append, List.map_append]
theorem numsB_str (l : List Int) (h : ∀ x ∈ l, 0 ≤ x ∧ x < 256) : numsB (strOfNums l) = l := by
  unfold numsB
  rw [strOfNums_data, List.map_map]
  conv => rhs; rw [← List.map_id l]
  apply List.map_congr_left
  intro x hx
  have := h x hx
  simp only [Function.comp, id]
  rw [UInt8.toNat_ofNat_of_lt' (by show x.toNat < 256; omega)]
  omega
theorem numsB_numE (n : Int) (h0 : 0 ≤ n) (h1 : n < 18446744073709551616) : numsB (numE n) = encL 9 n := numsB_str _ (encL_bytes 9 n h0 (lt_pow10 h1))
theorem numsB_inj {a b : ByteArray} (h : numsB a = numsB b) : a = b := by
  apply ba_ext
  unfold numsB at h
  exact (List.map_inj_right (fun x y hxy => UInt8.toNat_inj.1 (by omega))).1 h
theorem extract_list (s : ByteArray) (a b : Nat) : (s.extract a b).data.toList = (s.data.toList.drop a).take (b - a) := by
  rw [ByteArray.data_extract, Array.toList_extract, List.extract_eq_take_drop]
theorem ba_split (s : ByteArray) (k : Nat) : s = s.extract 0 k ++ s.extract k s.size := by
  apply ba_ext
  rw [data_append, extract_list, extract_list, List.drop_zero, Nat.sub_zero]
  rw [List.take_of_length_le (l := s.data.toList.drop k) (by rw [List.length_drop]; exact Nat.le_refl _), List.take_append_drop]
/-- Reading an encoding that stands in front. -/
theorem decB_numE (n : Int) (rest : ByteArray) (h0 : 0 ≤ n) (h1 : n < 18446744073709551616) : decB (numE n ++ rest) = (n, ((numE n).size : Int)) := by
  unfold decB
  rw [numsB_append, numsB_numE n h0 h1, dec_enc 9 0 n 0 _ rfl h0 (fun h => by omega) (by omega) (by simpa using h1)]
  unfold numE
  rw [strOfNums_size]
  simp
/-- What is read is an encoding. -/
theorem enc_dec (j : Nat) : ∀ (i : Nat) (acc : Int) (l : List Int), i + j = 9 → 0 ≤ acc → acc < 2 ^ (7 * i) → (∀ x ∈ l, 0 ≤ x ∧ x < 256) → (decGo i acc l).2 ≠ 0 →
    ∃ n : Int, 0 ≤ n ∧ (0 < i → 0 < n) ∧ (decGo i acc l).1 = acc + n * 2 ^ (7 * i) ∧ (decGo i acc l).1 < 18446744073709551616 ∧ (decGo i acc l).2 = (i : Int) + (encL j n).length ∧ l.take (encL j n).length = encL j n := by
  induction j with
  | zero =>
    intro i acc l hi ha ha2 hl hk
    obtain rfl : i = 9 := by omega
    cases l with
    | nil => simp [decGo] at hk
    | cons b r =>
      have hb := hl b (by simp)
      simp only [decGo] at hk ⊢
      rw [if_neg (by omega)] at hk ⊢
      by_cases h1 : b > 1
      · rw [if_pos ⟨trivial, h1⟩] at hk; simp at hk
      · rw [if_neg (fun h => h1 h.2), if_pos (show b < 128 by omega)] at hk ⊢
        by_cases hz : b = 0
        · rw [if_pos ⟨hz, by omega⟩] at hk; simp at hk
        · rw [if_neg (fun h => hz h.1)]
          rw [pow63] at ha2 ⊢
          refine ⟨b, hb.1, fun _ => by omega, ?_, ?_, ?_, ?_⟩
          · rw [Int.emod_eq_of_lt hb.1 (by omega)]
          · simp only []; omega
          · simp [encL]
          · simp [encL]
  | succ j ih =>
    intro i acc l hi ha ha2 hl hk
    have hpos := pow_pos2 (7 * i)
    cases l with
    | nil => simp [decGo] at hk
    | cons b r =>
      have hb := hl b (by simp)
      simp only [decGo] at hk ⊢
      rw [if_neg (by omega), if_neg (by omega)] at hk ⊢
      by_cases h1 : b < 128
      · rw [if_pos h1] at hk ⊢
        by_cases hz : b = 0 ∧ 0 < i
        · rw [if_pos hz] at hk; simp at hk
        · rw [if_neg hz]
          refine ⟨b, hb.1, fun hp => ?_, ?_, ?_, ?_, ?_⟩
          · have : b ≠ 0 := fun e => hz ⟨e, hp⟩
            omega
          · rw [Int.emod_eq_of_lt hb.1 (by omega)]
          · have := group_eq acc b i (by omega) ha ha2 hb.1 hb.2 (by omega)
            have h2 : (2 : Int) ^ (7 * (i + 1)) ≤ 2 ^ (7 * 9) := by exact_mod_cast Nat.pow_le_pow_right (by decide) (by omega)
            rw [pow63] at h2
            simp only []
            omega
          · rw [encL_small _ _ h1]; simp
          · rw [encL_small _ _ h1]; simp
      · rw [if_neg h1] at hk ⊢
        have hlt := (group_eq acc b i (by omega) ha ha2 hb.1 hb.2 (by omega)).2
        have hnn : 0 ≤ b % 128 * 2 ^ (7 * i) := Int.mul_nonneg (by omega) (Int.le_of_lt hpos)
        obtain ⟨n, n0, n1, n2, n3, n4, n5⟩ := ih (i + 1) (acc + b % 128 * 2 ^ (7 * i)) r (by omega) (by omega) hlt (fun x hx => hl x (by simp [hx])) hk
        have hn1 := n1 (by omega)
        refine ⟨n * 128 + b % 128, by omega, fun _ => by omega, ?_, n3, ?_, ?_⟩
        · rw [n2, pow7_succ, Int.add_mul, Int.mul_comm (2 ^ (7 * i)) 128, ← Int.mul_assoc]
          omega
        · rw [n4, encL_big _ _ (by omega), List.length_cons, show (n * 128 + b % 128) / 128 = n by omega]
          omega
        · rw [encL_big _ _ (by omega), List.length_cons, List.take_succ_cons, show (n * 128 + b % 128) / 128 = n by omega, n5]
          congr 1
          omega
theorem numsB_range (s : ByteArray) : ∀ x ∈ numsB s, 0 ≤ x ∧ x < 256 := by
  intro x hx
  unfold numsB at hx
  obtain ⟨y, _, rfl⟩ := List.mem_map.1 hx
  have := y.toNat_lt
  omega
theorem numsB_extract0 (s : ByteArray) (k : Nat) : numsB (s.extract 0 k) = (numsB s).take k := by
  unfold numsB
  rw [← List.map_take]
  congr 1
  simp [ByteArray.data_extract]
/-- What Number reads. -/
theorem decB_strict (s : ByteArray) (h : (decB s).2 ≠ 0) : 0 ≤ (decB s).1 ∧ (decB s).1 < 18446744073709551616 ∧ (decB s).2 = ((numE (decB s).1).size : Int) ∧ s.extract 0 (decB s).2.toNat = numE (decB s).1 := by
  obtain ⟨n, n0, _, n2, n3, n4, n5⟩ := enc_dec 9 0 0 (numsB s) rfl (by omega) (by decide) (numsB_range s) h
  have e : (decB s).1 = n := by unfold decB; rw [n2]; simp
  have hl : (numE n).size = (encL 9 n).length := by unfold numE; rw [strOfNums_size]
  have hk : (decB s).2 = ((encL 9 n).length : Int) := by unfold decB; rw [n4]; simp
  have hlt : n < 18446744073709551616 := by rw [← e]; exact n3
  rw [e]
  refine ⟨n0, hlt, by rw [hk, hl], ?_⟩
  apply numsB_inj
  rw [numsB_extract0, hk, Int.toNat_natCast, n5, numsB_numE n n0 hlt]
theorem encL_mono (j : Nat) : ∀ a b : Int, a ≤ b → (encL j a).length ≤ (encL j b).length := by
  induction j with
  | zero => intro a b _; simp [encL]
  | succ j ih =>
    intro a b h
    by_cases ha : a < 128
    · rw [encL_small _ _ ha]
      exact (encL_length _ b).1
    · rw [encL_big _ _ ha, encL_big _ _ (by omega), List.length_cons, List.length_cons]
      have := ih (a / 128) (b / 128) (by omega)
      omega
theorem numE_mono (a b : Int) (h : a ≤ b) : (numE a).size ≤ (numE b).size := by
  unfold numE
  rw [strOfNums_size, strOfNums_size]
  exact encL_mono 9 a b h
theorem numE_inj_front (a b : Int) (ha0 : 0 ≤ a) (ha1 : a < 18446744073709551616) (hb0 : 0 ≤ b) (hb1 : b < 18446744073709551616) (s t : ByteArray) (h : numE a ++ s = numE b ++ t) : a = b := by
  have h1 := decB_numE a s ha0 ha1
  have h2 := decB_numE b t hb0 hb1
  rw [h, h2] at h1
  exact (Prod.mk.inj h1).1.symm
end Go.Proofs.Ytegefemkmdlmaaa.P
end
section
-- Printed by a program of this session (hand.py) out of the translation. Lean checks it.
namespace Go.Proofs.Ytegefemkmdlmaaa.P
open Go.RowKit Go.Proofs.YtegefemkmdlmaaaW.PrintWords Go.Proofs.YtegefemkmdlmaaaW.PrintLast Go.Proofs.YtegefemkmdlmaaaW.PrintMore
attribute [local go_sem] max2_int min2_int max_two min_two max_three min_three max_four min_four   -- for this text's walks alone
set_option linter.unusedVariables false
set_option linter.unusedSimpArgs false

/-! ### wire_Reader_Int: function 73 -/
def wire_Reader_Int.f (s0_0 : ByteArray) (s0_1 : Int) : Option (Int × ByteArray × Int) := (wire_Reader_Number.f s0_0 s0_1).bind fun bt699 => (some (Go.bits .xor .i64 (wrap64 (bt699.1 / 2)) (wrap64 (-(wrap64 (Go.bits .and .u64 bt699.1 1)))), bt699.2.1, bt699.2.2))
set_option maxHeartbeats 8000000 in
set_option maxRecDepth 100000 in
theorem wire_Reader_Int.calls (g : Nat) (s0_0 : ByteArray) (s0_1 : Int) (r1 : Int) (r2 : ByteArray) (r3 : Int) (w0 w : World) (hI : IsS110 w0 w g s0_0 s0_1) (hB : Below w0.heap.size w0 w) (h : wire_Reader_Int.f s0_0 s0_1 = some (r1, r2, r3)) :
    Calls Try.prog 73 #[.pointer (some ⟨g, 0, none⟩)] w fun e w' => e = .returned (.int .i64 r1) ∧ IsS110 w0 w' g r2 r3 ∧ Below w0.heap.size w0 w' ∧ KeepBut w w' g none := by
  have HI0 := Aside0.mk hI
  have HK := Aside0.mk (KeepBut.refl w g none)
  have HL := Aside0.mk hB.size
  clear hI
  have HW0 := Aside0.mk hB.size
  have HB := Aside0.mk hB
  clear hB
  have H : ((wire_Reader_Number.f s0_0 s0_1).bind fun bt699 => (some (Go.bits .xor .i64 (wrap64 (bt699.1 / 2)) (wrap64 (-(wrap64 (Go.bits .and .u64 bt699.1 1)))), bt699.2.1, bt699.2.2))) = some (r1, r2, r3) := h
  clear h
  replace H := Option.bind_eq_some_iff.mp H
  obtain ⟨⟨t699, t700, t701⟩, A20, H⟩ := H
  replace H : (some (Go.bits .xor .i64 (wrap64 (t699 / 2)) (wrap64 (-(wrap64 (Go.bits .and .u64 t699 1)))), t700, t701)) = some (r1, r2, r3) := H
  have A2 := Aside0.mk A20
  clear A20
  simp only [Option.some.injEq, Prod.mk.injEq] at H
  obtain ⟨rfl, rfl, rfl⟩ := H
  go_enter Try.func73, Try.ntmps73
  go_wp2_with (first | ((with_reducible refine gate_callee (f := 71) rfl ?_); refine goesL_ (some 5) rfl rfl Try.func71 (by kernel_rfl) rfl #[.pointer (some ⟨g, 0, none⟩)] rfl (by (try simp only [List.map_toArray, List.map_cons, List.map_nil]); first | done | rfl | (simp only [List.length_drop, List.length_take]; rfl)) ?_; (with_reducible refine (wire_Reader_Number.calls g s0_0 s0_1 t699 t700 t701 w0 _ ?side1 ?side2 A2.out).mono ?_); (case side1 => repeat (first | (with_reducible first | exact HI0.out | apply IsS110.alloc | apply IsS110.drewN | apply IsS110.drew | apply IsS110.set_0 | apply IsS110.set_1) | exact HI0.out)); (case side2 => repeat (first | (with_reducible first | exact HB.out | apply below_alloc | apply pw_below_drewN | apply below_drew1 | refine below_set ?_ (IsS110.ge HI0.out)) | exact HB.out)); rintro e w3 ⟨rfl, hi, hb, hk⟩; refine ⟨_, rfl, ?_⟩; have n0_ := Aside0.mk (KeepBut.trans (by repeat (first | (with_reducible first | exact HK.out | apply KeepBut.set_ | apply keep_drewN | apply keep_drew | apply keep_alloc) | exact HK.out)) hk (.inl rfl)); have n1_ := Aside0.mk (hb); have n2_ := Aside0.mk (hi); clear HK; clear HB; clear HI0; have HK := n0_; have HB := n1_; have HI0 := n2_; clear n0_ n1_ n2_; (try clear hb); (try clear hb2); (try clear hk); (try clear hi)))
  go_ret
  exact ⟨by first | rfl | (simp [errW_none, errW_some] <;> rfl) | (simp [*, errW_none, errW_some] <;> rfl), by repeat (first | (with_reducible first | exact HI0.out | apply IsS110.alloc | apply IsS110.drewN | apply IsS110.drew | apply IsS110.set_0 | apply IsS110.set_1) | exact HI0.out), by repeat (first | (with_reducible first | exact HB.out | apply below_alloc | apply pw_below_drewN | apply below_drew1 | refine below_set ?_ (IsS110.ge HI0.out)) | exact HB.out), by repeat (first | (with_reducible first | exact HK.out | apply KeepBut.set_ | apply keep_drewN | apply keep_drew | apply keep_alloc) | exact HK.out)⟩

end Go.Proofs.Ytegefemkmdlmaaa.P
end
section
/- The contract of wire_Reader_Bool. -/
namespace Go.Proofs.Ytegefemkmdlmaaa.P
open Go.RowKit Go.Proofs.YtegefemkmdlmaaaW.PrintWords Go.Proofs.YtegefemkmdlmaaaW.PrintLast Go.Proofs.YtegefemkmdlmaaaW.PrintMore
set_option linter.unusedVariables false
set_option linter.unusedSimpArgs false
theorem nums_front (s : ByteArray) : (numsB s = [] ∧ s.size = 0) ∨ (0 < s.size ∧ numsB s = bt s 0 :: (numsB s).drop 1) := by
  by_cases h : 0 < s.size
  · right
    have := numsB_drop s 0 h
    simp only [List.drop_zero] at this
    exact ⟨h, this⟩
  · left
    have := numsB_drop_nil s 0 h
    simp only [List.drop_zero] at this
    exact ⟨this, by omega⟩
theorem empty_tells (s : ByteArray) : (s.size = 0 → (s.toList.isEmpty = true ∧ s.toList = [])) ∧ (0 < s.size → s.toList.isEmpty = false) := by
  rw [ByteArray.toList_eq]
  obtain ⟨⟨l⟩⟩ := s
  cases l with
  | nil => simp [ByteArray.size]
  | cons a l => simp [ByteArray.size]
set_option maxRecDepth 100000 in
set_option maxHeartbeats 2000000 in
theorem bool1_empty (s : ByteArray) (q : Nat) (w : World) (h : s.size = 0) :
    Calls Try.prog 111 #[.string s, .pointer (some ⟨q, 0, none⟩)] w fun e w' => e = .returned (.int .i64 0) ∧ ∃ m, w' = w.drewN m := by
  obtain ⟨h3, h4⟩ := (empty_tells s).1 h
  clear h
  go_enter Try.func111, Try.ntmps111
  go_wp2
  go_ret
  exact ⟨rfl, 0, rfl⟩
set_option maxRecDepth 100000 in
set_option maxHeartbeats 2000000 in
theorem bool1_great (s : ByteArray) (q : Nat) (w : World) (h : 0 < s.size) (hb : bt s 0 > 1) :
    Calls Try.prog 111 #[.string s, .pointer (some ⟨q, 0, none⟩)] w fun e w' => e = .returned (.int .i64 0) ∧ ∃ m, w' = w.drewN m := by
  have h3 := (empty_tells s).2 h
  have hx : (s[0]'h).toNat = bt s 0 := bt_at s 0 (by simpa using h)
  have hc : decide (((s[0]'h).toNat : Int) > 1) = true := decide_eq_true (by rw [hx]; exact hb)
  clear hx hb
  go_enter Try.func111, Try.ntmps111
  go_wp2
  go_ret
  exact ⟨rfl, 0, rfl⟩
set_option maxRecDepth 100000 in
set_option maxHeartbeats 2000000 in
theorem bool1_small (s : ByteArray) (q : Nat) (x : Bool) (w : World) (hq : w.heap[q]? = some (.cells #[.bool x] 4 (0, 0))) (h : 0 < s.size) (hb : ¬ bt s 0 > 1) :
    Calls Try.prog 111 #[.string s, .pointer (some ⟨q, 0, none⟩)] w fun e w' => e = .returned (.int .i64 1) ∧ ∃ m, w' = (w.drewN m).setCell ⟨q, 0, none⟩ (.bool (decide (bt s 0 = 1))) := by
  have h3 := (empty_tells s).2 h
  have hc0 : w.cell? ⟨q, 0, none⟩ = some (.bool x) := (blk_cell hq 0).trans rfl
  have hf0 := blk_frozen hq 0
  have hx : (s[0]'h).toNat = bt s 0 := bt_at s 0 (by simpa using h)
  have hc : decide (((s[0]'h).toNat : Int) > 1) = false := decide_eq_false (by rw [hx]; exact hb)
  have hd : (((s[0]'h).toNat : Int) == 1) = decide (bt s 0 = 1) := by rw [hx]; rfl
  clear hx hb hq
  go_enter Try.func111, Try.ntmps111
  go_wp2
  go_ret
  exact ⟨rfl, 0, rfl⟩
set_option maxRecDepth 100000 in
set_option maxHeartbeats 4000000 in
theorem wire_Reader_Bool.calls (g : Nat) (s0_0 : ByteArray) (s0_1 : Int) (r1 : Bool) (r2 : ByteArray) (r3 : Int) (w0 w : World) (hI : IsS110 w0 w g s0_0 s0_1) (hB : Below w0.heap.size w0 w) (h : wire_Reader_Bool.f s0_0 s0_1 = some (r1, r2, r3)) :
    Calls Try.prog 75 #[.pointer (some ⟨g, 0, none⟩)] w fun e w' => e = .returned (.bool r1) ∧ IsS110 w0 w' g r2 r3 ∧ Below w0.heap.size w0 w' ∧ KeepBut w w' g none := by
  have hmf : ∀ (fn : Fn) (first cap : Array Value) (w : World), (Instr.makeFunc fn first cap).run Try.prog w = .ok (.func fn first cap) w := fun _ _ _ _ => rfl
  have HI0 := Aside0.mk hI
  have HK := Aside0.mk (KeepBut.refl w g none)
  have hlt := IsS110.lt hI
  have hge := IsS110.ge hI
  clear hI
  have HB := Aside0.mk hB
  clear hB
  obtain ⟨HGz4, hgz4⟩ := HI0.out
  have hcz4_0 := cellS110_0 HGz4
  have hcz4_1 := cellS110_1 HGz4
  have hfz4_0 := blk_frozen HGz4 0
  have hfz4_1 := blk_frozen HGz4 1
  clear HGz4 hgz4
  unfold wire_Reader_Bool.f at h
  by_cases h0 : s0_1 = 0
  · rw [if_pos h0] at h
    have c1 : (s0_1 == 0) = true := beq_iff_eq.mpr h0
    have c2 : (s0_1 != 0) = false := bne_eq_false_iff_eq.mpr h0
    have H0 := Aside0.mk h0
    clear h0
    have hq : ((w.alloc (.cells #[.bool false] 4)).setCell ⟨w.heap.size, 0, none⟩ (.bool false)).heap[w.heap.size]? = some (.cells #[.bool false] 4 (0, 0)) := by
      rw [World.setCell_alloc_at _ _ _ _ _ rfl]
      exact heap_alloc_new w _
    have hq2 : (w.alloc (.cells #[.bool false] 4)).heap[w.heap.size]? = some (.cells #[.bool false] 4 (0, 0)) := heap_alloc_new w _
    have hne : ¬ w.heap.size = g := by omega
    rcases nums_front s0_0 with ⟨e1, e2⟩ | ⟨e1, e2⟩
    · rw [e1] at h
      simp only [Option.some.injEq, Prod.mk.injEq] at h
      obtain ⟨rfl, rfl, rfl⟩ := h
      have E1 := Aside0.mk e1
      have E2 := Aside0.mk e2
      clear e1 e2
      go_enter Try.func75, Try.ntmps75
      go_wp2_with (first | (go_at_call 108; go_in) | (go_at_call 111; refine (bool1_empty s0_0 w.heap.size _ E2.out).mono ?_; rintro e w1 ⟨rfl, ⟨m, rfl⟩⟩) | (go_at_call 104; go_in))
      first | go_end0 | ((try simp only [Exit.inBlock, Exit.then]); refine bodyPost_ret (results_none rfl _ _ _) rfl ?_)
      go_wp2
      first | go_end0 | ((try simp only [Exit.inBlock, Exit.then]); refine bodyPost_ret (results_none rfl _ _ _) rfl ?_)
      go_wp2
      go_ret
      refine ⟨rfl, ?_, ?_, ?_⟩
      · exact (((HI0.out.alloc (.cells #[.bool false] 4)).drewN m).set_1 11).set_0 ⟨#[]⟩
      · exact below_set (below_set (pw_below_drewN (below_alloc HB.out _) m) hge) hge
      · exact (((keep_drewN (keep_alloc HK.out _) m).set_ 1 _).set_ 0 _)
    · have hb0 := e2
      rw [e2] at h
      simp only [] at h
      by_cases hb : bt s0_0 0 > 1
      · rw [if_pos hb] at h
        simp only [Option.some.injEq, Prod.mk.injEq] at h
        obtain ⟨rfl, rfl, rfl⟩ := h
        have E1 := Aside0.mk e1
        have E2 := Aside0.mk hb
        clear e1 e2 hb hb0
        go_enter Try.func75, Try.ntmps75
        go_wp2_with (first | (go_at_call 108; go_in) | (go_at_call 111; refine (bool1_great s0_0 w.heap.size _ E1.out E2.out).mono ?_; rintro e w1 ⟨rfl, ⟨m, rfl⟩⟩) | (go_at_call 104; go_in))
        first | go_end0 | ((try simp only [Exit.inBlock, Exit.then]); refine bodyPost_ret (results_none rfl _ _ _) rfl ?_)
        go_wp2
        first | go_end0 | ((try simp only [Exit.inBlock, Exit.then]); refine bodyPost_ret (results_none rfl _ _ _) rfl ?_)
        go_wp2
        go_ret
        refine ⟨rfl, ?_, ?_, ?_⟩
        · exact (((HI0.out.alloc (.cells #[.bool false] 4)).drewN m).set_1 11).set_0 ⟨#[]⟩
        · exact below_set (below_set (pw_below_drewN (below_alloc HB.out _) m) hge) hge
        · exact (((keep_drewN (keep_alloc HK.out _) m).set_ 1 _).set_ 0 _)
      · rw [if_neg hb] at h
        simp only [Option.some.injEq, Prod.mk.injEq] at h
        obtain ⟨rfl, rfl, rfl⟩ := h
        have E1 := Aside0.mk e1
        have E2 := Aside0.mk hb
        have hs1 : 1 ≤ s0_0.size := e1
        clear e1 e2 hb hb0
        go_enter Try.func75, Try.ntmps75
        go_wp2_with (first | (go_at_call 108; go_in) | (go_at_call 111; refine (bool1_small s0_0 w.heap.size false _ (by first | exact hq | exact hq2) E1.out E2.out).mono ?_; rintro e w1 ⟨rfl, ⟨m, rfl⟩⟩))
        go_end0
        go_wp2
        go_ret
        refine ⟨rfl, ?_, ?_, ?_⟩
        · have hi := (((HI0.out.alloc (.cells #[.bool false] 4)).drewN m).far (p := ⟨w.heap.size, 0, none⟩) (fun e => hne e.symm) (.bool (decide (bt s0_0 0 = 1)))).set_0 (s0_0.extract 1 s0_0.size)
          rw [H0.out] at hi
          exact hi
        · exact below_set (below_set (pw_below_drewN (below_alloc HB.out _) m) (Nat.le_trans HB.out.size (Nat.le_refl _))) hge
        · exact ((keep_far (keep_drewN (keep_alloc HK.out _) m) (Nat.le_refl _) _).set_ 0 _)
  · rw [if_neg h0] at h
    simp only [Option.some.injEq, Prod.mk.injEq] at h
    obtain ⟨rfl, rfl, rfl⟩ := h
    have c1 : (s0_1 == 0) = false := beq_eq_false_iff_ne.mpr h0
    have c2 : (s0_1 != 0) = true := bne_iff_ne.mpr h0
    clear h0
    go_enter Try.func75, Try.ntmps75
    go_wp2
    first | go_end0 | ((try simp only [Exit.inBlock, Exit.then]); refine bodyPost_ret (results_none rfl _ _ _) rfl ?_)
    go_wp2
    go_ret
    exact ⟨rfl, HI0.out.alloc _, below_alloc HB.out _, keep_alloc HK.out _⟩
end Go.Proofs.Ytegefemkmdlmaaa.P
end
section
-- Printed by a program of this session (hand.py) out of the translation. Lean checks it.
namespace Go.Proofs.Ytegefemkmdlmaaa.P
open Go.RowKit Go.Proofs.YtegefemkmdlmaaaW.PrintWords Go.Proofs.YtegefemkmdlmaaaW.PrintLast Go.Proofs.YtegefemkmdlmaaaW.PrintMore
attribute [local go_sem] max2_int min2_int max_two min_two max_three min_three max_four min_four   -- for this text's walks alone
set_option linter.unusedVariables false
set_option linter.unusedSimpArgs false

/-! ### wire_Reader_Left: function 78 -/
def wire_Reader_Left.f (s0_0 : ByteArray) (s0_1 : Int) : Option (Int × ByteArray × Int) := some ((s0_0.size : Int), s0_0, s0_1)
set_option maxHeartbeats 8000000 in
set_option maxRecDepth 100000 in
theorem wire_Reader_Left.calls (g : Nat) (s0_0 : ByteArray) (s0_1 : Int) (r1 : Int) (r2 : ByteArray) (r3 : Int) (w0 w : World) (hI : IsS110 w0 w g s0_0 s0_1) (hB : Below w0.heap.size w0 w) (h : wire_Reader_Left.f s0_0 s0_1 = some (r1, r2, r3)) :
    Calls Try.prog 78 #[.pointer (some ⟨g, 0, none⟩)] w fun e w' => e = .returned (.int .i64 r1) ∧ IsS110 w0 w' g r2 r3 ∧ Below w0.heap.size w0 w' ∧ KeepBut w w' g none := by
  have HI0 := Aside0.mk hI
  have HK := Aside0.mk (KeepBut.refl w g none)
  have HL := Aside0.mk hB.size
  clear hI
  have HW0 := Aside0.mk hB.size
  have HB := Aside0.mk hB
  clear hB
  have H : (some ((s0_0.size : Int), s0_0, s0_1)) = some (r1, r2, r3) := h
  clear h
  simp only [Option.some.injEq, Prod.mk.injEq] at H
  obtain ⟨rfl, rfl, rfl⟩ := H
  obtain ⟨HGz2, hgz2⟩ := HI0.out
  have hcz2_0 := cellS110_0 HGz2
  have hcz2_1 := cellS110_1 HGz2
  have hfz2_0 := blk_frozen HGz2 0
  have hfz2_1 := blk_frozen HGz2 1
  clear HGz2 hgz2
  go_enter Try.func78, Try.ntmps78
  go_wp2
  go_ret
  exact ⟨by first | rfl | (simp [errW_none, errW_some] <;> rfl) | (simp [*, errW_none, errW_some] <;> rfl), by repeat (first | (with_reducible first | exact HI0.out | apply IsS110.alloc | apply IsS110.drewN | apply IsS110.drew | apply IsS110.set_0 | apply IsS110.set_1) | exact HI0.out), by repeat (first | (with_reducible first | exact HB.out | apply below_alloc | apply pw_below_drewN | apply below_drew1 | refine below_set ?_ (IsS110.ge HI0.out)) | exact HB.out), by repeat (first | (with_reducible first | exact HK.out | apply KeepBut.set_ | apply keep_drewN | apply keep_drew | apply keep_alloc) | exact HK.out)⟩

end Go.Proofs.Ytegefemkmdlmaaa.P
end
section
-- Printed by a program of this session (hand.py) out of the translation. Lean checks it.
namespace Go.Proofs.Ytegefemkmdlmaaa.P
open Go.RowKit Go.Proofs.YtegefemkmdlmaaaW.PrintWords Go.Proofs.YtegefemkmdlmaaaW.PrintLast Go.Proofs.YtegefemkmdlmaaaW.PrintMore
attribute [local go_sem] max2_int min2_int max_two min_two max_three min_three max_four min_four   -- for this text's walks alone
set_option linter.unusedVariables false
set_option linter.unusedSimpArgs false

/-! ### wire_Reader_Rest: function 79 -/
def wire_Reader_Rest.f (s0_0 : ByteArray) (s0_1 : Int) : Option (ByteArray × ByteArray × Int) := some (s0_0, s0_0, s0_1)
set_option maxHeartbeats 8000000 in
set_option maxRecDepth 100000 in
theorem wire_Reader_Rest.calls (g : Nat) (s0_0 : ByteArray) (s0_1 : Int) (r1 : ByteArray) (r2 : ByteArray) (r3 : Int) (w0 w : World) (hI : IsS110 w0 w g s0_0 s0_1) (hB : Below w0.heap.size w0 w) (h : wire_Reader_Rest.f s0_0 s0_1 = some (r1, r2, r3)) :
    Calls Try.prog 79 #[.pointer (some ⟨g, 0, none⟩)] w fun e w' => e = .returned (.string r1) ∧ IsS110 w0 w' g r2 r3 ∧ Below w0.heap.size w0 w' ∧ KeepBut w w' g none := by
  have HI0 := Aside0.mk hI
  have HK := Aside0.mk (KeepBut.refl w g none)
  have HL := Aside0.mk hB.size
  clear hI
  have HW0 := Aside0.mk hB.size
  have HB := Aside0.mk hB
  clear hB
  have H : (some (s0_0, s0_0, s0_1)) = some (r1, r2, r3) := h
  clear h
  simp only [Option.some.injEq, Prod.mk.injEq] at H
  obtain ⟨rfl, rfl, rfl⟩ := H
  obtain ⟨HGz2, hgz2⟩ := HI0.out
  have hcz2_0 := cellS110_0 HGz2
  have hcz2_1 := cellS110_1 HGz2
  have hfz2_0 := blk_frozen HGz2 0
  have hfz2_1 := blk_frozen HGz2 1
  clear HGz2 hgz2
  go_enter Try.func79, Try.ntmps79
  go_wp2
  go_ret
  exact ⟨by first | rfl | (simp [errW_none, errW_some] <;> rfl) | (simp [*, errW_none, errW_some] <;> rfl), by repeat (first | (with_reducible first | exact HI0.out | apply IsS110.alloc | apply IsS110.drewN | apply IsS110.drew | apply IsS110.set_0 | apply IsS110.set_1) | exact HI0.out), by repeat (first | (with_reducible first | exact HB.out | apply below_alloc | apply pw_below_drewN | apply below_drew1 | refine below_set ?_ (IsS110.ge HI0.out)) | exact HB.out), by repeat (first | (with_reducible first | exact HK.out | apply KeepBut.set_ | apply keep_drewN | apply keep_drew | apply keep_alloc) | exact HK.out)⟩

end Go.Proofs.Ytegefemkmdlmaaa.P
end
section
/- Plain words on readers, and that the program's reading functions answer them. No memory in sight. -/
namespace Go.Proofs.Ytegefemkmdlmaaa.P
open Go.RowKit Go.Proofs.YtegefemkmdlmaaaW.PrintWords Go.Proofs.YtegefemkmdlmaaaW.PrintLast Go.Proofs.YtegefemkmdlmaaaW.PrintMore
/-- A number read: the number, the bytes that are left, the error. -/
def readN (s : ByteArray) (e : Int) : Int × ByteArray × Int :=
  if e = 0 then (if (decB s).2 = 0 then (0, ⟨#[]⟩, 11) else ((decB s).1, s.extract (decB s).2.toNat s.size, 0)) else (0, s, e)
/-- The integer for which a number stands. -/
def unzig (n : Int) : Int := if n % 2 = 1 then -(n / 2) - 1 else n / 2
def readI (s : ByteArray) (e : Int) : Int × ByteArray × Int := (unzig (readN s e).1, (readN s e).2)
def readB (s : ByteArray) (e : Int) : Bool × ByteArray × Int :=
  if e = 0 then (if s.size = 0 ∨ bt s 0 > 1 then (false, ⟨#[]⟩, 11) else (decide (bt s 0 = 1), s.extract 1 s.size, 0)) else (false, s, e)
def readC (s : ByteArray) (e most : Int) : Int × ByteArray × Int :=
  if (readN s e).2.2 = 0 then (if most < 0 ∨ (readN s e).1 > most then (0, ⟨#[]⟩, 8) else readN s e) else (0, (readN s e).2)
def readT (s : ByteArray) (e most : Int) : ByteArray × ByteArray × Int :=
  if (readC s e most).2.2 = 0 then (if (readC s e most).1 > ((readC s e most).2.1.size : Int) then (⟨#[]⟩, ⟨#[]⟩, 11) else
    ((readC s e most).2.1.extract 0 (readC s e most).1.toNat, (readC s e most).2.1.extract (readC s e most).1.toNat (readC s e most).2.1.size, 0)) else (⟨#[]⟩, (readC s e most).2)
theorem decGo_zero (l : List Int) : ∀ (i : Nat) (n : Int), (decGo i n l).2 = 0 → (decGo i n l).1 = 0 := by
  induction l with
  | nil => intro i n _; rfl
  | cons b r ih =>
    intro i n
    simp only [decGo]
    split
    · simp
    · split
      · simp
      · split
        · split
          · simp
          · intro h; simp at h; omega
        · exact ih _ _
theorem decB_zero (s : ByteArray) (h : (decB s).2 = 0) : (decB s).1 = 0 := decGo_zero _ _ _ h
theorem number_eq (s : ByteArray) (e : Int) : wire_Reader_Number.f s e = some (readN s e) := by
  unfold wire_Reader_Number.f readN
  by_cases h : e = 0
  · rw [if_pos h, if_pos h]
    by_cases h2 : (decB s).2 = 0
    · rw [if_pos h2, if_pos h2, decB_zero s h2]
    · rw [if_neg h2, if_neg h2]
  · rw [if_neg h, if_neg h]
theorem readN_range (s : ByteArray) (e : Int) : 0 ≤ (readN s e).1 ∧ (readN s e).1 < 18446744073709551616 := by
  unfold readN
  split
  · split
    · decide
    · rename_i h; have := decB_strict s h; exact ⟨this.1, this.2.1⟩
  · exact ⟨Int.le_refl 0, by show (0 : Int) < _; omega⟩
theorem readN_size (s : ByteArray) (e : Int) : (readN s e).2.1.size ≤ s.size := by
  unfold readN
  split
  · split
    · exact Nat.zero_le _
    · show (s.extract _ _).size ≤ _
      rw [ByteArray.size_extract]; omega
  · exact Nat.le_refl _
theorem readN_err (s : ByteArray) (e : Int) (h : (readN s e).2.2 ≠ 0) : (readN s e).1 = 0 := by
  unfold readN at h ⊢
  split
  · rename_i h1
    rw [if_pos h1] at h
    split
    · rfl
    · rename_i h2
      rw [if_neg h2] at h
      exact absurd rfl h
  · rfl
theorem i64_u64 (n : Int) (h0 : 0 ≤ n) (h1 : n ≤ 9223372036854775807) : IntKind.u64.wrap n = n := u64_in n h0 (by omega)
theorem count_eq (s : ByteArray) (e most : Int) (hm : most ≤ 9223372036854775807) : wire_Reader_Count.f s e most = some (readC s e most) := by
  unfold wire_Reader_Count.f readC
  rw [number_eq]
  simp only [Option.bind_some]
  have hr := readN_range s e
  by_cases h : (readN s e).2.2 = 0
  · simp only [if_pos h]
    unfold wire_Reader_fail.f
    rw [if_pos h]
    simp only [Option.bind_some]
    by_cases h1 : most < 0
    · rw [if_pos h1, if_pos (Or.inl h1)]
    · rw [if_neg h1, i64_u64 most (by omega) hm]
      by_cases h2 : (readN s e).1 > most
      · rw [if_pos h2, if_pos (Or.inr h2)]
      · rw [if_neg h2, if_neg (by omega)]
        have : wrap64 (readN s e).1 = (readN s e).1 := by unfold wrap64; omega
        rw [this]
  · simp only [if_neg h]
theorem readC_range (s : ByteArray) (e most : Int) : 0 ≤ (readC s e most).1 ∧ ((readC s e most).2.2 = 0 → (readC s e most).1 ≤ most) := by
  have hr := readN_range s e
  unfold readC
  by_cases h : (readN s e).2.2 = 0
  · rw [if_pos h]
    split
    · simp
    · exact ⟨hr.1, fun _ => by omega⟩
  · rw [if_neg h]
    exact ⟨by simp, fun h2 => absurd h2 h⟩
theorem text_eq (s : ByteArray) (e most : Int) (hm : most ≤ 9223372036854775807) : wire_Reader_Text.f s e most = some (readT s e most) := by
  unfold wire_Reader_Text.f readT
  rw [count_eq s e most hm]
  simp only [Option.bind_some]
  have hr := readC_range s e most
  by_cases h : (readC s e most).2.2 = 0
  · simp only [if_pos h]
    unfold wire_Reader_fail.f
    rw [if_pos h]
    simp only [Option.bind_some]
    by_cases h1 : (readC s e most).1 > ((readC s e most).2.1.size : Int)
    · rw [if_pos h1, if_pos h1]
    · rw [if_neg h1, if_neg h1, if_pos hr.1, if_pos (by omega), h]
  · simp only [if_neg h]
theorem bool_eq (s : ByteArray) (e : Int) : wire_Reader_Bool.f s e = some (readB s e) := by
  unfold wire_Reader_Bool.f readB
  by_cases h : e = 0
  · rw [if_pos h, if_pos h]
    by_cases h2 : 0 < s.size
    · have hd := numsB_drop s 0 h2
      rw [List.drop_zero, show ((0 : Nat) : Int) = 0 from rfl] at hd
      rw [hd]
      simp only []
      by_cases h3 : bt s 0 > 1
      · rw [if_pos h3, if_pos (Or.inr h3)]
      · rw [if_neg h3, if_neg (by rintro (h | h); omega; exact h3 h)]
    · have hd := numsB_drop_nil s 0 h2
      rw [List.drop_zero] at hd
      rw [hd, if_pos (Or.inl (by omega))]
  · rw [if_neg h, if_neg h]
theorem xor_i64 (x y : Int) (hx0 : 0 ≤ x) (hx : x < 9223372036854775808) (hy : y = 0 ∨ y = -1) : bits .xor .i64 x y = if y = 0 then x else -x - 1 := by
  obtain ⟨a, rfl⟩ : ∃ a : Nat, x = a := ⟨x.toNat, by omega⟩
  have ha : a % 2 ^ 64 = a := Nat.mod_eq_of_lt (by omega)
  rcases hy with rfl | rfl
  · rw [if_pos rfl]
    show IntKind.i64.wrap ((BitVec.ofInt 64 (a : Int) ^^^ BitVec.ofInt 64 0).toNat : Int) = a
    rw [BitVec.ofInt_natCast, show BitVec.ofInt 64 0 = 0#64 from rfl, BitVec.xor_zero, BitVec.toNat_ofNat, ha]
    rw [show IntKind.i64.wrap (a : Int) = wrap64 (a : Int) from i64_w _]
    unfold wrap64; omega
  · rw [if_neg (by omega)]
    show IntKind.i64.wrap ((BitVec.ofInt 64 (a : Int) ^^^ BitVec.ofInt 64 (-1)).toNat : Int) = _
    rw [BitVec.ofInt_natCast, show BitVec.ofInt 64 (-1) = BitVec.allOnes 64 from by decide, BitVec.xor_allOnes, BitVec.toNat_not, BitVec.toNat_ofNat, ha]
    rw [show IntKind.i64.wrap _ = wrap64 _ from i64_w _]
    unfold wrap64; omega
theorem and_one_u64 (n : Int) (h0 : 0 ≤ n) (h1 : n < 18446744073709551616) : bits .and .u64 n 1 = n % 2 :=
  bits_mask .u64 64 (by decide) (fun n h0 h1 => u64_wraps n h0 h1) 1 (by decide) n h0 (by simpa using h1)
theorem int_eq (s : ByteArray) (e : Int) : wire_Reader_Int.f s e = some (readI s e) := by
  unfold wire_Reader_Int.f readI
  rw [number_eq]
  simp only [Option.bind_some]
  have hr := readN_range s e
  generalize (readN s e).1 = n at hr
  congr 2
  rw [and_one_u64 n hr.1 hr.2]
  have e1 : wrap64 (n / 2) = n / 2 := by unfold wrap64; omega
  have e2 : wrap64 (n % 2) = n % 2 := by unfold wrap64; omega
  have e3 : wrap64 (-(n % 2)) = -(n % 2) := by unfold wrap64; omega
  rw [e1, e2, e3, xor_i64 _ _ (by omega) (by omega) (by omega)]
  unfold unzig
  by_cases h : n % 2 = 1
  · rw [if_pos h, if_neg (by omega)]
  · rw [if_neg h, if_pos (by omega)]
theorem end_eq (s : ByteArray) (e : Int) : wire_Reader_End.f s e = some (if e = 0 ∧ s.size ≠ 0 then 11 else e, s, e) := rfl
end Go.Proofs.Ytegefemkmdlmaaa.P
end
section
/- Plain laws: reading encodings that stand in front, and what was read stood there. -/
namespace Go.Proofs.Ytegefemkmdlmaaa.P
open Go.RowKit Go.Proofs.YtegefemkmdlmaaaW.PrintWords Go.Proofs.YtegefemkmdlmaaaW.PrintLast Go.Proofs.YtegefemkmdlmaaaW.PrintMore
theorem ba_tail (a b : ByteArray) : (a ++ b).extract a.size (a ++ b).size = b := by
  apply ba_ext
  rw [extract_list, data_append, ByteArray.size_append]
  rw [show a.size = a.data.toList.length from rfl, List.drop_left, Nat.add_sub_cancel_left]
  rw [show b.size = b.data.toList.length from rfl, List.take_length]
theorem ba_head (a b : ByteArray) : (a ++ b).extract 0 a.size = a := by
  apply ba_ext
  rw [extract_list, data_append, List.drop_zero, Nat.sub_zero]
  rw [show a.size = a.data.toList.length from rfl, List.take_left]
theorem readN_numE (n : Int) (t : ByteArray) (h0 : 0 ≤ n) (h1 : n < 18446744073709551616) : readN (numE n ++ t) 0 = (n, t, 0) := by
  have hs := numE_size n
  unfold readN
  rw [if_pos rfl, decB_numE n t h0 h1]
  simp only []
  rw [if_neg (by omega), Int.toNat_natCast, ba_tail]
theorem unzig_zig (n : Int) : unzig (zig n) = n := by
  unfold unzig zig
  split <;> split <;> omega
theorem zig_unzig (n : Int) (h0 : 0 ≤ n) : zig (unzig n) = n := by
  unfold unzig zig
  split <;> split <;> omega
theorem unzig_range (n : Int) (h0 : 0 ≤ n) (h1 : n < 18446744073709551616) : -9223372036854775808 ≤ unzig n ∧ unzig n ≤ 9223372036854775807 := by
  unfold unzig
  split <;> omega
theorem readI_numE (n : Int) (t : ByteArray) (h0 : -9223372036854775808 ≤ n) (h1 : n ≤ 9223372036854775807) : readI (numE (zig n) ++ t) 0 = (n, t, 0) := by
  have hz := zig_range n h0 h1
  unfold readI
  rw [readN_numE _ t hz.1 hz.2, unzig_zig]
/-- The byte of a truth value. -/
def boolE (b : Bool) : ByteArray := if b = true then ⟨#[1]⟩ else ⟨#[0]⟩
theorem boolE_size (b : Bool) : (boolE b).size = 1 := by cases b <;> rfl
theorem readB_boolE (b : Bool) (t : ByteArray) : readB (boolE b ++ t) 0 = (b, t, 0) := by
  have hsz : (boolE b ++ t).size = 1 + t.size := by rw [ByteArray.size_append, boolE_size]
  have hb : bt (boolE b ++ t) 0 = if b = true then 1 else 0 := by
    have h := numsB_drop (boolE b ++ t) 0 (by omega)
    rw [List.drop_zero, numsB_append] at h
    have h2 : numsB (boolE b) = [if b = true then 1 else 0] := by cases b <;> rfl
    rw [h2, List.singleton_append] at h
    exact (List.cons.inj h).1.symm
  unfold readB
  rw [if_pos rfl, hb, if_neg (by rintro (h | h); omega; cases b <;> simp at h)]
  have ht : (boolE b ++ t).extract 1 (boolE b ++ t).size = t := by
    have := ba_tail (boolE b) t
    rwa [boolE_size] at this
  rw [ht]
  cases b <;> rfl
theorem readT_textE (x t : ByteArray) (h : x.size ≤ 140737488355328) : readT (numE x.size ++ x ++ t) 0 x.size = (x, t, 0) := by
  have hC : readC (numE x.size ++ x ++ t) 0 x.size = ((x.size : Int), x ++ t, 0) := by
    unfold readC
    rw [ba_append_assoc, readN_numE _ _ (by omega) (by omega)]
    simp only [if_true]
    rw [if_neg (by omega)]
  unfold readT
  rw [hC]
  simp only [if_true, Int.toNat_natCast]
  rw [if_neg (by rw [ByteArray.size_append]; omega), ba_head, ba_tail]
theorem readN_got (s : ByteArray) : readN s 0 = (0, ⟨#[]⟩, 11) ∨ ∃ n t, readN s 0 = (n, t, 0) ∧ 0 ≤ n ∧ n < 18446744073709551616 ∧ s = numE n ++ t := by
  unfold readN
  rw [if_pos rfl]
  by_cases h : (decB s).2 = 0
  · rw [if_pos h]; exact Or.inl rfl
  · rw [if_neg h]
    obtain ⟨h0, h1, h2, h3⟩ := decB_strict s h
    refine Or.inr ⟨_, _, rfl, h0, h1, ?_⟩
    rw [← h3]
    exact ba_split s _
theorem readI_got (s : ByteArray) : readI s 0 = (0, ⟨#[]⟩, 11) ∨ ∃ n t, readI s 0 = (n, t, 0) ∧ -9223372036854775808 ≤ n ∧ n ≤ 9223372036854775807 ∧ s = numE (zig n) ++ t := by
  unfold readI
  rcases readN_got s with h | ⟨n, t, h, h0, h1, h2⟩
  · rw [h]; exact Or.inl rfl
  · rw [h]
    have := unzig_range n h0 h1
    exact Or.inr ⟨_, _, rfl, this.1, this.2, by rw [zig_unzig n h0]; exact h2⟩
theorem readB_got (s : ByteArray) : readB s 0 = (false, ⟨#[]⟩, 11) ∨ ∃ b t, readB s 0 = (b, t, 0) ∧ s = boolE b ++ t := by
  unfold readB
  rw [if_pos rfl]
  by_cases h : s.size = 0 ∨ bt s 0 > 1
  · rw [if_pos h]; exact Or.inl rfl
  · rw [if_neg h]
    refine Or.inr ⟨_, _, rfl, ?_⟩
    have hs : 0 < s.size := by omega
    have hr := bt_range s 0
    have hh : s.extract 0 1 = boolE (decide (bt s 0 = 1)) := by
      apply numsB_inj
      have hd := numsB_drop s 0 hs
      rw [List.drop_zero, show ((0 : Nat) : Int) = 0 from rfl] at hd
      rw [numsB_extract0, hd]
      by_cases h1 : bt s 0 = 1
      · rw [h1]; rfl
      · rw [show bt s 0 = 0 by omega]; rfl
    rw [← hh]
    exact ba_split s 1
theorem readT_got (s : ByteArray) (m : Int) : (∃ e, readT s 0 m = (⟨#[]⟩, ⟨#[]⟩, e) ∧ e ≠ 0) ∨ ∃ x t, readT s 0 m = (x, t, 0) ∧ (x.size : Int) ≤ m ∧ s = numE x.size ++ x ++ t := by
  unfold readT readC
  rcases readN_got s with h | ⟨n, t, h, h0, h1, h2⟩
  · rw [h]; exact Or.inl ⟨11, rfl, by decide⟩
  · rw [h]
    simp only [if_true]
    by_cases hc : m < 0 ∨ n > m
    · rw [if_pos hc]; exact Or.inl ⟨8, rfl, by decide⟩
    · rw [if_neg hc]
      simp only [if_true]
      by_cases h3 : n > (t.size : Int)
      · rw [if_pos h3]; exact Or.inl ⟨11, rfl, by decide⟩
      · rw [if_neg h3]
        have hsz : (t.extract 0 n.toNat).size = n.toNat := by rw [ByteArray.size_extract]; omega
        refine Or.inr ⟨_, _, rfl, by rw [hsz]; omega, ?_⟩
        rw [hsz, show ((n.toNat : Nat) : Int) = n by omega, ba_append_assoc, ← ba_split t n.toNat]
        exact h2
theorem appendBool_eq (s : ByteArray) (b : Bool) (hs : s.size ≤ 140737488355328) : wire_AppendBool.f s b = some (s ++ boolE b) := by
  unfold wire_AppendBool.f boolE
  cases b
  · rw [if_neg (by simp), if_pos (by omega), if_neg (by simp)]
  · rw [if_pos rfl, if_pos (by omega), if_pos rfl]
theorem appendText_eq (s x : ByteArray) (hs : s.size ≤ 140737488355328) (hx : x.size ≤ 140737488355328) : wire_AppendText.f s x = some (s ++ (numE x.size ++ x)) := by
  unfold wire_AppendText.f
  have hn := numE_size (x.size : Int)
  rw [u64_in _ (by omega) (by omega), appendNumber_eq s _ (by omega) (by omega) hs]
  simp only [Option.bind_some]
  rw [if_pos (by rw [ByteArray.size_append]; omega), ba_append_assoc]
end Go.Proofs.Ytegefemkmdlmaaa.P
end
