/- Plain words on the encoding of a number: its list of groups, as numbers. No program in sight. -/
import Derived.Laws.BytesArg
namespace Go.Proofs.Ytegefemkmdlmaaa.P
/-- The groups of seven bits of a number, at most k + 1 of them. -/
def encL : Nat → Int → List Int
  | 0, n => [n]
  | k + 1, n => if n < 128 then [n] else (n % 128 + 128) :: encL k (n / 128)
theorem encL_ne (k : Nat) (n : Int) : encL k n ≠ [] := by
  cases k <;> simp only [encL]
  · simp
  · split <;> simp
theorem encL_length (k : Nat) : ∀ n, 1 ≤ (encL k n).length ∧ (encL k n).length ≤ k + 1 := by
  induction k with
  | zero => intro n; simp [encL]
  | succ k ih =>
    intro n
    simp only [encL]
    have := ih (n / 128)
    split
    · simp
    · rw [List.length_cons]; omega
theorem encL_small (k : Nat) (n : Int) (h : n < 128) : encL k n = [n] := by
  cases k <;> simp [encL, h]
theorem encL_big (k : Nat) (n : Int) (h : ¬ n < 128) : encL (k + 1) n = (n % 128 + 128) :: encL k (n / 128) := by
  simp [encL, h]
/-- What AppendNumber returns; outside the numbers of 64 bits, and past Go's longest string, nothing is told. -/
def wire_AppendNumber.f (a0 : ByteArray) (a1 : Int) : Option ByteArray :=
  if 0 ≤ a1 ∧ a1 < 18446744073709551616 ∧ a0.size + 10 ≤ 9223372036854775807 then some (a0 ++ strOfNums (encL 9 a1)) else none
/-- The ten cells, while the first of them are filled. -/
def cells10 (done : List Int) : Array Value := ((done ++ List.replicate (10 - done.length) 0).map (Value.int .u8)).toArray
theorem cells10_size (done : List Int) (h : done.length ≤ 10) : (cells10 done).size = 10 := by
  simp [cells10]; omega
theorem cells10_set (done : List Int) (h : done.length < 10) (v : Int) :
    (cells10 done).setIfInBounds done.length (.int .u8 v) = cells10 (done ++ [v]) := by
  unfold cells10
  have e : List.replicate (10 - done.length) (0 : Int) = 0 :: List.replicate (10 - (done ++ [v]).length) 0 := by
    rw [← List.replicate_succ]; congr 1; simp; omega
  rw [e]
  simp [List.setIfInBounds_toArray]
theorem cells10_get (done : List Int) (i : Nat) (h : i < done.length) : (cells10 done)[i]? = some (.int .u8 (done.getD i 0)) := by
  simp only [cells10, List.map_append, List.getElem?_toArray]
  rw [List.getElem?_append_left (by simpa using h)]
  simp [List.getElem?_eq_getElem h, List.getD_eq_getElem?_getD]
end Go.Proofs.Ytegefemkmdlmaaa.P
