/- Plain words on reading a number, a truth value: what the bytes at the front tell. No program in sight. -/
import Derived.Test.YtegefemkmdlmaaaEnc
namespace Go.Proofs.Ytegefemkmdlmaaa.P
/-- The bytes of a text as numbers. -/
def numsB (s : ByteArray) : List Int := s.data.toList.map fun x => (x.toNat : Int)
/-- The number at the front of bytes and how many bytes it has (0: none), from byte i on, with what was read before. -/
def decGo (i : Nat) (n : Int) : List Int → Int × Int
  | [] => (0, 0)
  | b :: r => if 10 ≤ i then (0, 0) else if i = 9 ∧ b > 1 then (0, 0) else if b < 128 then (if b = 0 ∧ 0 < i then (0, 0) else (n + b % 128 * 2 ^ (7 * i), (i : Int) + 1)) else decGo (i + 1) (n + b % 128 * 2 ^ (7 * i)) r
def decB (s : ByteArray) : Int × Int := decGo 0 0 (numsB s)
/-- A reader's state behind Number, with what it returns. -/
def wire_Reader_Number.f (s0_0 : ByteArray) (s0_1 : Int) : Option (Int × ByteArray × Int) :=
  if s0_1 = 0 then (if (decB s0_0).2 = 0 then some ((decB s0_0).1, ⟨#[]⟩, 11) else some ((decB s0_0).1, s0_0.extract (decB s0_0).2.toNat s0_0.size, 0)) else some (0, s0_0, s0_1)
/-- A reader's state behind Bool, with what it returns. -/
def wire_Reader_Bool.f (s0_0 : ByteArray) (s0_1 : Int) : Option (Bool × ByteArray × Int) :=
  if s0_1 = 0 then (match numsB s0_0 with
    | [] => some (false, ⟨#[]⟩, 11)
    | b :: _ => if b > 1 then some (false, ⟨#[]⟩, 11) else some (decide (b = 1), s0_0.extract 1 s0_0.size, 0)) else some (false, s0_0, s0_1)
/-- A reader's state behind End, with what it returns. -/
def wire_Reader_End.f (s0_0 : ByteArray) (s0_1 : Int) : Option (Int × ByteArray × Int) :=
  some (if s0_1 = 0 ∧ s0_0.size ≠ 0 then 11 else s0_1, s0_0, s0_1)
end Go.Proofs.Ytegefemkmdlmaaa.P
