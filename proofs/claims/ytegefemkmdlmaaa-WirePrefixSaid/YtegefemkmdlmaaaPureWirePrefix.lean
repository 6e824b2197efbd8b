/- The pure statement of WirePrefix: no encoding of a number is the beginning of another one's, and a greater number has no shorter encoding. -/
import Derived.OpenShut
import Derived.Test.YtegefemkmdlmaaaF4
import Derived.Test.YtegefemkmdlmaaaAwk1
import Derived.Test.YtegefemkmdlmaaaEnc3
namespace Go.Proofs.Ytegefemkmdlmaaa.Pure
open Go.RowKit Go.Proofs.Ytegefemkmdlmaaa.P Go.Proofs.YtegefemkmdlmaaaW.PrintWords Go.Proofs.YtegefemkmdlmaaaW.PrintLast Go.Proofs.YtegefemkmdlmaaaW.PrintMore
theorem front_eq (a b : Int) (ha0 : 0 ≤ a) (ha1 : a < 18446744073709551616) (hb0 : 0 ≤ b) (hb1 : b < 18446744073709551616) (m : Nat) (hm : m = (numE a).size ∨ m = (numE b).size) (h : (numE a).extract 0 m = (numE b).extract 0 m) : a = b := by
  rcases hm with rfl | rfl
  · have h1 : (numE a).extract 0 (numE a).size = numE a := ByteArray.extract_zero_size
    rw [h1] at h
    have h2 : numE b = numE a ++ (numE b).extract (numE a).size (numE b).size := (ba_split (numE b) (numE a).size).trans (by rw [← h])
    refine numE_inj_front a b ha0 ha1 hb0 hb1 ((numE b).extract (numE a).size (numE b).size) ByteArray.empty ?_
    rw [← h2, ByteArray.append_empty]
  · have h1 : (numE b).extract 0 (numE b).size = numE b := ByteArray.extract_zero_size
    rw [h1] at h
    have h2 : numE a = numE b ++ (numE a).extract (numE b).size (numE a).size := (ba_split (numE a) (numE b).size).trans (by rw [h])
    refine (numE_inj_front b a hb0 hb1 ha0 ha1 ((numE a).extract (numE b).size (numE a).size) ByteArray.empty ?_).symm
    rw [← h2, ByteArray.append_empty]
theorem front_tells (a b : Int) (ha0 : 0 ≤ a) (ha1 : a < 18446744073709551616) (hb0 : 0 ≤ b) (hb1 : b < 18446744073709551616) (m : Nat) (hm : m = (numE a).size ∨ m = (numE b).size) :
    ((((numE a).extract 0 m).toList == ((numE b).extract 0 m).toList) == (a == b)) = true := by
  by_cases e : a = b
  · subst e; simp
  · have h : ¬ ((numE a).extract 0 m).toList = ((numE b).extract 0 m).toList := by
      intro h
      rw [ByteArray.toList_eq, ByteArray.toList_eq] at h
      exact e (front_eq a b ha0 ha1 hb0 hb1 m hm (ba_ext h))
    rw [show (((numE a).extract 0 m).toList == ((numE b).extract 0 m).toList) = false from beq_eq_false_iff_ne.2 h, show (a == b) = false from beq_eq_false_iff_ne.2 e]
    rfl
theorem prefix_j0 (a b : Int) (ha0 : 0 ≤ a) (ha1 : a < 18446744073709551616) (hb0 : 0 ≤ b) (hb1 : b < 18446744073709551616) : Ev (fun k => dasdlaw01_WirePrefix.j0 k a b (numE a) (numE b) false) true := by
  have hsa := numE_size a
  have hsb := numE_size b
  obtain ⟨m, hm⟩ : ∃ m : Nat, mn ((numE a).size : Int) ((numE b).size : Int) = m := by
    unfold mn; split
    · exact ⟨_, rfl⟩
    · exact ⟨_, rfl⟩
  have hmm : m = (numE a).size ∨ m = (numE b).size := by
    unfold mn at hm; split at hm <;> omega
  have hma : m ≤ (numE a).size ∧ m ≤ (numE b).size := by
    unfold mn at hm; split at hm <;> omega
  have key := front_tells a b ha0 ha1 hb0 hb1 m hmm
  refine Ev.step (f := fun _ => some true) (fun k => ?_) (Ev.now _)
  simp only [dasdlaw01_WirePrefix.j0, Bool.false_eq_true, if_false]
  rw [hm]
  have h1 : (0 : Int) ≤ m := by omega
  have h2 : (m : Int) ≤ (numE a).size := by omega
  have h3 : (m : Int) ≤ (numE b).size := by omega
  simp only [if_pos h1, if_pos h2, if_pos h3, Int.toNat_natCast, key]
  by_cases c1 : a < b
  · have := numE_mono a b (by omega)
    rw [if_pos c1, if_neg (by omega), if_neg (by omega)]
  · rw [if_neg c1]
    by_cases c2 : a > b
    · have := numE_mono b a (by omega)
      rw [if_pos c2, if_neg (by omega)]
    · rw [if_neg c2]
theorem WirePrefix : dasdlaw01_WirePrefix.Pure := by
  intro a b ha hb
  have hab := bounds_u64 ha
  have hbb := bounds_u64 hb
  apply Ev.rounds
  unfold dasdlaw01_WirePrefix.f
  refine Ev.bind awake1 ?_
  have e : ∀ n : Int, 0 ≤ n → n < 18446744073709551616 → wire_AppendNumber.f (⟨#[]⟩ : ByteArray) n = some (numE n) := fun n h0 h1 => by
    rw [appendNumber_eq _ n h0 h1 (by show (0 : Nat) ≤ _; omega)]
    congr 1
  have hsa := numE_size a
  have hsb := numE_size b
  simp only [if_true, e a (by omega) (by omega), e b (by omega) (by omega), Option.bind_some]
  have hd : decide (((numE b).size : Int) > 10) = false := decide_eq_false (by omega)
  simp only [if_neg (show ¬ ((numE a).size : Int) < 1 by omega), if_neg (show ¬ ((numE a).size : Int) > 10 by omega), if_neg (show ¬ ((numE b).size : Int) < 1 by omega), hd]
  exact prefix_j0 a b (by omega) (by omega) (by omega) (by omega)
end Go.Proofs.Ytegefemkmdlmaaa.Pure
