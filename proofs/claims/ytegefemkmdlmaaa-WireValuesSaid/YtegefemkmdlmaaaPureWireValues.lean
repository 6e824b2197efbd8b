/- The pure statement of WireValues: AppendInt, AppendBool and AppendText append the encodings of their values. -/
import Derived.Test.YtegefemkmdlmaaaF5
import Derived.Test.YtegefemkmdlmaaaAwk1
import Derived.OpenShut
import Derived.Test.YtegefemkmdlmaaaLawW
namespace Go.Proofs.Ytegefemkmdlmaaa.Pure
open Go.RowKit Go.Proofs.Ytegefemkmdlmaaa.P Go.Proofs.YtegefemkmdlmaaaW.PrintWords Go.Proofs.YtegefemkmdlmaaaW.PrintLast
theorem values_j0 (s : ByteArray) (n : Int) (x : Bool) (t : ByteArray) (b : Bool) (h0 : -9223372036854775808 ≤ n) (h1 : n ≤ 9223372036854775807) (hb : b = false → s.size ≤ 100 ∧ t.size ≤ 500) : Ev (fun k => dasdlaw01_WireValues.j0 k s n x t b) true := by
  cases b with
  | true =>
    refine Ev.step (f := fun k => (dasdlaw01_awake.f k).bind fun t => some t) (fun k => by simp only [dasdlaw01_WireValues.j0, if_true]) ?_
    exact Ev.bind awake1 (Ev.now _)
  | false =>
    obtain ⟨hs, ht⟩ := hb rfl
    refine Ev.step (f := fun k => (wire_AppendInt.f s n).bind _) (fun k => by simp only [dasdlaw01_WireValues.j0]; rw [if_neg (by simp)]) ?_
    rw [appendInt_eq s n h0 h1 (by omega)]
    simp only [Option.bind_some]
    have hz := zig_range n h0 h1
    unfold dasdref01_Int.f
    rw [zigzag_eq n h0 h1]
    simp only [Option.bind_some]
    have hnz := numE_size (zig n)
    refine Ev.bind (Ev.bind (number_ev (zig n) hz.1 hz.2) (Ev.now _)) ?_
    simp only [if_pos (show s.size + (numE (zig n)).size ≤ 9223372036854775807 by omega), if_true]
    unfold wire_AppendBool.f dasdref01_Bool.f wire_AppendText.f dasdref01_Text.f
    have hlen : IntKind.u64.wrap (t.size : Int) = t.size := u64_in _ (by omega) (by omega)
    rw [hlen, appendNumber_eq s t.size (by omega) (by omega) (by omega)]
    have hns := numE_size (t.size : Int)
    have key : Ev (fun k => ((dasdref01_Number.f k (t.size : Int)).bind fun q => if q.size + t.size ≤ 9223372036854775807 then some (q ++ t) else none).bind fun q => if s.size + q.size ≤ 9223372036854775807 then some ((s ++ numE t.size ++ t).toList == (s ++ q).toList) else none) true := by
      refine Ev.bind (a := numE t.size ++ t) (Ev.bind (number_ev t.size (by omega) (by omega)) ?_) ?_
      · simp only [if_pos (show (numE (t.size : Int)).size + t.size ≤ 9223372036854775807 by omega)]
        exact Ev.now _
      · have : (numE (t.size : Int) ++ t).size = (numE (t.size : Int)).size + t.size := ByteArray.size_append
        simp only [if_pos (show s.size + (numE (t.size : Int) ++ t).size ≤ 9223372036854775807 by omega), ba_append_assoc, beq_self_eq_true]
        exact Ev.now _
    have hsz : (s ++ numE (t.size : Int)).size + t.size ≤ 9223372036854775807 := by
      have : (s ++ numE (t.size : Int)).size = s.size + (numE (t.size : Int)).size := ByteArray.size_append
      omega
    cases x with
    | true =>
      simp only [if_true, if_pos (show s.size + 1 ≤ 9223372036854775807 by omega), if_pos (show s.size + (⟨#[1]⟩ : ByteArray).size ≤ 9223372036854775807 by show s.size + 1 ≤ _; omega), Option.bind_some, if_pos hsz]
      exact key
    | false =>
      simp only [Bool.false_eq_true, if_false, if_true, if_pos (show s.size + 1 ≤ 9223372036854775807 by omega), if_pos (show s.size + (⟨#[0]⟩ : ByteArray).size ≤ 9223372036854775807 by show s.size + 1 ≤ _; omega), Option.bind_some, if_pos hsz]
      exact key
theorem WireValues : dasdlaw01_WireValues.Pure := by
  intro s n x t hs hn ht
  have hb := bounds_i64 hn
  apply Ev.rounds
  unfold dasdlaw01_WireValues.f
  refine Ev.bind awake1 ?_
  simp only [if_true]
  by_cases h : (s.size : Int) > 100
  · simp only [if_pos h]
    exact values_j0 s n x t true (by omega) (by omega) (fun h => by simp at h)
  · simp only [if_neg h]
    refine values_j0 s n x t _ (by omega) (by omega) (fun h => ?_)
    have := of_decide_eq_false h
    omega
end Go.Proofs.Ytegefemkmdlmaaa.Pure
