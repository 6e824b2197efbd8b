/- The pure statement of WireReturns: what was appended is read again, value for value. -/
import Derived.OpenShut
import Derived.Test.YtegefemkmdlmaaaF17
import Derived.Test.YtegefemkmdlmaaaOpen
import Derived.Test.YtegefemkmdlmaaaGa
namespace Go.Proofs.Ytegefemkmdlmaaa.P
open Go.RowKit Go.Proofs.YtegefemkmdlmaaaW.PrintWords Go.Proofs.YtegefemkmdlmaaaW.PrintLast Go.Proofs.YtegefemkmdlmaaaW.PrintMore
/-- The pure statement of WireReturns. -/
def dasdlaw01_WireReturns.Pure : Prop := ∀ (l0 : List S91), (∀ r ∈ l0, okV r) → l0.length ≤ 9223372036854775807 → ∃ k, dasdlaw01_WireReturns.f k l0 = some true
theorem ret_wrap (i n : Nat) (hn : n ≤ 9223372036854775807) (h : i < n) : wrap64 ((i : Int) + 1) = ((i + 1 : Nat) : Int) := by unfold wrap64; omega
theorem ret_rd (l : List S91) (i : Nat) (h : i < l.length) : rd_T91 l (i : Int) = l[i] := by
  unfold rd_T91
  rw [Int.toNat_natCast, List.getD_eq_getElem?_getD, List.getElem?_eq_getElem h]
  rfl
/-- The encoding of a value. -/
def valE (r : S91) : ByteArray :=
  if r.f0 % 4 = 0 then numE r.f1 else if r.f0 % 4 = 1 then numE (zig r.f2) else if r.f0 % 4 = 2 then boolE r.f3 else numE r.f4.size ++ r.f4
/-- The encodings of values, one behind the other. -/
def valsE : List S91 → ByteArray
  | [] => ⟨#[]⟩
  | r :: l => valE r ++ valsE l
theorem few_l0 (l : List S91) (hl : l.length ≤ 9223372036854775807) : ∀ (d i : Nat), i + d = l.length → ∃ b, Ev (fun k => dasdref01_Few.l0 k l (i : Int)) b ∧ (b = true → l.length ≤ 30 ∧ ∀ r ∈ l.drop i, r.f4.size ≤ 200) := by
  intro d
  induction d with
  | zero =>
    intro i hi
    refine ⟨decide ((l.length : Int) ≤ 30), Ev.step (f := fun _ => some (decide ((l.length : Int) ≤ 30))) (fun k => by simp only [dasdref01_Few.l0]; rw [if_neg (by omega)]) (Ev.now _), fun h => ?_⟩
    have := of_decide_eq_true h
    refine ⟨by omega, fun r hr => ?_⟩
    rw [List.drop_of_length_le (by omega)] at hr
    cases hr
  | succ d ih =>
    intro i hi
    have hlt : i < l.length := by omega
    by_cases h : (((rd_T91 l (i : Int)).f4).size : Int) > 200
    · exact ⟨false, Ev.step (f := fun _ => some false) (fun k => by simp only [dasdref01_Few.l0]; rw [if_pos (by omega), if_pos (by omega), if_pos h]) (Ev.now _), fun h => by simp at h⟩
    · obtain ⟨b, h1, h2⟩ := ih (i + 1) (by omega)
      refine ⟨b, Ev.step (f := fun k => dasdref01_Few.l0 k l ((i + 1 : Nat) : Int)) (fun k => by simp only [dasdref01_Few.l0]; rw [if_pos (by omega), if_pos (by omega), if_neg h, ret_wrap i _ hl hlt]) h1, fun hb => ?_⟩
      obtain ⟨h3, h4⟩ := h2 hb
      refine ⟨h3, fun r hr => ?_⟩
      rw [List.drop_eq_getElem_cons hlt] at hr
      rcases List.mem_cons.1 hr with rfl | hr
      · rw [ret_rd l i hlt] at h; omega
      · exact h4 r hr
theorem valE_size (r : S91) (h : r.f4.size ≤ 200) : (valE r).size ≤ 210 := by
  unfold valE
  have h1 := numE_size r.f1
  have h2 := numE_size (zig r.f2)
  have h3 := boolE_size r.f3
  have h4 := numE_size (r.f4.size : Int)
  have h5 : (numE (r.f4.size : Int) ++ r.f4).size = (numE (r.f4.size : Int)).size + r.f4.size := ByteArray.size_append
  split
  · omega
  · split
    · omega
    · split
      · omega
      · omega
theorem ret_l1 (l : List S91) (hl : l.length ≤ 30) (hok : ∀ r ∈ l, okV r) (ht : ∀ r ∈ l, r.f4.size ≤ 200) : ∀ (d i : Nat), i + d = l.length → Ev (fun k => dasdlaw01_WireReturns.l1 k l (l.length : Int) (i : Int) (valsE (l.drop i)) 0) true := by
  intro d
  induction d with
  | zero =>
    intro i hi
    refine Ev.step (f := fun _ => some true) (fun k => ?_) (Ev.now _)
    simp only [dasdlaw01_WireReturns.l1]
    rw [if_neg (by omega), List.drop_of_length_le (by omega)]
    simp only [valsE, end_eq, wire_Reader_Left.f, wire_Reader_Rest.f, Option.bind_some]
    rw [if_neg (show ¬ (True ∧ (ByteArray.mk #[]).size ≠ 0) from fun h => h.2 rfl)]
    simp only [if_true]
    rw [if_pos (show ((ByteArray.mk #[]).size : Int) = 0 from rfl), ByteArray.toList_eq]
    rfl
  | succ d ih =>
    intro i hi
    have hlt : i < l.length := by omega
    obtain ⟨o0, o1, o2, o3, o4, o5⟩ := hok l[i] (List.getElem_mem hlt)
    have h200 := ht l[i] (List.getElem_mem hlt)
    have hm := Int.tmod_eq_emod_of_nonneg (b := 4) o0
    have nxt := ih (i + 1) (by omega)
    refine Ev.step (f := fun k => dasdlaw01_WireReturns.l1 k l (l.length : Int) ((i + 1 : Nat) : Int) (valsE (l.drop (i + 1))) 0) (fun k => ?_) nxt
    simp only [dasdlaw01_WireReturns.l1]
    rw [if_pos (by omega), if_pos (by omega), if_pos (by omega), ret_rd l i hlt, ret_wrap i l.length (by omega) hlt, hm, List.drop_eq_getElem_cons hlt]
    simp only [valsE]
    generalize valsE (l.drop (i + 1)) = t
    generalize l[i] = r at *
    unfold valE
    by_cases k0 : r.f0 % 4 = 0
    · rw [if_pos k0, if_pos k0, number_eq, readN_numE _ _ o2 o3]
      simp only [Option.bind_some, if_true]
    · rw [if_neg k0, if_neg k0]
      by_cases k1 : r.f0 % 4 = 1
      · rw [if_pos k1, if_pos k1, int_eq, readI_numE _ _ o4 o5]
        simp only [Option.bind_some, if_true]
      · rw [if_neg k1, if_neg k1]
        by_cases k2 : r.f0 % 4 = 2
        · rw [if_pos k2, if_pos k2, bool_eq, readB_boolE]
          simp only [Option.bind_some, beq_self_eq_true, if_true]
        · rw [if_neg k2, if_neg k2, text_eq _ _ _ (by omega), readT_textE _ _ (by omega)]
          simp only [Option.bind_some, if_true]
theorem ret_l0 (l : List S91) (hl : l.length ≤ 30) (hok : ∀ r ∈ l, okV r) (ht : ∀ r ∈ l, r.f4.size ≤ 200) : ∀ (d i : Nat) (s : ByteArray), i + d = l.length → s.size ≤ 300 * i → s ++ valsE (l.drop i) = valsE l → Ev (fun k => dasdlaw01_WireReturns.l0 k l s l (l.length : Int) (i : Int)) true := by
  intro d
  induction d with
  | zero =>
    intro i s hi hs he
    rw [List.drop_of_length_le (by omega)] at he
    have he : s = valsE l := by
      rw [← he]
      exact ba_ext (by rw [data_append]; simp [valsE])
    subst he
    refine Ev.step (f := fun k => dasdlaw01_WireReturns.l1 k l (l.length : Int) ((0 : Nat) : Int) (valsE (l.drop 0)) 0) (fun k => ?_) (ret_l1 l hl hok ht l.length 0 (by omega))
    simp only [dasdlaw01_WireReturns.l0]
    rw [if_neg (by omega)]
    rfl
  | succ d ih =>
    intro i s hi hs he
    have hlt : i < l.length := by omega
    obtain ⟨o0, o1, o2, o3, o4, o5⟩ := hok l[i] (List.getElem_mem hlt)
    have h200 := ht l[i] (List.getElem_mem hlt)
    have hm := Int.tmod_eq_emod_of_nonneg (b := 4) o0
    have hz := valE_size l[i] h200
    rw [List.drop_eq_getElem_cons hlt] at he
    simp only [valsE] at he
    have hsz : (s ++ valE l[i]).size = s.size + (valE l[i]).size := ByteArray.size_append
    have nxt := ih (i + 1) (s ++ valE l[i]) (by omega) (by omega) (by rw [ba_append_assoc]; exact he)
    refine Ev.step (f := fun k => dasdlaw01_WireReturns.l0 k l (s ++ valE l[i]) l (l.length : Int) ((i + 1 : Nat) : Int)) (fun k => ?_) nxt
    simp only [dasdlaw01_WireReturns.l0]
    rw [if_pos (by omega), if_pos (by omega), if_pos (by omega), ret_rd l i hlt, ret_wrap i l.length (by omega) hlt, hm]
    clear nxt he ih hsz hz
    generalize l[i] = r at *
    unfold valE
    by_cases k0 : r.f0 % 4 = 0
    · rw [if_pos k0, if_pos k0, appendNumber_eq s _ o2 o3 (by omega), Option.bind_some]
    · rw [if_neg k0, if_neg k0]
      by_cases k1 : r.f0 % 4 = 1
      · rw [if_pos k1, if_pos k1, appendInt_eq s _ o4 o5 (by omega), Option.bind_some]
      · rw [if_neg k1, if_neg k1]
        by_cases k2 : r.f0 % 4 = 2
        · rw [if_pos k2, if_pos k2, appendBool_eq s _ (by omega), Option.bind_some]
        · rw [if_neg k2, if_neg k2, appendText_eq s _ (by omega) (by omega), Option.bind_some]
end Go.Proofs.Ytegefemkmdlmaaa.P
namespace Go.Proofs.Ytegefemkmdlmaaa.Pure
open Go.Proofs.Ytegefemkmdlmaaa.P
open Go.RowKit Go.Proofs.YtegefemkmdlmaaaW.PrintWords Go.Proofs.YtegefemkmdlmaaaW.PrintLast Go.Proofs.YtegefemkmdlmaaaW.PrintMore
theorem WireReturns : dasdlaw01_WireReturns.Pure := by
  intro l hok hl
  apply Ev.rounds
  unfold dasdlaw01_WireReturns.f
  refine Ev.bind awake1 ?_
  simp only [if_true]
  obtain ⟨b, h1, h2⟩ := few_l0 l hl l.length 0 (by omega)
  refine Ev.bind (show Ev (fun k => dasdref01_Few.f k l) b from h1) ?_
  cases b with
  | false =>
    refine Ev.step (f := fun k => (dasdlaw01_awake.f k).bind fun t => some t) (fun k => by simp only [dasdlaw01_WireReturns.j0, Bool.not_false, if_true]) ?_
    exact Ev.bind awake1 (Ev.now _)
  | true =>
    obtain ⟨h3, h4⟩ := h2 rfl
    rw [List.drop_zero] at h4
    refine Ev.step (f := fun k => dasdlaw01_WireReturns.l0 k l ⟨#[]⟩ l (l.length : Int) ((0 : Nat) : Int)) (fun k => by simp only [dasdlaw01_WireReturns.j0, Bool.not_true, Bool.false_eq_true, if_false]; rfl) ?_
    refine ret_l0 l h3 hok h4 l.length 0 ⟨#[]⟩ (by omega) (Nat.le_refl 0) ?_
    rw [List.drop_zero]
    exact ba_ext (by rw [data_append]; rfl)
end Go.Proofs.Ytegefemkmdlmaaa.Pure
