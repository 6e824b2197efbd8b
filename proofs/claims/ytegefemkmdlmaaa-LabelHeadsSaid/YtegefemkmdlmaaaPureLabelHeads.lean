/- The pure statement of LabelHeads: heads are written and read as the specification says. -/
import Derived.Test.YtegefemkmdlmaaaF8
import Derived.Test.YtegefemkmdlmaaaF45
import Derived.Test.YtegefemkmdlmaaaF47
import Derived.Test.YtegefemkmdlmaaaF49
import Derived.Test.YtegefemkmdlmaaaF102
import Derived.Test.YtegefemkmdlmaaaLabD
import Derived.Test.YtegefemkmdlmaaaLabP
import Derived.Test.YtegefemkmdlmaaaRefL
namespace Go.Proofs.Ytegefemkmdlmaaa.Pure
open Go.RowKit Go.Proofs.Ytegefemkmdlmaaa.P Go.Proofs.YtegefemkmdlmaaaW.PrintWords Go.Proofs.YtegefemkmdlmaaaW.PrintLast Go.Proofs.YtegefemkmdlmaaaW.PrintMore
theorem refname_l0 (s : ByteArray) (hs : s.size ≤ 1099511627776) : ∀ (d i : Nat), i + d = s.size → Ev (fun k => dasdref07_ValidName.l0 k s (i : Int)) (decide (1 ≤ s.size ∧ s.size ≤ 8) && ((0 < i || decide (d = 0 ∨ 65 ≤ bt s 0)) && okFrom s i d)) := by
  intro d
  induction d with
  | zero =>
    intro i hi
    simp only [okFrom, true_or, decide_true, Bool.or_true, Bool.and_true]
    by_cases h : (s.size : Int) ≥ 1
    · refine Ev.step (f := fun _ => some (decide ((s.size : Int) ≤ 8))) (fun k => by simp only [dasdref07_ValidName.l0]; rw [if_neg (by omega), if_pos h]) ?_
      rw [show decide (1 ≤ s.size ∧ s.size ≤ 8) = decide ((s.size : Int) ≤ 8) by rw [decide_eq_decide]; omega]
      exact Ev.now _
    · refine Ev.step (f := fun _ => some false) (fun k => by simp only [dasdref07_ValidName.l0]; rw [if_neg (by omega), if_neg h]) ?_
      rw [decide_eq_false (show ¬ (1 ≤ s.size ∧ s.size ≤ 8) by omega)]
      exact Ev.now _
  | succ d ih =>
    intro i hi
    have nxt := ih (i + 1) (by omega)
    have hr := bt_range s i
    have hw : wrap64 ((i : Int) + 1) = ((i + 1 : Nat) : Int) := wrap_succ i (by omega)
    simp only [okFrom]
    by_cases c : okB (bt s i) = true ∧ (0 < i ∨ 65 ≤ bt s 0)
    · have c' := of_decide_eq_true c.1
      have e : (0 < i || decide (d + 1 = 0 ∨ 65 ≤ bt s 0)) = true := by
        rw [Bool.or_eq_true, decide_eq_true_iff, decide_eq_true_iff]
        rcases c.2 with h | h
        · exact Or.inl h
        · exact Or.inr (Or.inr h)
      rw [e, c.1, Bool.true_and, Bool.true_and]
      have e2 : (0 < i + 1 || decide (d = 0 ∨ 65 ≤ bt s 0)) = true := by rw [Bool.or_eq_true, decide_eq_true_iff]; exact Or.inl (by omega)
      rw [e2, Bool.true_and] at nxt
      refine Ev.step (f := fun k => dasdref07_ValidName.l0 k s ((i + 1 : Nat) : Int)) (fun k => ?_) nxt
      simp only [dasdref07_ValidName.l0]
      rw [if_pos (by omega), if_pos (by omega), hw]
      by_cases h1 : bt s i ≥ 65 ∧ bt s i ≤ 90
      · rw [if_pos h1.1, if_pos h1.2]
      · have hi0 : 0 < i := by
          rcases Nat.eq_zero_or_pos i with h | h
          · subst h
            have hb : bt s ((0 : Nat) : Int) = bt s 0 := rfl
            omega
          · exact h
        by_cases h2 : bt s i ≥ 65
        · omega
        · rw [if_neg h2, if_pos (by omega), if_pos (by omega), if_pos (by omega)]
    · have e : ((0 < i || decide (d + 1 = 0 ∨ 65 ≤ bt s 0)) && (okB (bt s i) && okFrom s (i + 1) d)) = false := by
        cases hb : okB (bt s i) with
        | false => simp
        | true =>
          have h2 : ¬ (0 < i ∨ 65 ≤ bt s 0) := fun h => c ⟨hb, h⟩
          rw [show (0 < i || decide (d + 1 = 0 ∨ 65 ≤ bt s 0)) = false by
            rw [Bool.or_eq_false_iff, decide_eq_false_iff_not, decide_eq_false_iff_not]
            exact ⟨fun h => h2 (Or.inl h), fun h => h2 (Or.inr (h.resolve_left (by omega)))⟩]
          rfl
      rw [e, Bool.and_false]
      have c' : ¬ (((65 ≤ bt s i ∧ bt s i ≤ 90) ∨ (48 ≤ bt s i ∧ bt s i ≤ 57)) ∧ (0 < i ∨ 65 ≤ bt s 0)) := fun h => c ⟨decide_eq_true h.1, h.2⟩
      have c0 : i = 0 → bt s i = bt s 0 := fun h => by rw [h]; rfl
      refine Ev.step (f := fun _ => some false) (fun k => ?_) (Ev.now _)
      simp only [dasdref07_ValidName.l0]
      rw [if_pos (by omega), if_pos (by omega)]
      by_cases h1 : bt s i ≥ 65
      · rw [if_pos h1]
        by_cases h2 : bt s i ≤ 90
        · exfalso
          rcases Nat.eq_zero_or_pos i with h | h
          · have := c0 h; omega
          · omega
        · rw [if_neg h2]
          by_cases h3 : (i : Int) > 0
          · rw [if_pos h3, if_pos (by omega), if_neg (by omega)]
          · rw [if_neg h3]
      · rw [if_neg h1]
        by_cases h3 : (i : Int) > 0
        · rw [if_pos h3]
          by_cases h4 : bt s i ≥ 48
          · rw [if_pos h4, if_neg (by omega)]
          · rw [if_neg h4]
        · rw [if_neg h3]
theorem refname_ev (s : ByteArray) (hs : s.size ≤ 1099511627776) : Ev (fun k => dasdref07_ValidName.f k s) (nameV s) := by
  have := refname_l0 s hs s.size 0 (by omega)
  unfold nameV
  by_cases h : 1 ≤ s.size ∧ s.size ≤ 8
  · rw [decide_eq_true h, Bool.true_and] at this ⊢
    rw [show (0 < 0 || decide (s.size = 0 ∨ 65 ≤ bt s 0)) = decide (65 ≤ bt s 0) by
      rw [Bool.eq_iff_iff, Bool.or_eq_true, decide_eq_true_iff, decide_eq_true_iff, decide_eq_true_iff]; omega] at this
    exact this
  · rw [decide_eq_false h, Bool.false_and] at this ⊢
    exact this
theorem refvalid_is (t : Int) : dasdref07_valid.f t = some (decide (4 ≤ t ∧ t ≤ 128)) := by
  unfold dasdref07_valid.f
  by_cases h : t ≥ 4
  · rw [if_pos h]; congr 1; rw [decide_eq_decide]; omega
  · rw [if_neg h, decide_eq_false (by omega)]
theorem refehead_ev (s : ByteArray) (t : Int) (hs : s.size ≤ 1099511627776) : Ev (fun k => dasdref07_EncodeHead.f k s t) (headE s t) := by
  have no : ∀ b, b = true → Ev (fun k => dasdref07_EncodeHead.j0 k s t b) ⟨#[]⟩ := fun b hb => by
    subst hb
    exact Ev.step (f := fun _ => some ⟨#[]⟩) (fun k => by simp only [dasdref07_EncodeHead.j0, if_true]) (Ev.now _)
  unfold dasdref07_EncodeHead.f headE
  refine Ev.bind (refname_ev s hs) ?_
  by_cases h : nameV s = true
  · simp only [if_pos h, refvalid_is, Option.bind_some]
    have hz := nameV_size h
    by_cases ht : 4 ≤ t ∧ t ≤ 128
    · rw [if_pos (show nameV s = true ∧ 4 ≤ t ∧ t ≤ 128 from ⟨h, ht⟩), decide_eq_true ht]
      have h1 := numE_size (s.size : Int)
      have h2 := numE_size t
      refine Ev.step (f := fun k => (dasdref01_Text.f k s).bind _) (fun k => by simp only [dasdref07_EncodeHead.j0]; rw [if_neg (by simp)]) ?_
      refine Ev.bind (reftext_ev s (by omega)) ?_
      rw [u64_in t (by omega) (by omega)]
      refine Ev.bind (number_ev t (by omega) (by omega)) ?_
      have hl : (textE s).size + (numE t).size ≤ 9223372036854775807 := by unfold textE; rw [ByteArray.size_append]; omega
      simp only [if_pos hl]
      exact Ev.bind (padded_ev _ (head_size s t hz.2)) (Ev.now _)
    · rw [if_neg (fun hh => ht hh.2), decide_eq_false ht]
      exact no _ rfl
  · simp only [if_neg h]
    rw [if_neg (fun hh => h hh.1)]
    exact no _ rfl
/-- A head is read as it was written. -/
theorem head_read (s : ByteArray) (t : Int) (h : headE s t ≠ ⟨#[]⟩) : (headE s t).size = 1024 ∧ readT (headE s t) 0 8 = (s, numE t ++ zerosE (1024 - (textE s ++ numE t).size), 0) ∧ readC (numE t ++ zerosE (1024 - (textE s ++ numE t).size)) 0 128 = (t, zerosE (1024 - (textE s ++ numE t).size), 0) := by
  have hv : nameV s = true ∧ 4 ≤ t ∧ t ≤ 128 := by
    by_cases hh : nameV s = true ∧ 4 ≤ t ∧ t ≤ 128
    · exact hh
    · unfold headE at h; rw [if_neg hh] at h; exact absurd rfl h
  have hz := nameV_size hv.1
  have e : headE s t = fillE (textE s ++ numE t) := if_pos hv
  rw [e]
  refine ⟨fillE_size _ (head_size s t hz.2), ?_, readC_numE t 128 _ (by omega) (by omega) (by decide)⟩
  unfold fillE
  rw [ba_append_assoc]
  exact readT_text s _ 8 (by omega) (by omega)
theorem refdhead_ev (x : ByteArray) : Ev (fun k => dasdref07_DecodeHead.f k x) (dheadS x) := by
  unfold dasdref07_DecodeHead.f dheadS
  refine Ev.bind (refT_ev x 0 8 (by decide)) (Ev.bind (refC_ev _ _ 128 (by decide)) ?_)
  have hr := head_read (readT x 0 8).1 (readC (readT x 0 8).2.1 (readT x 0 8).2.2 128).1
  have hn : (readT x 0 8).1.size ≤ 1099511627776 := by
    rcases readT_got x 8 with ⟨e, h, _⟩ | ⟨y, z, h, h1, _⟩
    · rw [h]; exact Nat.zero_le _
    · rw [h]; simp only []; omega
  have he := refehead_ev (readT x 0 8).1 (readC (readT x 0 8).2.1 (readT x 0 8).2.2 128).1 hn
  simp only []
  by_cases c : headE (readT x 0 8).1 (readC (readT x 0 8).2.1 (readT x 0 8).2.2 128).1 ≠ ⟨#[]⟩ ∧ headE (readT x 0 8).1 (readC (readT x 0 8).2.1 (readT x 0 8).2.2 128).1 = x
  · obtain ⟨r0, r1, r2⟩ := hr c.1
    rw [c.2] at r0 r1
    have e0 : (readC (readT x 0 8).2.1 (readT x 0 8).2.2 128).2.2 = 0 := by
      have a1 := congrArg (fun p => p.2.1) r1
      have a2 := congrArg (fun p => p.2.2) r1
      dsimp only at a1 a2
      rw [← a1] at r2
      rw [a2, r2]
    rw [if_pos c]
    simp only [if_pos e0, if_pos (show (x.size : Int) = 1024 by omega)]
    refine Ev.bind he ?_
    simp only [if_pos ((list_eq _ _).2 c.2)]
    exact Ev.now _
  · rw [if_neg c]
    by_cases e0 : (readC (readT x 0 8).2.1 (readT x 0 8).2.2 128).2.2 = 0
    · simp only [if_pos e0]
      by_cases e1 : (x.size : Int) = 1024
      · simp only [if_pos e1]
        refine Ev.bind he ?_
        have e2 : ¬ headE (readT x 0 8).1 (readC (readT x 0 8).2.1 (readT x 0 8).2.2 128).1 = x := by
          intro h
          refine c ⟨?_, h⟩
          intro h3
          rw [h] at h3
          rw [h3] at e1
          exact absurd e1 (by decide)
        simp only [if_neg (fun h => e2 ((list_eq _ _).1 h))]
        exact Ev.now _
      · simp only [if_neg e1]; exact Ev.now _
    · simp only [if_neg e0]; exact Ev.now _
theorem heads_j0 (s : ByteArray) (t : Int) (x : ByteArray) (b : Bool) (hb : b = false → s.size ≤ 1099511627776) : Ev (fun k => dasdlaw07_LabelHeads.j0 k s t x b) true := by
  cases b with
  | true =>
    refine Ev.step (f := fun k => (dasdlaw07_awake.f k).bind fun t => some t) (fun k => by simp only [dasdlaw07_LabelHeads.j0, if_true]) ?_
    exact Ev.bind awake7 (Ev.now _)
  | false =>
    have h0 := hb rfl
    refine Ev.step (f := fun k => (label_DecodeHead.f k x).bind _) (fun k => by simp only [dasdlaw07_LabelHeads.j0, Bool.false_eq_true, if_false]; rfl) ?_
    refine Ev.bind (dhead_ev x) (Ev.bind (refdhead_ev x) (Ev.bind (name_ev s) (Ev.bind (refname_ev s h0) ?_)))
    simp only [beq_self_eq_true, if_true]
    refine Ev.bind (ehead_ev s t) (Ev.bind (refehead_ev s t h0) ?_)
    simp only [if_true]
    exact Ev.now _
theorem LabelHeads : dasdlaw07_LabelHeads.Pure := by
  intro s t x _ _ _
  apply Ev.rounds
  unfold dasdlaw07_LabelHeads.f
  refine Ev.bind awake7 ?_
  simp only [if_true]
  by_cases h : (s.size : Int) > 30
  · simp only [if_pos h]
    exact heads_j0 s t x true (fun h => by simp at h)
  · simp only [if_neg h]
    refine heads_j0 s t x _ (fun h2 => ?_)
    have := of_decide_eq_false h2
    omega
end Go.Proofs.Ytegefemkmdlmaaa.Pure
