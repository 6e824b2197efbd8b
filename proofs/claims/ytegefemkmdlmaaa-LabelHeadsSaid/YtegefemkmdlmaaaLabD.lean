/- Plain laws on the volume's head: what ValidName, EncodeHead and DecodeHead answer. -/
import Derived.Test.YtegefemkmdlmaaaF44
import Derived.Test.YtegefemkmdlmaaaF46
import Derived.Test.YtegefemkmdlmaaaF48
import Derived.Test.YtegefemkmdlmaaaLabB
namespace Go.Proofs.Ytegefemkmdlmaaa.P
open Go.RowKit Go.Proofs.YtegefemkmdlmaaaW.PrintWords Go.Proofs.YtegefemkmdlmaaaW.PrintLast Go.Proofs.YtegefemkmdlmaaaW.PrintMore
/-- Is a byte a capital letter or a digit? -/
def okB (b : Int) : Bool := decide ((65 ≤ b ∧ b ≤ 90) ∨ (48 ≤ b ∧ b ≤ 57))
/-- Are the bytes of a name from i on, so many of them, letters or digits? -/
def okFrom (s : ByteArray) (i : Nat) : Nat → Bool
  | 0 => true
  | d + 1 => okB (bt s i) && okFrom s (i + 1) d
def nameV (s : ByteArray) : Bool := decide (1 ≤ s.size ∧ s.size ≤ 8) && (decide (65 ≤ bt s 0) && okFrom s 0 s.size)
theorem name_l0 (s : ByteArray) (hs : s.size ≤ 8) : ∀ (d i : Nat), i + d = s.size → Ev (fun k => label_ValidName.l0 k s (s.size : Int) (i : Int)) (okFrom s i d) := by
  intro d
  induction d with
  | zero =>
    intro i hi
    exact Ev.step (f := fun _ => some true) (fun k => by simp only [label_ValidName.l0]; rw [if_neg (by omega)]) (Ev.now _)
  | succ d ih =>
    intro i hi
    have nxt := ih (i + 1) (by omega)
    have hr := bt_range s i
    have hw : wrap64 ((i : Int) + 1) = ((i + 1 : Nat) : Int) := wrap_succ i (by omega)
    simp only [okFrom]
    by_cases c : okB (bt s i) = true
    · have c' := of_decide_eq_true c
      rw [c, Bool.true_and]
      refine Ev.step (f := fun k => label_ValidName.l0 k s (s.size : Int) ((i + 1 : Nat) : Int)) (fun k => ?_) nxt
      simp only [label_ValidName.l0]
      rw [if_pos (by omega), if_pos (by omega), if_pos (by omega), hw]
      by_cases c0 : bt s i < 65
      · rw [if_pos c0, if_neg (by omega), if_neg (by omega)]
      · rw [if_neg c0, if_neg (by omega)]
    · have c' : ¬ ((65 ≤ bt s i ∧ bt s i ≤ 90) ∨ (48 ≤ bt s i ∧ bt s i ≤ 57)) := fun h => c (decide_eq_true h)
      rw [show okB (bt s i) = false by simpa using c, Bool.false_and]
      refine Ev.step (f := fun _ => some false) (fun k => ?_) (Ev.now _)
      simp only [label_ValidName.l0]
      rw [if_pos (by omega), if_pos (by omega), if_pos (by omega)]
      by_cases c0 : bt s i < 65
      · rw [if_pos c0]
        by_cases c1 : bt s i < 48
        · rw [if_pos c1]
        · rw [if_neg c1, if_pos (by omega)]
      · rw [if_neg c0, if_pos (by omega), if_neg (by omega), if_pos (by omega)]
theorem name_ev (s : ByteArray) : Ev (fun k => label_ValidName.f k s) (nameV s) := by
  have no : ∀ b, b = true → Ev (fun k => label_ValidName.j0 k s b) false := fun b hb => by
    subst hb
    exact Ev.step (f := fun _ => some false) (fun k => by simp only [label_ValidName.j0, if_true]) (Ev.now _)
  unfold label_ValidName.f nameV
  by_cases h0 : (s.size : Int) < 1
  · simp only [if_pos h0]
    rw [decide_eq_false (show ¬ (1 ≤ s.size ∧ s.size ≤ 8) by omega), Bool.false_and]
    exact no true rfl
  · simp only [if_neg h0]
    by_cases h1 : (s.size : Int) > 8
    · simp only [if_pos h1]
      rw [decide_eq_false (show ¬ (1 ≤ s.size ∧ s.size ≤ 8) by omega), Bool.false_and]
      exact no true rfl
    · simp only [if_neg h1, if_pos (show 0 < (s.size : Int) by omega)]
      rw [decide_eq_true (show 1 ≤ s.size ∧ s.size ≤ 8 by omega), Bool.true_and]
      by_cases h2 : bt s 0 < 65
      · rw [decide_eq_false (show ¬ 65 ≤ bt s 0 by omega), Bool.false_and]
        exact no _ (decide_eq_true h2)
      · rw [decide_eq_true (show 65 ≤ bt s 0 by omega), Bool.true_and]
        refine Ev.step (f := fun k => label_ValidName.l0 k s (s.size : Int) ((0 : Nat) : Int)) (fun k => ?_) (name_l0 s (by omega) s.size 0 (by omega))
        simp only [label_ValidName.j0]
        rw [if_neg (by simpa using h2)]
        rfl
/-- The encoding of a head. -/
def headE (s : ByteArray) (t : Int) : ByteArray := if nameV s = true ∧ 4 ≤ t ∧ t ≤ 128 then fillE (textE s ++ numE t) else ⟨#[]⟩
theorem nameV_size {s : ByteArray} (h : nameV s = true) : 1 ≤ s.size ∧ s.size ≤ 8 := by
  unfold nameV at h
  rw [Bool.and_eq_true] at h
  exact of_decide_eq_true h.1
theorem head_size (s : ByteArray) (t : Int) (h : s.size ≤ 8) : (textE s ++ numE t).size ≤ 1024 := by
  have h0 := numE_size t
  have h1 := numE_size (s.size : Int)
  unfold textE
  simp only [ByteArray.size_append]
  omega
theorem ehead_ev (s : ByteArray) (t : Int) : Ev (fun k => label_EncodeHead.f k s t) (headE s t) := by
  have no : ∀ b, b = true → Ev (fun k => label_EncodeHead.j0 k s t b) ⟨#[]⟩ := fun b hb => by
    subst hb
    exact Ev.step (f := fun _ => some ⟨#[]⟩) (fun k => by simp only [label_EncodeHead.j0, if_true]) (Ev.now _)
  unfold label_EncodeHead.f headE
  refine Ev.bind (name_ev s) ?_
  by_cases h : nameV s = true
  · simp only [if_pos h, tracksOK_is, Option.bind_some]
    have hs := nameV_size h
    by_cases ht : 4 ≤ t ∧ t ≤ 128
    · rw [if_pos (show nameV s = true ∧ 4 ≤ t ∧ t ≤ 128 from ⟨h, ht⟩), decide_eq_true ht]
      refine Ev.step (f := fun _ => some (fillE (textE s ++ numE t))) (fun k => ?_) (Ev.now _)
      have h1 := numE_size (s.size : Int)
      simp only [label_EncodeHead.j0]
      rw [if_neg (by simp), appendText_eq _ s (Nat.zero_le _) (by omega), Option.bind_some, empty_append, u64_in t (by omega) (by omega), appendNumber_eq _ t (by omega) (by omega) (by rw [ByteArray.size_append]; omega), Option.bind_some]
      have hf := fill_eq (textE s ++ numE t) (head_size s t hs.2)
      unfold textE at hf ⊢
      rw [hf, Option.bind_some]
    · rw [if_neg (fun hh => ht hh.2), decide_eq_false ht]
      exact no _ rfl
  · simp only [if_neg h]
    rw [if_neg (fun hh => h hh.1)]
    exact no _ rfl
/-- What DecodeHead answers. -/
def dheadS (x : ByteArray) : ByteArray × Int × Int :=
  let a := readT x 0 8
  let b := readC a.2.1 a.2.2 128
  if headE a.1 b.1 ≠ ⟨#[]⟩ ∧ headE a.1 b.1 = x then (a.1, b.1, 0) else (⟨#[]⟩, 0, 11)
theorem nil_eq (x : ByteArray) : x.toList = ([] : List UInt8) ↔ x = ⟨#[]⟩ := by
  have h : (⟨#[]⟩ : ByteArray).toList = ([] : List UInt8) := by rw [ByteArray.toList_eq]
  exact ⟨fun e => (list_eq x ⟨#[]⟩).1 (e.trans h.symm), fun e => by rw [e]; exact h⟩
theorem dhead_ev (x : ByteArray) : Ev (fun k => label_DecodeHead.f k x) (dheadS x) := by
  unfold label_DecodeHead.f dheadS
  simp only [wire_NewReader.f, Option.bind_some, text_eq x 0 8 (by decide), count_eq _ _ 128 (by decide)]
  refine Ev.bind (ehead_ev _ _) ?_
  by_cases c : headE (readT x 0 8).1 (readC (readT x 0 8).2.1 (readT x 0 8).2.2 128).1 = ⟨#[]⟩
  · simp only [if_pos ((nil_eq _).2 c)]
    rw [if_neg (fun h => h.1 c)]
    exact Ev.now _
  · simp only [if_neg (fun h => c ((nil_eq _).1 h))]
    by_cases d : headE (readT x 0 8).1 (readC (readT x 0 8).2.1 (readT x 0 8).2.2 128).1 = x
    · have hd := (list_eq _ _).2 d
      simp only [if_pos hd]
      rw [if_pos (show _ ∧ _ from ⟨c, d⟩)]
      exact Ev.now _
    · simp only [if_neg (fun h => d ((list_eq _ _).1 h))]
      rw [if_neg (fun h => d h.2)]
      exact Ev.now _
end Go.Proofs.Ytegefemkmdlmaaa.P
