/- Plain laws on the sequence of a list of runs, for labels: when a list has no track twice. -/
import Derived.Test.YtegefemkmdlmaaaLawN
namespace Go.Proofs.Ytegefemkmdlmaaa.P
open Go.RowKit Go.Proofs.YtegefemkmdlmaaaW.PrintWords Go.Proofs.YtegefemkmdlmaaaW.PrintLast Go.Proofs.YtegefemkmdlmaaaW.PrintMore
/-- The tracks a, a + 1, .., m of them. -/
def seg (a : Int) : Nat → List Int
  | 0 => []
  | m + 1 => a :: seg (a + 1) m
def segR (r : S103) : List Int := seg (clipS r).f0 (clipS r).f1.toNat
/-- The sequence of a list. -/
def seqL : List S103 → List Int
  | [] => []
  | r :: l => segR r ++ seqL l
theorem seg_length (m : Nat) : ∀ a, (seg a m).length = m := by
  induction m with
  | zero => intro a; rfl
  | succ m ih => intro a; simp only [seg, List.length_cons, ih]
theorem seg_mem (m : Nat) : ∀ (a t : Int), t ∈ seg a m ↔ a ≤ t ∧ t < a + m := by
  induction m with
  | zero => intro a t; simp only [seg, List.not_mem_nil, false_iff]; omega
  | succ m ih => intro a t; simp only [seg, List.mem_cons, ih]; omega
theorem segR_length (r : S103) : ((segR r).length : Int) = (clipS r).f1 := by
  have := clip_range r
  unfold segR
  rw [seg_length]; omega
theorem seqL_length (l : List S103) : ((seqL l).length : Int) = sizeL l := by
  induction l with
  | nil => rfl
  | cons r l ih =>
    have := segR_length r
    rw [sizeL_cons]
    simp only [seqL, List.length_append]
    omega
theorem seqL_mem (l : List S103) (t : Int) : t ∈ seqL l ↔ inL l t = true := by
  induction l with
  | nil => simp [seqL, inL]
  | cons r l ih =>
    have hc := clip_range r
    have e : inL (r :: l) t = (decide ((clipS r).f0 ≤ t ∧ t < (clipS r).f0 + (clipS r).f1) || inL l t) := by simp [inL]
    simp only [seqL, List.mem_append, ih, e, Bool.or_eq_true, decide_eq_true_iff, segR, seg_mem]
    constructor
    · rintro (h | h)
      · exact Or.inl (by omega)
      · exact Or.inr h
    · rintro (h | h)
      · exact Or.inl (by omega)
      · exact Or.inr h
theorem cnt_insert (f : Nat → Bool) (a n : Nat) : cnt (fun t => decide (t = a) || f t) n = cnt f n + (if a < n ∧ f a = false then 1 else 0) := by
  induction n with
  | zero => simp [cnt]
  | succ n ih =>
    simp only [cnt, ih]
    by_cases h : n = a
    · subst h
      rw [if_neg (by omega), decide_eq_true rfl, Bool.true_or]
      cases h2 : f n
      · rw [if_pos ⟨by omega, rfl⟩]; rfl
      · rw [if_neg (by simp)]; simp only [one]; omega
    · rw [decide_eq_false h, Bool.false_or]
      by_cases h3 : a < n ∧ f a = false
      · rw [if_pos h3, if_pos ⟨by omega, h3.2⟩]; omega
      · rw [if_neg h3, if_neg (fun h4 => h3 ⟨by omega, h4.2⟩)]; omega
theorem cnt_congr {f g : Nat → Bool} (n : Nat) (h : ∀ i, i < n → f i = g i) : cnt f n = cnt g n := by
  induction n with
  | zero => rfl
  | succ n ih => simp only [cnt]; rw [ih (fun i hi => h i (by omega)), h n (by omega)]
theorem cnt_list (s : List Int) (hs : ∀ x ∈ s, 0 ≤ x ∧ x < 128) : cnt (fun t => decide ((t : Int) ∈ s)) 128 ≤ s.length ∧ (cnt (fun t => decide ((t : Int) ∈ s)) 128 = s.length ↔ s.Nodup) := by
  induction s with
  | nil =>
    have : cnt (fun t => decide ((t : Int) ∈ ([] : List Int))) 128 = 0 := by
      have : ∀ n, cnt (fun t => decide ((t : Int) ∈ ([] : List Int))) n = 0 := fun n => by
        induction n with
        | zero => rfl
        | succ n ih => simp only [cnt, ih]; simp [one]
      exact this 128
    rw [this]; simp
  | cons a s ih =>
    obtain ⟨h1, h2⟩ := ih (fun x hx => hs x (List.mem_cons_of_mem _ hx))
    have ha := hs a (by simp)
    have e : cnt (fun t => decide ((t : Int) ∈ a :: s)) 128 = cnt (fun t => decide ((t : Int) ∈ s)) 128 + (if a ∈ s then 0 else 1) := by
      have := cnt_insert (fun t => decide ((t : Int) ∈ s)) a.toNat 128
      have c : cnt (fun t => decide ((t : Int) ∈ a :: s)) 128 = cnt (fun t => decide (t = a.toNat) || decide ((t : Int) ∈ s)) 128 := cnt_congr 128 (fun i hi => by
        rw [← Bool.decide_or, decide_eq_decide, List.mem_cons]
        constructor
        · rintro (h | h)
          · exact Or.inl (by omega)
          · exact Or.inr h
        · rintro (h | h)
          · exact Or.inl (by omega)
          · exact Or.inr h)
      rw [c, this, show ((a.toNat : Nat) : Int) = a by omega]
      by_cases h : a ∈ s
      · rw [if_pos h, if_neg (by simp [h])]
      · rw [if_neg h, if_pos ⟨by omega, by simp [h]⟩]
    rw [e, List.length_cons, List.nodup_cons]
    by_cases h : a ∈ s
    · rw [if_pos h]
      refine ⟨by omega, ?_⟩
      constructor
      · intro h3; omega
      · intro h3; exact absurd h h3.1
    · rw [if_neg h]
      refine ⟨by omega, ?_⟩
      constructor
      · intro h3; exact ⟨h, h2.1 (by omega)⟩
      · intro h3; have := h2.2 h3.2; omega
theorem seqL_range (l : List S103) : ∀ x ∈ seqL l, 0 ≤ x ∧ x < 128 := by
  intro x hx
  have h := (seqL_mem l x).1 hx
  unfold inL at h
  obtain ⟨r, _, h⟩ := List.any_eq_true.1 h
  have h := of_decide_eq_true h
  have := clip_range r
  omega
theorem disjL_iff (l : List S103) : disjL l = true ↔ (seqL l).Nodup := by
  have h := (cnt_list (seqL l) (seqL_range l)).2
  have e : cnt (fun t => decide ((t : Int) ∈ seqL l)) 128 = cnt (fun t => inL l t) 128 := cnt_congr 128 (fun i _ => by
    rw [Bool.eq_iff_iff, decide_eq_true_iff]; exact seqL_mem l i)
  rw [e, seqL_length] at h
  unfold disjL
  rw [decide_eq_true_iff, sizeL_runsOf, ← h]
  exact ⟨fun h => h.symm, fun h => h.symm⟩
end Go.Proofs.Ytegefemkmdlmaaa.P
