/- Plain laws on the sequence of a list of runs. -/
import Derived.Test.YtegefemkmdlmaaaF50
import Derived.Test.YtegefemkmdlmaaaLawI
import Derived.Test.YtegefemkmdlmaaaLawN
namespace Go.Proofs.Ytegefemkmdlmaaa.P
open Go.RowKit Go.Proofs.YtegefemkmdlmaaaW.PrintWords Go.Proofs.YtegefemkmdlmaaaW.PrintLast Go.Proofs.YtegefemkmdlmaaaW.PrintMore
/-- The tracks a, a + 1, .., m of them. -/
def seg (a : Int) : Nat → List Int
  | 0 => []
  | m + 1 => a :: seg (a + 1) m
def segR (r : S103) : List Int := seg (clipS r).f0 (clipS r).f1.toNat
/-- The sequence of a list. -/
def seqL : List S103 → List Int
  | [] => []
  | r :: l => segR r ++ seqL l
theorem seg_length (m : Nat) : ∀ a, (seg a m).length = m := by
  induction m with
  | zero => intro a; rfl
  | succ m ih => intro a; simp only [seg, List.length_cons, ih]
theorem seg_get (m : Nat) : ∀ (a : Int) (j : Nat), (seg a m)[j]? = if j < m then some (a + j) else none := by
  induction m with
  | zero => intro a j; simp [seg]
  | succ m ih =>
    intro a j
    cases j with
    | zero => simp [seg]
    | succ j =>
      simp only [seg, List.getElem?_cons_succ, ih]
      by_cases h : j < m
      · rw [if_pos h, if_pos (by omega)]; congr 1; omega
      · rw [if_neg h, if_neg (by omega)]
theorem seg_mem (m : Nat) : ∀ (a t : Int), t ∈ seg a m ↔ a ≤ t ∧ t < a + m := by
  induction m with
  | zero => intro a t; simp only [seg, List.not_mem_nil, false_iff]; omega
  | succ m ih => intro a t; simp only [seg, List.mem_cons, ih]; omega
theorem seg_append (m : Nat) : ∀ (a : Int) (n : Nat), seg a (m + n) = seg a m ++ seg (a + m) n := by
  induction m with
  | zero => intro a n; simp [seg]
  | succ m ih =>
    intro a n
    rw [show m + 1 + n = (m + n) + 1 by omega]
    simp only [seg, ih, List.cons_append]
    congr 3
    omega
theorem segR_length (r : S103) : ((segR r).length : Int) = (clipS r).f1 := by
  have := clip_range r
  unfold segR
  rw [seg_length]; omega
theorem segR_mk {a q : Int} (h0 : 0 ≤ a) (h1 : 0 ≤ q) (h2 : a + q ≤ 128) : segR ⟨a, q⟩ = seg a q.toNat := by
  unfold segR
  by_cases h : 1 ≤ q
  · rw [clipS_id _ h0 h h2]
  · have e : clipS ⟨a, q⟩ = ⟨0, 0⟩ := if_pos (Or.inl (by simp only []; omega))
    rw [e, show q = 0 by omega]; rfl
theorem seqL_append (l m : List S103) : seqL (l ++ m) = seqL l ++ seqL m := by
  induction l with
  | nil => rfl
  | cons r l ih => simp only [List.cons_append, seqL, ih, List.append_assoc]
theorem seqL_length (l : List S103) : ((seqL l).length : Int) = sizeL l := by
  induction l with
  | nil => rfl
  | cons r l ih =>
    have := segR_length r
    rw [sizeL_cons]
    simp only [seqL, List.length_append]
    omega
theorem seqL_mem (l : List S103) (t : Int) : t ∈ seqL l ↔ inL l t = true := by
  induction l with
  | nil => simp [seqL, inL]
  | cons r l ih =>
    have hc := clip_range r
    have e : inL (r :: l) t = (decide ((clipS r).f0 ≤ t ∧ t < (clipS r).f0 + (clipS r).f1) || inL l t) := by simp [inL]
    simp only [seqL, List.mem_append, ih, e, Bool.or_eq_true, decide_eq_true_iff, segR, seg_mem]
    constructor
    · rintro (h | h)
      · exact Or.inl (by omega)
      · exact Or.inr h
    · rintro (h | h)
      · exact Or.inl (by omega)
      · exact Or.inr h
/-! ### At -/
/-- What stands at a place of a sequence. -/
def atS (x : Int) (s : List Int) : Int × Bool := match s[x.toNat]? with | some t => (t, true) | none => (0, false)
theorem atS_cons (x : Int) (r : S103) (l : List S103) (hx : 0 ≤ x) : atS x (seqL (r :: l)) = if x < (clipS r).f1 then ((clipS r).f0 + x, true) else atS (x - (clipS r).f1) (seqL l) := by
  have hc := clip_range r
  have hl := segR_length r
  unfold atS
  simp only [seqL]
  by_cases h : x < (clipS r).f1
  · rw [if_pos h, List.getElem?_append_left (by omega)]
    unfold segR
    rw [seg_get, if_pos (by omega)]
    simp only []
    rw [show ((x.toNat : Nat) : Int) = x by omega]
  · rw [if_neg h, List.getElem?_append_right (by omega), show x.toNat - (segR r).length = (x - (clipS r).f1).toNat by omega]
theorem at_l0 (l : List S103) (hok : okL l = true) : ∀ (d i : Nat) (x : Int), i + d = l.length → 0 ≤ x → x ≤ 9223372036854775807 → Ev (fun k => extent_At.l0 k x l (l.length : Int) (i : Int)) (atS x (seqL (l.drop i))) := by
  have hlen := okL_len hok
  intro d
  induction d with
  | zero =>
    intro i x hi h0 h1
    rw [List.drop_of_length_le (by omega)]
    exact Ev.step (f := fun _ => some (0, false)) (fun k => by simp only [extent_At.l0]; rw [if_neg (by omega)]) (Ev.now _)
  | succ d ih =>
    intro i x hi h0 h1
    have hlt : i < l.length := by omega
    have hcr := clip_range (rd_T103 l (i : Int))
    rw [drop_at l i hlt, atS_cons x _ _ h0]
    refine Ev.step (f := fun k => (extent_clip.f k ((rd_T103 l (i : Int)).f0) ((rd_T103 l (i : Int)).f1)).bind _) (fun k => by simp only [extent_At.l0]; rw [if_pos (by omega), if_pos (by omega), if_pos (by omega)]) ?_
    refine Ev.bind (clip_ev _ (ok_at hok hlt)) ?_
    simp only []
    by_cases c0 : x < (clipS (rd_T103 l (i : Int))).f1
    · simp only [if_pos c0]
      rw [wrap_in _ (by omega) (by omega)]
      exact Ev.now _
    · simp only [if_neg c0]
      rw [wrap_succ i (by omega), wrap_in _ (by omega) (by omega)]
      exact ih (i + 1) _ (by omega) (by omega) (by omega)
/-- At. -/
def atL (l : List S103) (x : Int) : Int × Bool := if x < 0 then (0, false) else atS x (seqL l)
theorem at_ev (l : List S103) (hok : okL l = true) (x : Int) (hx : x ≤ 9223372036854775807) : Ev (fun k => extent_At.f k l x) (atL l x) := by
  unfold extent_At.f atL
  by_cases h : x < 0
  · simp only [if_pos h]; exact Ev.now _
  · simp only [if_neg h]
    have := at_l0 l hok l.length 0 x (by omega) (by omega) hx
    simpa using this
/-! ### Index -/
/-- The first place of a number in a list, counted on from i. -/
def idxL (x i : Int) : List Int → Int × Bool
  | [] => (0, false)
  | y :: s => if y = x then (i, true) else idxL x (i + 1) s
theorem idxL_seg (x : Int) (t : List Int) (m : Nat) : ∀ (a i : Int), idxL x i (seg a m ++ t) = if a ≤ x ∧ x < a + m then (i + x - a, true) else idxL x (i + m) t := by
  induction m with
  | zero => intro a i; rw [if_neg (by omega)]; simp [seg]
  | succ m ih =>
    intro a i
    simp only [seg, List.cons_append, idxL]
    by_cases h : a = x
    · rw [if_pos h, if_pos (by omega)]
      congr 1; omega
    · rw [if_neg h, ih]
      by_cases h2 : a + 1 ≤ x ∧ x < a + 1 + m
      · rw [if_pos h2, if_pos (by omega)]
        congr 1; omega
      · rw [if_neg h2, if_neg (by omega)]
        congr 1; omega
theorem indexFrom_eq (x : Int) (l : List S103) : ∀ n, indexFrom x n l = idxL x n (seqL l) := by
  induction l with
  | nil => intro n; rfl
  | cons r l ih =>
    intro n
    have hc := clip_range r
    simp only [indexFrom, seqL, segR]
    rw [idxL_seg, show (((clipS r).f1.toNat : Nat) : Int) = (clipS r).f1 by omega, ih]
theorem idxL_some (x : Int) (s : List Int) : ∀ (i : Int) (j : Nat), s[j]? = some x → ∃ p : Nat, p ≤ j ∧ idxL x i s = (i + p, true) ∧ s[p]? = some x := by
  induction s with
  | nil => intro i j h; simp at h
  | cons y s ih =>
    intro i j h
    simp only [idxL]
    by_cases e : y = x
    · rw [if_pos e]
      exact ⟨0, by omega, by simp, by simp [e]⟩
    · rw [if_neg e]
      cases j with
      | zero => simp at h; exact absurd h e
      | succ j =>
        obtain ⟨p, h1, h2, h3⟩ := ih (i + 1) j (by simpa using h)
        refine ⟨p + 1, by omega, ?_, by simpa using h3⟩
        rw [h2]
        congr 1; omega
/-! ### Lists without a track twice -/
theorem cnt_insert (f : Nat → Bool) (a n : Nat) : cnt (fun t => decide (t = a) || f t) n = cnt f n + (if a < n ∧ f a = false then 1 else 0) := by
  induction n with
  | zero => simp [cnt]
  | succ n ih =>
    simp only [cnt, ih]
    by_cases h : n = a
    · subst h
      rw [if_neg (by omega), decide_eq_true rfl, Bool.true_or]
      cases h2 : f n
      · rw [if_pos ⟨by omega, rfl⟩]; rfl
      · rw [if_neg (by simp)]; simp only [one]; omega
    · rw [decide_eq_false h, Bool.false_or]
      by_cases h3 : a < n ∧ f a = false
      · rw [if_pos h3, if_pos ⟨by omega, h3.2⟩]; omega
      · rw [if_neg h3, if_neg (fun h4 => h3 ⟨by omega, h4.2⟩)]; omega
theorem cnt_congr {f g : Nat → Bool} (n : Nat) (h : ∀ i, i < n → f i = g i) : cnt f n = cnt g n := by
  induction n with
  | zero => rfl
  | succ n ih => simp only [cnt]; rw [ih (fun i hi => h i (by omega)), h n (by omega)]
theorem cnt_list (s : List Int) (hs : ∀ x ∈ s, 0 ≤ x ∧ x < 128) : cnt (fun t => decide ((t : Int) ∈ s)) 128 ≤ s.length ∧ (cnt (fun t => decide ((t : Int) ∈ s)) 128 = s.length ↔ s.Nodup) := by
  induction s with
  | nil =>
    have : cnt (fun t => decide ((t : Int) ∈ ([] : List Int))) 128 = 0 := by
      have : ∀ n, cnt (fun t => decide ((t : Int) ∈ ([] : List Int))) n = 0 := fun n => by
        induction n with
        | zero => rfl
        | succ n ih => simp only [cnt, ih]; simp [one]
      exact this 128
    rw [this]; simp
  | cons a s ih =>
    obtain ⟨h1, h2⟩ := ih (fun x hx => hs x (List.mem_cons_of_mem _ hx))
    have ha := hs a (by simp)
    have e : cnt (fun t => decide ((t : Int) ∈ a :: s)) 128 = cnt (fun t => decide ((t : Int) ∈ s)) 128 + (if a ∈ s then 0 else 1) := by
      have := cnt_insert (fun t => decide ((t : Int) ∈ s)) a.toNat 128
      have c : cnt (fun t => decide ((t : Int) ∈ a :: s)) 128 = cnt (fun t => decide (t = a.toNat) || decide ((t : Int) ∈ s)) 128 := cnt_congr 128 (fun i hi => by
        rw [← Bool.decide_or, decide_eq_decide, List.mem_cons]
        constructor
        · rintro (h | h)
          · exact Or.inl (by omega)
          · exact Or.inr h
        · rintro (h | h)
          · exact Or.inl (by omega)
          · exact Or.inr h)
      rw [c, this, show ((a.toNat : Nat) : Int) = a by omega]
      by_cases h : a ∈ s
      · rw [if_pos h, if_neg (by simp [h])]
      · rw [if_neg h, if_pos ⟨by omega, by simp [h]⟩]
    rw [e, List.length_cons, List.nodup_cons]
    by_cases h : a ∈ s
    · rw [if_pos h]
      refine ⟨by omega, ?_⟩
      constructor
      · intro h3; omega
      · intro h3; exact absurd h h3.1
    · rw [if_neg h]
      refine ⟨by omega, ?_⟩
      constructor
      · intro h3; exact ⟨h, h2.1 (by omega)⟩
      · intro h3; have := h2.2 h3.2; omega
theorem seqL_range (l : List S103) : ∀ x ∈ seqL l, 0 ≤ x ∧ x < 128 := by
  intro x hx
  have h := (seqL_mem l x).1 hx
  unfold inL at h
  obtain ⟨r, _, h⟩ := List.any_eq_true.1 h
  have h := of_decide_eq_true h
  have := clip_range r
  omega
theorem disjL_iff (l : List S103) : disjL l = true ↔ (seqL l).Nodup := by
  have h := (cnt_list (seqL l) (seqL_range l)).2
  have e : cnt (fun t => decide ((t : Int) ∈ seqL l)) 128 = cnt (fun t => inL l t) 128 := cnt_congr 128 (fun i _ => by
    rw [Bool.eq_iff_iff, decide_eq_true_iff]; exact seqL_mem l i)
  rw [e, seqL_length] at h
  unfold disjL
  rw [decide_eq_true_iff, sizeL_runsOf, ← h]
  exact ⟨fun h => h.symm, fun h => h.symm⟩
end Go.Proofs.Ytegefemkmdlmaaa.P
