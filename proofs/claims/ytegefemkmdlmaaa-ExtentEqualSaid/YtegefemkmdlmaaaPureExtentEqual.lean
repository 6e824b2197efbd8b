/- The pure statement of ExtentEqual, and its proof. -/
import Derived.Test.YtegefemkmdlmaaaF19
import Derived.Test.YtegefemkmdlmaaaF41
import Derived.Test.YtegefemkmdlmaaaOpen
import Derived.Test.YtegefemkmdlmaaaAwk5
import Derived.Test.YtegefemkmdlmaaaLawI
namespace Go.Proofs.Ytegefemkmdlmaaa.P
open Go.RowKit Go.Proofs.YtegefemkmdlmaaaW.PrintWords Go.Proofs.YtegefemkmdlmaaaW.PrintLast Go.Proofs.YtegefemkmdlmaaaW.PrintMore
/-- The pure statement of ExtentEqual. -/
def dasdlaw05_ExtentEqual.Pure : Prop := ∀ (l0 : List S103) (l1 : List S103), (∀ r ∈ l0, okR r = true) → l0.length ≤ 9223372036854775807 → (∀ r ∈ l1, okR r = true) → l1.length ≤ 9223372036854775807 → ∃ k, dasdlaw05_ExtentEqual.f k l0 l1 = some true
theorem validR_ev (has : Nat → Bool) : Ev (fun k => extent_Valid.f k (runsOf has)) true := by
  unfold extent_Valid.f extent_Normal.f
  rw [if_pos (okL_runsOf has)]
  simp only [Option.bind_some]
  refine Ev.bind (equal_ev _ _ (okL_len (okL_runsOf has))) ?_
  rw [runsOf_runsOf, decide_eq_true rfl]
  exact Ev.now _
theorem inL_bound (l : List S103) (t : Int) (h : inL l t = true) : 0 ≤ t ∧ t < 128 := by
  unfold inL at h
  obtain ⟨r, _, h⟩ := List.any_eq_true.1 h
  have h := of_decide_eq_true h
  have := clip_range r
  omega
theorem inL_runs (has : Nat → Bool) (t : Int) (hz : ∀ n : Nat, 128 ≤ n → has n = false) : inL (runsOf has) t = (decide (0 ≤ t) && has t.toNat) := by
  by_cases h : 0 ≤ t
  · obtain ⟨n, rfl⟩ : ∃ n : Nat, t = n := ⟨t.toNat, by omega⟩
    rw [inL_runsOf, Int.toNat_natCast, decide_eq_true h]
    by_cases h1 : n < 128
    · rw [decide_eq_true h1]
    · rw [hz n (by omega)]; simp
  · cases hb : inL (runsOf has) t with
    | true => exact absurd (inL_bound _ _ hb).1 h
    | false => rw [decide_eq_false h]; rfl
theorem mix_in (f : Bool → Bool → Bool) (hf : f false false = false) (l m : List S103) (t : Int) : inL (runsOf fun t => f (inL l t) (inL m t)) t = f (inL l t) (inL m t) := by
  have out : ∀ (l : List S103) (t : Int), (t < 0 ∨ 128 ≤ t) → inL l t = false := fun l t h => by
    cases hb : inL l t with
    | true => have := inL_bound _ _ hb; omega
    | false => rfl
  rw [inL_runs _ _ (fun n hn => by rw [out l n (by omega), out m n (by omega), hf])]
  by_cases h : 0 ≤ t
  · rw [decide_eq_true h, Bool.true_and, show ((t.toNat : Nat) : Int) = t by omega]
  · rw [decide_eq_false h, out l t (by omega), out m t (by omega), hf]; rfl
/-- Do two lists hold the same tracks from 0 to n? -/
def agree (l m : List S103) : Nat → Bool
  | 0 => true
  | n + 1 => agree l m n && (inL l (n : Int) == inL m (n : Int))
theorem agree_iff (l m : List S103) (n : Nat) : agree l m n = true ↔ ∀ i, i < n → inL l (i : Int) = inL m (i : Int) := by
  induction n with
  | zero => simp [agree]
  | succ n ih =>
    simp only [agree, Bool.and_eq_true, ih, beq_iff_eq]
    constructor
    · rintro ⟨h1, h2⟩ i hi
      by_cases h : i < n
      · exact h1 i h
      · obtain rfl : i = n := by omega
        exact h2
    · intro h
      exact ⟨fun i hi => h i (by omega), h n (by omega)⟩
theorem normal_iff (l m : List S103) : ((runsOf fun t => inL l t) = runsOf fun t => inL m t) ↔ ∀ i : Nat, i < 128 → inL l (i : Int) = inL m (i : Int) := by
  constructor
  · intro h i hi
    have h1 := inL_runsOf (fun t => inL l t) i
    have h2 := inL_runsOf (fun t => inL m t) i
    rw [h, h2] at h1
    simpa [hi] using h1.symm
  · exact runsOf_congr
theorem equal_l0' (l m : List S103) (okl : okL l = true) (okm : okL m = true) (U C D : List S103) (hU : U = runsOf fun t => inL l t || inL m t) (hC : C = runsOf fun t => inL l t && inL m t) (hD : D = runsOf fun t => inL l t && !inL m t) :
    ∀ (d i : Nat), i + d = 130 → Ev (fun k => dasdlaw05_ExtentEqual.l0 k l m U C D (agree l m (i - 1)) ((i : Int) - 1)) true := by
  have len : ∀ has : Nat → Bool, (runsOf has).length ≤ 1099511627776 := fun has => by have := runsOf_length has; omega
  intro d
  induction d with
  | zero =>
    intro i hi
    obtain rfl : i = 130 := by omega
    refine Ev.step (f := fun k => (extent_Normal.f l).bind _) (fun k => by simp only [dasdlaw05_ExtentEqual.l0]; rw [if_neg (by omega)]) ?_
    unfold extent_Normal.f
    simp only [if_pos okl, if_pos okm, Option.bind_some]
    refine Ev.bind (same_ev _ _ (len _)) ?_
    have e : (agree l m (130 - 1) == decide ((runsOf fun t => inL l t) = runsOf fun t => inL m t)) = true := by
      rw [beq_iff_eq, Bool.eq_iff_iff, agree_iff, decide_eq_true_iff, normal_iff]
      constructor
      · intro h i hi; exact h i (by omega)
      · intro h i hi
        by_cases c : i < 128
        · exact h i c
        · have out : ∀ (l : List S103), inL l (i : Int) = false := fun l => by
            cases hb : inL l (i : Int) with
            | true => have := inL_bound _ _ hb; omega
            | false => rfl
          rw [out, out]
    rw [e]
    exact Ev.now _
  | succ d ih =>
    intro i hi
    have hx : ((i : Int) - 1) ≤ 128 := by omega
    have hw : wrap64 ((i : Int) - 1 + 1) = ((i + 1 : Nat) : Int) - 1 := by unfold wrap64; omega
    have nxt := ih (i + 1) (by omega)
    have hag : agree l m (i + 1 - 1) = (agree l m (i - 1) && (inL l ((i : Int) - 1) == inL m ((i : Int) - 1))) := by
      by_cases h : i = 0
      · subst h
        have out : ∀ (l : List S103), inL l (((0 : Nat) : Int) - 1) = false := fun l => by
          cases hb : inL l (((0 : Nat) : Int) - 1) with
          | true => have := inL_bound _ _ hb; omega
          | false => rfl
        rw [out, out]; rfl
      · obtain ⟨j, rfl⟩ : ∃ j, i = j + 1 := ⟨i - 1, by omega⟩
        rw [show ((j + 1 : Nat) : Int) - 1 = (j : Int) by omega, Nat.add_sub_cancel, Nat.add_sub_cancel]
        rfl
    have i0 : inL l ((i : Int) - 1) = true → ¬ ((i : Int) - 1 < 0) ∧ ¬ ((i : Int) - 1 ≥ 128) := fun h => by have := inL_bound _ _ h; omega
    have i1 : inL m ((i : Int) - 1) = true → ¬ ((i : Int) - 1 < 0) ∧ ¬ ((i : Int) - 1 ≥ 128) := fun h => by have := inL_bound _ _ h; omega
    have mU : inL U ((i : Int) - 1) = (inL l ((i : Int) - 1) || inL m ((i : Int) - 1)) := by rw [hU]; exact mix_in (fun a b => a || b) rfl l m _
    have mC : inL C ((i : Int) - 1) = (inL l ((i : Int) - 1) && inL m ((i : Int) - 1)) := by rw [hC]; exact mix_in (fun a b => a && b) rfl l m _
    have mD : inL D ((i : Int) - 1) = (inL l ((i : Int) - 1) && !inL m ((i : Int) - 1)) := by rw [hD]; exact mix_in (fun a b => a && !b) rfl l m _
    have okU : okL U = true := by rw [hU]; exact okL_runsOf _
    have okC : okL C = true := by rw [hC]; exact okL_runsOf _
    have okD : okL D = true := by rw [hD]; exact okL_runsOf _
    have eU := contains_ev U okU ((i : Int) - 1)
    have eC := contains_ev C okC ((i : Int) - 1)
    have eD := contains_ev D okD ((i : Int) - 1)
    rw [mU] at eU
    rw [mC] at eC
    rw [mD] at eD
    rw [hag] at nxt
    refine Ev.step (f := fun k => (extent_Contains.f k l ((i : Int) - 1)).bind _) (fun k => by simp only [dasdlaw05_ExtentEqual.l0]; rw [if_pos hx]) ?_
    refine Ev.bind (contains_ev l okl _) (Ev.bind (contains_ev m okm _) (Ev.bind eU ?_))
    simp only [hw]
    generalize inL l ((i : Int) - 1) = a at *
    generalize inL m ((i : Int) - 1) = b at *
    generalize agree l m (i - 1) = g at *
    cases a with
    | true =>
      have j0 := i0 rfl
      cases b with
      | true =>
        simp only [Bool.or_true, Bool.and_true, Bool.not_true, bne_self_eq_false, Bool.false_eq_true, if_false, if_true, beq_self_eq_true] at eC eD nxt ⊢
        refine Ev.bind eC ?_
        simp only [bne_self_eq_false, Bool.false_eq_true, if_false]
        refine Ev.bind (by simpa using eD) ?_
        simp only [bne_self_eq_false, Bool.false_eq_true, if_false, if_neg j0.1, if_neg j0.2]
        cases g <;> simpa using nxt
      | false =>
        simp only [Bool.or_false, Bool.and_false, bne_self_eq_false, Bool.false_eq_true, if_false, if_true] at eC eD nxt ⊢
        refine Ev.bind eC ?_
        simp only [bne_self_eq_false, Bool.false_eq_true, if_false]
        refine Ev.bind (by simpa using eD) ?_
        simp only [Bool.not_false, bne_self_eq_false, Bool.false_eq_true, if_false, if_neg j0.1, if_neg j0.2]
        cases g <;> simpa using nxt
    | false =>
      cases b with
      | true =>
        have j0 := i1 rfl
        simp only [Bool.or_true, bne_self_eq_false, Bool.false_eq_true, if_false] at eC eD nxt ⊢
        refine Ev.bind eC ?_
        simp only [Bool.false_and, bne_self_eq_false, Bool.false_eq_true, if_false]
        refine Ev.bind (by simpa using eD) ?_
        simp only [bne_self_eq_false, Bool.false_eq_true, if_false, if_true, if_neg j0.1, if_neg j0.2]
        cases g <;> simpa using nxt
      | false =>
        simp only [Bool.or_false, bne_self_eq_false, Bool.false_eq_true, if_false] at eC eD nxt ⊢
        refine Ev.bind eC ?_
        simp only [Bool.false_and, bne_self_eq_false, Bool.false_eq_true, if_false]
        refine Ev.bind (by simpa using eD) ?_
        simp only [bne_self_eq_false, Bool.false_eq_true, if_false]
        cases g <;> simpa using nxt
theorem equal_j0 (l m : List S103) (b : Bool) (hl : ∀ r ∈ l, okR r = true) (hm : ∀ r ∈ m, okR r = true) (hb : b = false → l.length ≤ 30 ∧ m.length ≤ 30) : Ev (fun k => dasdlaw05_ExtentEqual.j0 k l m b) true := by
  cases b with
  | true =>
    refine Ev.step (f := fun k => (dasdlaw05_awake.f k).bind fun t => some t) (fun k => by simp only [dasdlaw05_ExtentEqual.j0, if_true]) ?_
    exact Ev.bind awake5 (Ev.now _)
  | false =>
    obtain ⟨h0, h1⟩ := hb rfl
    have okl := okL_mk hl (by omega)
    have okm := okL_mk hm (by omega)
    refine Ev.step (f := fun k => (extent_Union.f l m).bind _) (fun k => by simp only [dasdlaw05_ExtentEqual.j0, Bool.false_eq_true, if_false]; rfl) ?_
    have mix : ∀ f, mixF f l m = some (runsOf fun t => f (inL l t) (inL m t)) := fun f => if_pos ⟨okl, okm⟩
    unfold extent_Union.f extent_Common.f extent_Minus.f
    simp only [mix, Option.bind_some]
    refine Ev.bind (validR_ev _) ?_
    simp only [if_true]
    refine Ev.bind (validR_ev _) ?_
    simp only [if_true]
    refine Ev.bind (validR_ev _) ?_
    refine Ev.step (f := fun k => dasdlaw05_ExtentEqual.l0 k l m _ _ _ true (-1)) (fun k => by simp only [dasdlaw05_ExtentEqual.j1, Bool.not_true, Bool.false_eq_true, if_false]; rfl) ?_
    exact equal_l0' l m okl okm _ _ _ rfl rfl rfl 130 0 (by omega)
end Go.Proofs.Ytegefemkmdlmaaa.P
namespace Go.Proofs.Ytegefemkmdlmaaa.Pure
open Go.Proofs.Ytegefemkmdlmaaa.P
open Go.RowKit Go.Proofs.YtegefemkmdlmaaaW.PrintWords Go.Proofs.YtegefemkmdlmaaaW.PrintLast Go.Proofs.YtegefemkmdlmaaaW.PrintMore
theorem ExtentEqual : dasdlaw05_ExtentEqual.Pure := by
  intro l m hl _ hm _
  apply Ev.rounds
  unfold dasdlaw05_ExtentEqual.f
  refine Ev.bind awake5 ?_
  simp only [if_true]
  by_cases h : (l.length : Int) > 30
  · simp only [if_pos h]
    exact equal_j0 l m true hl hm (fun h => by simp at h)
  · simp only [if_neg h]
    refine equal_j0 l m _ hl hm (fun h2 => ?_)
    have := of_decide_eq_false h2
    omega
end Go.Proofs.Ytegefemkmdlmaaa.Pure
