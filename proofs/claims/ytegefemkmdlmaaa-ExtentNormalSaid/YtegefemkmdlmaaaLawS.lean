/- Plain laws: the reference's In, Set and Normal answer the normal form of the set. -/
import Derived.Test.YtegefemkmdlmaaaF81
import Derived.Test.YtegefemkmdlmaaaF82
import Derived.Test.YtegefemkmdlmaaaF112
import Derived.Test.YtegefemkmdlmaaaLawC
namespace Go.Proofs.Ytegefemkmdlmaaa.P
set_option linter.unusedSimpArgs false
open Go.RowKit Go.Proofs.YtegefemkmdlmaaaW.PrintWords Go.Proofs.YtegefemkmdlmaaaW.PrintLast Go.Proofs.YtegefemkmdlmaaaW.PrintMore
theorem inL_cons (r : S103) (l : List S103) (t : Int) : inL (r :: l) t = (decide ((clipS r).f0 ≤ t ∧ t < (clipS r).f0 + (clipS r).f1) || inL l t) := by simp [inL]
theorem in_l0 (l : List S103) (hok : okL l = true) (x : Int) : ∀ (d i : Nat), i + d = l.length → Ev (fun k => dasdref05_In.l0 k l x (i : Int)) (inL (l.drop i) x) := by
  have hlen := okL_len hok
  intro d
  induction d with
  | zero =>
    intro i hi
    rw [List.drop_of_length_le (by omega)]
    exact Ev.step (f := fun _ => some false) (fun k => by simp only [dasdref05_In.l0]; rw [if_neg (by omega)]) (Ev.now _)
  | succ d ih =>
    intro i hi
    have hlt : i < l.length := by omega
    have hcr := clip_range (rd_T103 l (i : Int))
    rw [drop_at l i hlt, inL_cons]
    refine Ev.step (f := fun k => (dasdref05_clip.f k ((rd_T103 l (i : Int)).f0) ((rd_T103 l (i : Int)).f1)).bind _) (fun k => by simp only [dasdref05_In.l0]; rw [if_pos (by omega), if_pos (by omega)]) ?_
    refine Ev.bind (refclip_ev _ (ok_at hok hlt)) ?_
    simp only []
    rw [wrap_succ i (by omega), wrap_in _ (by omega) (by omega)]
    by_cases c0 : x ≥ (clipS (rd_T103 l (i : Int))).f0
    · simp only [if_pos c0]
      by_cases c1 : x < (clipS (rd_T103 l (i : Int))).f0 + (clipS (rd_T103 l (i : Int))).f1
      · simp only [if_pos c1]
        rw [decide_eq_true (show _ ∧ _ from ⟨c0, c1⟩), Bool.true_or]
        exact Ev.now _
      · simp only [if_neg c1]
        rw [decide_eq_false (fun h => c1 h.2), Bool.false_or]
        exact ih (i + 1) (by omega)
    · simp only [if_neg c0]
      rw [decide_eq_false (fun h => c0 h.1), Bool.false_or]
      exact ih (i + 1) (by omega)
theorem in_ev (l : List S103) (hok : okL l = true) (x : Int) : Ev (fun k => dasdref05_In.f k l x) (inL l x) := by
  have := in_l0 l hok x l.length 0 (by omega)
  simpa [dasdref05_In.f] using this
theorem set_l0 (xs : List Bool) (hx : xs.length ≤ 128) : ∀ (d i : Nat), i + d = xs.length → Ev (fun k => dasdref05_set.l0 k xs (runsTo (fun t => xs.getD t false) i) (i : Int)) (runsTo (fun t => xs.getD t false) xs.length) := by
  have hlast : ∀ i : Nat, rdOf false xs (i : Int) = xs.getD i false := fun i => by unfold rdOf; rw [Int.toNat_natCast]
  intro d
  induction d with
  | zero =>
    intro i hi
    obtain rfl : i = xs.length := by omega
    exact Ev.step (f := fun _ => some _) (fun k => by simp only [dasdref05_set.l0]; rw [if_neg (by omega)]) (Ev.now _)
  | succ d ih =>
    intro i hi
    have hw : wrap64 ((i : Int) + 1) = ((i + 1 : Nat) : Int) := wrap_succ i (by omega)
    have hl := (runsTo_range (fun t => xs.getD t false) i).2
    refine Ev.step (f := fun k => dasdref05_set.l0 k xs (runsTo (fun t => xs.getD t false) (i + 1)) ((i + 1 : Nat) : Int)) (fun k => ?_) (ih (i + 1) (by omega))
    simp only [dasdref05_set.l0]
    rw [if_pos (by omega), if_pos (by omega), hlast, runsTo_succ, hw]
    by_cases c : xs.getD i false = true
    · rw [if_pos c]
      simp only [c, Bool.true_eq_false, if_false]
      have new : (if (runsTo (fun t => xs.getD t false) i).length < 8796093022208 then dasdref05_set.l0 k xs (runsTo (fun t => xs.getD t false) i ++ [⟨(i : Int), 1⟩]) ((i + 1 : Nat) : Int) else none) = dasdref05_set.l0 k xs (runsTo (fun t => xs.getD t false) i ++ [⟨(i : Int), 1⟩]) ((i + 1 : Nat) : Int) := if_pos (by omega)
      by_cases c1 : 0 < i
      · have hw1 : wrap64 ((i : Int) - 1) = ((i - 1 : Nat) : Int) := by unfold wrap64; omega
        rw [if_pos (show (i : Int) > 0 by omega), hw1, if_pos (by omega), if_pos (by omega), hlast]
        by_cases c2 : xs.getD (i - 1) false = true
        · obtain ⟨o, q, e, hq⟩ := runsTo_last (fun t => xs.getD t false) i c1 c2
          have hqr := (runsTo_range (fun t => xs.getD t false) i).1 q (by rw [e]; exact List.mem_append_right _ (List.mem_singleton.2 rfl))
          rw [if_pos c2, if_pos (show 0 < i ∧ _ from ⟨c1, c2⟩), e]
          have hol : (o ++ [q]).length = o.length + 1 := by simp
          rw [e] at hl
          have hw2 : wrap64 (((o ++ [q]).length : Int) - 1) = (o.length : Int) := by rw [hol]; unfold wrap64; omega
          rw [hw2, if_pos (by omega), if_pos (by omega), rd_last, Int.toNat_natCast, set_last, wrap_in _ (by omega) (by omega), bump_snoc]
        · rw [if_neg c2, if_neg (show ¬ (0 < i ∧ _) from fun h => c2 h.2)]
          exact new
      · rw [if_neg (show ¬ (i : Int) > 0 by omega), if_neg (show ¬ (0 < i ∧ _) from fun h => c1 h.1)]
        exact new
    · rw [if_neg c]
      have c' : xs.getD i false = false := by simpa using c
      simp only [c', if_true]
theorem set_ev (xs : List Bool) (hx : xs.length = 128) (has : Nat → Bool) (he : ∀ i, i < 128 → xs.getD i false = has i) : Ev (fun k => dasdref05_set.f k xs) (runsOf has) := by
  have := set_l0 xs (by omega) xs.length 0 (by omega)
  rw [hx] at this
  have e : runsOf has = runsTo (fun t => xs.getD t false) 128 := (runsOf_congr (fun i hi => (he i hi))).symm
  rw [e]
  exact this
/-- What the reference's Set keeps. -/
def pick (x y z a b : Bool) : Bool := if a = true then (if b = true then z else x) else (b && y)
theorem Set_l0 (l m : List S103) (hl : okL l = true) (hm : okL m = true) (x y z : Bool) : ∀ (d i : Nat) (xs : List Bool), i + d = 128 → xs.length = i → (∀ j, j < i → xs.getD j false = pick x y z (inL l j) (inL m j)) → Ev (fun k => dasdref05_Set.l0 k l m x y z xs (i : Int)) (runsOf fun t => pick x y z (inL l t) (inL m t)) := by
  intro d
  induction d with
  | zero =>
    intro i xs hi hx hp
    refine Ev.step (f := fun k => (dasdref05_set.f k xs).bind fun t => some t) (fun k => by simp only [dasdref05_Set.l0]; rw [if_neg (by omega)]) ?_
    exact Ev.bind (set_ev xs (by omega) _ (fun j hj => hp j (by omega))) (Ev.now _)
  | succ d ih =>
    intro i xs hi hx hp
    have hw : wrap64 ((i : Int) + 1) = ((i + 1 : Nat) : Int) := wrap_succ i (by omega)
    have nxt : Ev (fun k => dasdref05_Set.l0 k l m x y z (xs ++ [pick x y z (inL l i) (inL m i)]) ((i + 1 : Nat) : Int)) (runsOf fun t => pick x y z (inL l t) (inL m t)) := by
      refine ih (i + 1) _ (by omega) (by simp [hx]) (fun j hj => ?_)
      rw [List.getD_eq_getElem?_getD]
      by_cases c : j < i
      · rw [List.getElem?_append_left (by omega), ← List.getD_eq_getElem?_getD]
        exact hp j c
      · obtain rfl : j = i := by omega
        rw [List.getElem?_append_right (by omega)]
        simp [hx]
    refine Ev.step (f := fun k => (dasdref05_In.f k l (i : Int)).bind _) (fun k => by simp only [dasdref05_Set.l0]; rw [if_pos (by omega)]) ?_
    refine Ev.bind (in_ev l hl _) (Ev.bind (in_ev m hm _) ?_)
    have hlt : xs.length < 140737488355328 := by omega
    simp only [hw, if_pos hlt]
    generalize (runsOf fun t => pick x y z (inL l t) (inL m t)) = R at nxt ⊢
    unfold pick at nxt
    cases h1 : inL l (i : Int) <;> cases h2 : inL m (i : Int) <;> cases x <;> cases y <;> simp only [h1, h2, if_true, if_false, Bool.false_eq_true, Bool.and_true, Bool.and_false, Bool.true_and, Bool.false_and] at nxt ⊢ <;> exact nxt
theorem Set_ev (l m : List S103) (hl : okL l = true) (hm : okL m = true) (x y z : Bool) : Ev (fun k => dasdref05_Set.f k l m x y z) (runsOf fun t => pick x y z (inL l t) (inL m t)) :=
  Set_l0 l m hl hm x y z 128 0 [] (by omega) rfl (fun j hj => by omega)
end Go.Proofs.Ytegefemkmdlmaaa.P
