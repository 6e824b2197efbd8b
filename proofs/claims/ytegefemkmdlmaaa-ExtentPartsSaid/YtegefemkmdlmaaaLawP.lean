/- Plain laws: joining and cutting, told by the sequence. -/
import Derived.Test.YtegefemkmdlmaaaLawK
import Derived.Test.YtegefemkmdlmaaaLawQ
namespace Go.Proofs.Ytegefemkmdlmaaa.P
/-- One track more behind some runs. -/
def push (out : List S103) (t : Int) : List S103 :=
  if out ≠ [] ∧ (out.getD (out.length - 1) z103).f0 + (out.getD (out.length - 1) z103).f1 = t then out.set (out.length - 1) ⟨(out.getD (out.length - 1) z103).f0, (out.getD (out.length - 1) z103).f1 + 1⟩ else out ++ [⟨t, 1⟩]
theorem push_nil (t : Int) : push [] t = [⟨t, 1⟩] := by unfold push; rw [if_neg (fun h => h.1 rfl)]; rfl
theorem push_more (o : List S103) (q : S103) (t : Int) (h : q.f0 + q.f1 = t) : push (o ++ [q]) t = o ++ [⟨q.f0, q.f1 + 1⟩] := by
  unfold push
  rw [if_pos (by simpa using h)]
  simp
theorem push_new (o : List S103) (q : S103) (t : Int) (h : q.f0 + q.f1 ≠ t) : push (o ++ [q]) t = o ++ [q] ++ [⟨t, 1⟩] := by
  unfold push
  rw [if_neg (by simpa using h)]
theorem push_seg (m : Nat) : ∀ (o : List S103) (q : S103) (a : Int), q.f0 + q.f1 = a → (seg a m).foldl push (o ++ [q]) = o ++ [⟨q.f0, q.f1 + m⟩] := by
  induction m with
  | zero => intro o q a h; simp [seg]
  | succ m ih =>
    intro o q a h
    simp only [seg, List.foldl_cons]
    rw [push_more o q a h, ih o ⟨q.f0, q.f1 + 1⟩ (a + 1) (by simp only []; omega)]
    congr 2
    exact S103_ext rfl (by simp only []; omega)
theorem joinTo_fold (l : List S103) : ∀ out, joinTo out l = (seqL l).foldl push out := by
  induction l with
  | nil => intro out; rfl
  | cons r l ih =>
    intro out
    have hc := clip_range r
    simp only [seqL, segR, List.foldl_append]
    by_cases h0 : (clipS r).f1 = 0
    · rw [joinTo_skip _ _ _ h0, ih, h0]; rfl
    · obtain ⟨m, hm⟩ : ∃ m : Nat, (clipS r).f1.toNat = m + 1 := ⟨(clipS r).f1.toNat - 1, by omega⟩
      have e1 : (seg ((clipS r).f0 + 1) m).foldl push ([] ++ [⟨(clipS r).f0, 1⟩]) = [clipS r] := by
        rw [push_seg m [] ⟨(clipS r).f0, 1⟩ _ rfl]
        rw [List.nil_append]
        congr 1
        exact S103_ext rfl (by simp only []; omega)
      rcases List.eq_nil_or_concat out with rfl | ⟨o, q, rfl⟩
      · rw [joinTo_first _ _ h0, ih, hm]
        simp only [seg, List.foldl_cons]
        rw [push_nil]
        rw [List.nil_append] at e1
        rw [e1]
      · rw [List.concat_eq_append]
        by_cases he : q.f0 + q.f1 = (clipS r).f0
        · rw [joinTo_more _ _ _ _ h0 he, ih, push_seg _ _ _ _ he]
          congr 4
          omega
        · rw [joinTo_new _ _ _ _ h0 he, ih, hm]
          simp only [seg, List.foldl_cons]
          rw [push_new _ _ _ he, push_seg m (o ++ [q]) ⟨(clipS r).f0, 1⟩ _ rfl]
          congr 3
          exact S103_ext rfl (by simp only []; omega)
theorem joinL_fold (l : List S103) : joinL l = (seqL l).foldl push [] := joinTo_fold l []
theorem seqL_joinTo (l : List S103) : ∀ out, fine out → seqL (joinTo out l) = seqL out ++ seqL l := by
  induction l with
  | nil => intro out _; simp [joinTo, seqL]
  | cons r l ih =>
    intro out hf
    have hc := clip_range r
    by_cases h0 : (clipS r).f1 = 0
    · rw [joinTo_skip _ _ _ h0, ih out hf]
      simp only [seqL, segR, h0]
      rfl
    · have hcc : segR (clipS r) = segR r := by
        unfold segR
        rw [clipS_id (clipS r) hc.1 (by omega) hc.2.2.2]
      rcases List.eq_nil_or_concat out with rfl | ⟨o, q, rfl⟩
      · have hf1 : fine [clipS r] := fine_snoc fine_nil hc.1 (by omega) hc.2.2.2
        rw [joinTo_first _ _ h0, ih _ hf1]
        simp only [seqL, hcc, List.append_nil, List.nil_append]
      · rw [List.concat_eq_append] at *
        have hq := hf q (by simp)
        by_cases he : q.f0 + q.f1 = (clipS r).f0
        · rw [joinTo_more _ _ _ _ h0 he, ih _ (fine_snoc (r := ⟨q.f0, q.f1 + (clipS r).f1⟩) (fun x hx => hf x (List.mem_append_left _ hx)) hq.1 (by simp only []; omega) (by simp only []; omega))]
          rw [seqL_append, seqL_append]
          simp only [seqL, List.append_nil, List.append_assoc]
          congr 1
          rw [← List.append_assoc]
          congr 1
          obtain ⟨a, b⟩ := q
          simp only [] at hq he ⊢
          rw [segR_mk hq.1 (by omega) (by omega), segR_mk hq.1 (by omega) (by omega), show (b + (clipS r).f1).toNat = b.toNat + (clipS r).f1.toNat by omega, seg_append]
          unfold segR
          rw [show a + ((b.toNat : Nat) : Int) = (clipS r).f0 by omega]
        · rw [joinTo_new _ _ _ _ h0 he, ih _ (fine_snoc hf hc.1 (by omega) hc.2.2.2), seqL_append (o ++ [q])]
          simp only [seqL, hcc, List.append_nil, List.append_assoc]
theorem seqL_joinL (l : List S103) : seqL (joinL l) = seqL l := by
  have := seqL_joinTo l [] fine_nil
  simpa [joinL, seqL] using this
theorem seqL_cut (l : List S103) : ∀ n : Int, 0 ≤ n → seqL (cutA n l) = (seqL l).take n.toNat ∧ seqL (cutB n l) = (seqL l).drop n.toNat := by
  induction l with
  | nil => intro n _; simp [cutA, cutB, seqL]
  | cons r l ih =>
    intro n hn
    have hc := clip_range r
    have hlo := low_range n (clipS r).f1 hn hc.2.2.1
    obtain ⟨i1, i2⟩ := ih (n - low n (clipS r).f1) (by omega)
    simp only [cutA, cutB, seqL]
    have m1 : segR ⟨(clipS r).f0, low n (clipS r).f1⟩ = seg (clipS r).f0 (low n (clipS r).f1).toNat := segR_mk hc.1 (by omega) (by omega)
    have m2 : segR ⟨(clipS r).f0 + low n (clipS r).f1, (clipS r).f1 - low n (clipS r).f1⟩ = seg ((clipS r).f0 + low n (clipS r).f1) ((clipS r).f1 - low n (clipS r).f1).toNat := segR_mk (by omega) (by omega) (by omega)
    rw [i1, i2, m1, m2]
    have hcase : low n (clipS r).f1 = n ∧ n ≤ (clipS r).f1 ∨ low n (clipS r).f1 = (clipS r).f1 ∧ (clipS r).f1 ≤ n := by unfold low; split <;> omega
    rcases hcase with ⟨e, h⟩ | ⟨e, h⟩
    · rw [e]
      have hs : segR r = seg (clipS r).f0 n.toNat ++ seg ((clipS r).f0 + n) ((clipS r).f1 - n).toNat := by
        unfold segR
        rw [show (clipS r).f1.toNat = n.toNat + ((clipS r).f1 - n).toNat by omega, seg_append, show (clipS r).f0 + ((n.toNat : Nat) : Int) = (clipS r).f0 + n by omega]
      rw [hs, show (n - n).toNat = 0 by omega, List.take_zero, List.drop_zero, List.append_nil, List.append_assoc]
      have hl : (seg (clipS r).f0 n.toNat).length = n.toNat := seg_length _ _
      exact ⟨(List.take_left' hl).symm, (List.drop_left' hl).symm⟩
    · rw [e]
      have hl : (segR r).length = (clipS r).f1.toNat := by unfold segR; exact seg_length _ _
      have hz : seg ((clipS r).f0 + (clipS r).f1) ((clipS r).f1 - (clipS r).f1).toNat = [] := by rw [show ((clipS r).f1 - (clipS r).f1).toNat = 0 by omega]; rfl
      rw [hz, List.nil_append, show n.toNat = (segR r).length + (n - (clipS r).f1).toNat by omega, List.take_length_add_append, List.drop_length_add_append]
      exact ⟨rfl, rfl⟩
end Go.Proofs.Ytegefemkmdlmaaa.P
