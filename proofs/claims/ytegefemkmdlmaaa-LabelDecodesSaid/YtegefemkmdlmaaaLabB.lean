/- Plain laws on labels: reading an encoding gives the label. -/
import Derived.Test.YtegefemkmdlmaaaLabA
namespace Go.Proofs.Ytegefemkmdlmaaa.P
open Go.RowKit Go.Proofs.YtegefemkmdlmaaaW.PrintWords Go.Proofs.YtegefemkmdlmaaaW.PrintLast Go.Proofs.YtegefemkmdlmaaaW.PrintMore
theorem readC_numE (n m : Int) (t : ByteArray) (h0 : 0 ≤ n) (h1 : n ≤ m) (hm : m ≤ 9223372036854775807) : readC (numE n ++ t) 0 m = (n, t, 0) := by
  unfold readC
  rw [readN_numE n t h0 (by omega)]
  simp only [if_true]
  rw [if_neg (by omega)]
theorem readT_text (x t : ByteArray) (m : Int) (h : (x.size : Int) ≤ m) (hx : x.size ≤ 140737488355328) : readT (textE x ++ t) 0 m = (x, t, 0) := by
  have hC : readC (textE x ++ t) 0 m = ((x.size : Int), x ++ t, 0) := by
    unfold readC textE
    rw [ba_append_assoc, readN_numE _ _ (by omega) (by omega)]
    simp only [if_true]
    rw [if_neg (by omega)]
  unfold readT
  rw [hC]
  simp only [if_true, Int.toNat_natCast]
  rw [if_neg (by rw [ByteArray.size_append]; omega), ba_head, ba_tail]
/-- So many runs read. -/
def rdRuns (m : Int) : Nat → ByteArray → Int → List S103 × ByteArray × Int
  | 0, s, e => ([], s, e)
  | n + 1, s, e =>
    let a := readC s e m
    let b := readC a.2.1 a.2.2 128
    let q := rdRuns m n b.2.1 b.2.2
    (⟨a.1, b.1⟩ :: q.1, q.2)
theorem rdRuns_runsE (m : Int) (hm : 127 ≤ m) (hm2 : m ≤ 9223372036854775807) (l : List S103) : ∀ t : ByteArray, (∀ r ∈ l, 0 ≤ r.f0 ∧ r.f0 ≤ 127 ∧ 1 ≤ r.f1 ∧ r.f1 ≤ 128) → rdRuns m l.length (runsE l ++ t) 0 = (l, t, 0) := by
  induction l with
  | nil => intro t _; simp only [List.length_nil, rdRuns, runsE]; rw [empty_append]
  | cons r l ih =>
    intro t h
    have hr := h r (by simp)
    simp only [List.length_cons, rdRuns, runsE]
    rw [ba_append_assoc, readC_numE r.f0 m _ (by omega) (by omega) hm2]
    simp only []
    rw [ba_append_assoc, readC_numE r.f1 128 _ (by omega) (by omega) (by omega)]
    simp only []
    rw [ih t (fun q hq => h q (by simp [hq]))]
/-- A label read, with the greatest first track m. -/
def rdLab (m : Int) (s : ByteArray) : Lab × ByteArray × Int :=
  let a := readC s 0 1099511627776
  let b := readC a.2.1 a.2.2 1099511627776
  let c := readT b.2.1 b.2.2 31
  let d := readT c.2.1 c.2.2 400
  let n := readC d.2.1 d.2.2 16
  let q := rdRuns m n.1.toNat n.2.1 n.2.2
  (⟨a.1, b.1, c.1, d.1, q.1⟩, q.2)
theorem rdLab_body (m : Int) (hm : 127 ≤ m) (hm2 : m ≤ 9223372036854775807) (L : Lab) (t : Int) (h : validLab L t = true) (s : ByteArray) : rdLab m (bodyE L ++ s) = (L, s, 0) := by
  obtain ⟨h0, h1, h2, h3, h4, h5, h6, h7, h8, h9, h10⟩ := valid_facts h
  unfold rdLab bodyE
  rw [ba_append_assoc, readC_numE L.id _ _ (by omega) h3 (by decide)]
  simp only []
  rw [ba_append_assoc, readC_numE L.unit _ _ h4 h5 (by decide)]
  simp only []
  rw [ba_append_assoc, readT_text L.name _ 31 (by omega) (by omega)]
  simp only []
  rw [ba_append_assoc, readT_text L.note _ 400 (by omega) (by omega)]
  simp only []
  rw [ba_append_assoc, readC_numE (L.ext.length : Int) 16 _ (by omega) (by omega) (by decide)]
  simp only [Int.toNat_natCast]
  rw [rdRuns_runsE m hm hm2 L.ext s h10]
/-- What is read lies within its bounds. -/
theorem rdRuns_range (m : Int) (hm : 0 ≤ m) : ∀ (n : Nat) (s : ByteArray) (e : Int), (rdRuns m n s e).1.length = n ∧ ∀ r ∈ (rdRuns m n s e).1, 0 ≤ r.f0 ∧ r.f0 ≤ m ∧ 0 ≤ r.f1 ∧ r.f1 ≤ 128 := by
  have rng : ∀ (s : ByteArray) (e m : Int), 0 ≤ m → 0 ≤ (readC s e m).1 ∧ (readC s e m).1 ≤ m := fun s e m hm => by
    have hr := readN_range s e
    unfold readC
    by_cases h : (readN s e).2.2 = 0
    · rw [if_pos h]
      split
      · exact ⟨Int.le_refl _, hm⟩
      · exact ⟨hr.1, by omega⟩
    · rw [if_neg h]; exact ⟨Int.le_refl _, hm⟩
  intro n
  induction n with
  | zero => intro s e; exact ⟨rfl, fun r hr => by cases hr⟩
  | succ n ih =>
    intro s e
    simp only [rdRuns]
    obtain ⟨i1, i2⟩ := ih (readC (readC s e m).2.1 (readC s e m).2.2 128).2.1 (readC (readC s e m).2.1 (readC s e m).2.2 128).2.2
    refine ⟨by rw [List.length_cons, i1], fun r hr => ?_⟩
    rcases List.mem_cons.1 hr with rfl | hr
    · have a := rng s e m hm
      have b := rng (readC s e m).2.1 (readC s e m).2.2 128 (by decide)
      exact ⟨a.1, a.2, b.1, b.2⟩
    · exact i2 r hr
theorem readC_most (s : ByteArray) (e m : Int) (hm : 0 ≤ m) : 0 ≤ (readC s e m).1 ∧ (readC s e m).1 ≤ m := by
  have hr := readN_range s e
  unfold readC
  by_cases h : (readN s e).2.2 = 0
  · rw [if_pos h]
    split
    · exact ⟨Int.le_refl _, hm⟩
    · exact ⟨hr.1, by omega⟩
  · rw [if_neg h]; exact ⟨Int.le_refl _, hm⟩
/-- An encoding that is not empty, as bytes read. -/
theorem rdLab_enc (m : Int) (hm : 127 ≤ m) (hm2 : m ≤ 9223372036854775807) (L : Lab) (t : Int) (h : validLab L t = true) : rdLab m (fillE (bodyE L)) = (L, zerosE (1024 - (bodyE L).size), 0) := rdLab_body m hm hm2 L t h _
theorem enc_inj (L M : Lab) (t u : Int) (hl : validLab L t = true) (hm : validLab M u = true) (h : fillE (bodyE L) = fillE (bodyE M)) : L = M := by
  have a := rdLab_enc 128 (by decide) (by decide) L t hl
  have b := rdLab_enc 128 (by decide) (by decide) M u hm
  rw [h, b] at a
  exact (Prod.mk.inj a).1.symm
theorem zeros_front (n : Nat) : zerosE (n + 1) = numE 0 ++ zerosE n := by
  unfold zerosE numE
  rw [List.replicate_succ, show (0 : Int) :: List.replicate n 0 = encL 9 0 ++ List.replicate n 0 from rfl, strOfNums_append]
theorem fill_zero : fillE ⟨#[]⟩ = zerosE 1024 := empty_append _
/-- No valid label is written as zeros. -/
theorem enc_not_zero (L : Lab) (t : Int) (h : validLab L t = true) : fillE (bodyE L) ≠ fillE ⟨#[]⟩ := by
  intro he
  obtain ⟨h0, h1, h2, h3, h4, h5, h6, h7, h8, h9, h10⟩ := valid_facts h
  have a : readN (fillE (bodyE L)) 0 = (L.id, numE L.unit ++ (textE L.name ++ (textE L.note ++ (numE L.ext.length ++ runsE L.ext))) ++ zerosE (1024 - (bodyE L).size), 0) := by
    unfold fillE
    rw [show bodyE L ++ zerosE (1024 - (bodyE L).size) = numE L.id ++ (numE L.unit ++ (textE L.name ++ (textE L.note ++ (numE L.ext.length ++ runsE L.ext))) ++ zerosE (1024 - (bodyE L).size)) by
      rw [← ba_append_assoc]; rfl]
    exact readN_numE _ _ (by omega) (by omega)
  rw [he, fill_zero, zeros_front, readN_numE 0 _ (by decide) (by decide)] at a
  have := (Prod.mk.inj a).1
  omega
theorem encV_valid {L : Lab} {t : Int} (h : validLab L t = true) : encV L t = fillE (bodyE L) := by
  obtain ⟨h0, h1, h2, _⟩ := valid_facts h
  unfold encV
  rw [if_neg (fun hz => by rw [hz.2] at h2; exact absurd h2 (by decide)), if_pos h]
theorem encV_size_valid {L : Lab} {t : Int} (h : validLab L t = true) : (encV L t).size = 1024 := by
  obtain ⟨h0, h1, h2, h3, h4, h5, h6, h7, h8, h9, h10⟩ := valid_facts h
  rw [encV_valid h]
  exact fillE_size _ (body_size h6 h7 h9)
end Go.Proofs.Ytegefemkmdlmaaa.P
