/- Plain laws on labels: what Equal and Encode answer. -/
import Derived.Test.YtegefemkmdlmaaaQe
namespace Go.Proofs.Ytegefemkmdlmaaa.P
set_option linter.unusedSimpArgs false
open Go.RowKit Go.Proofs.YtegefemkmdlmaaaW.PrintWords Go.Proofs.YtegefemkmdlmaaaW.PrintLast Go.Proofs.YtegefemkmdlmaaaW.PrintMore
theorem awake7_at : dasdlaw07_awake.f 20 = some true := by
  unfold dasdlaw07_awake.f label_Encode.f label_Equal.f
  simp only [ByteArray.toList_eq]
  decide +kernel
theorem awake7 : Ev (fun k => dasdlaw07_awake.f k) true := Ev.of dasdlaw07_awake.mono awake7_at
/-- A label. -/
structure Lab where
  id : Int
  unit : Int
  name : ByteArray
  note : ByteArray
  ext : List S103
theorem lab_ext {a b : Lab} (h0 : a.id = b.id) (h1 : a.unit = b.unit) (h2 : a.name = b.name) (h3 : a.note = b.note) (h4 : a.ext = b.ext) : a = b := by
  cases a; cases b; simp at h0 h1 h2 h3 h4; subst h0 h1 h2 h3 h4; rfl
instance : DecidableEq Lab := fun a b =>
  if h : a.id = b.id ∧ a.unit = b.unit ∧ a.name = b.name ∧ a.note = b.note ∧ a.ext = b.ext then
    isTrue (lab_ext h.1 h.2.1 h.2.2.1 h.2.2.2.1 h.2.2.2.2)
  else isFalse (fun e => h ⟨by rw [e], by rw [e], by rw [e], by rw [e], by rw [e]⟩)
def zeroLab : Lab := ⟨0, 0, ⟨#[]⟩, ⟨#[]⟩, []⟩
def validLab (L : Lab) (t : Int) : Bool := validL L.id L.unit L.name L.note L.ext t
theorem list_eq (a b : ByteArray) : a.toList = b.toList ↔ a = b := by
  rw [ByteArray.toList_eq, ByteArray.toList_eq]
  exact ⟨ba_ext, fun h => by rw [h]⟩
theorem lequal_ev (L M : Lab) (h : L.ext.length ≤ 1099511627776) : Ev (fun k => label_Equal.f k L.id L.unit L.name L.note L.ext M.id M.unit M.name M.note M.ext) (decide (L = M)) := by
  unfold label_Equal.f
  by_cases c0 : L.id = M.id
  · simp only [if_pos c0]
    by_cases c1 : L.unit = M.unit
    · simp only [if_pos c1]
      by_cases c2 : L.name.toList = M.name.toList
      · simp only [if_pos c2]
        by_cases c3 : L.note.toList = M.note.toList
        · simp only [if_pos c3]
          refine Ev.bind (equal_ev L.ext M.ext h) ?_
          have e : decide (L.ext = M.ext) = decide (L = M) := by
            rw [decide_eq_decide]
            constructor
            · intro c4
              exact lab_ext c0 c1 ((list_eq _ _).1 c2) ((list_eq _ _).1 c3) c4
            · intro e; rw [e]
          rw [e]
          exact Ev.now _
        · simp only [if_neg c3]
          rw [decide_eq_false (fun e => c3 (by rw [e]))]
          exact Ev.now _
      · simp only [if_neg c2]
        rw [decide_eq_false (fun e => c2 (by rw [e]))]
        exact Ev.now _
    · simp only [if_neg c1]
      rw [decide_eq_false (fun e => c1 (by rw [e]))]
      exact Ev.now _
  · simp only [if_neg c0]
    rw [decide_eq_false (fun e => c0 (by rw [e]))]
    exact Ev.now _
/-- So many bytes of zero. -/
def zerosE (n : Nat) : ByteArray := strOfNums (List.replicate n 0)
theorem zerosE_size (n : Nat) : (zerosE n).size = n := by unfold zerosE; rw [strOfNums_size, List.length_replicate]
/-- Filled with zeros. -/
def fillE (s : ByteArray) : ByteArray := s ++ zerosE (1024 - s.size)
theorem fillE_size (s : ByteArray) (h : s.size ≤ 1024) : (fillE s).size = 1024 := by
  unfold fillE
  rw [ByteArray.size_append, zerosE_size]; omega
theorem fill_eq (s : ByteArray) (h : s.size ≤ 1024) : label_fill.f s = some (fillE s) := by
  have hw : wrap64 (1024 - (s.size : Int)) = ((1024 - s.size : Nat) : Int) := by unfold wrap64; omega
  unfold label_fill.f fillE zerosE
  rw [hw, if_pos (by omega), Int.toNat_natCast, if_pos (by omega)]
  simp only [Option.bind_some]
  rw [if_pos (by rw [strOfNums_size, List.length_replicate]; omega)]
/-- The bytes of some runs. -/
def runsE : List S103 → ByteArray
  | [] => ⟨#[]⟩
  | r :: l => numE r.f0 ++ (numE r.f1 ++ runsE l)
theorem runsE_size (l : List S103) : (runsE l).size ≤ 20 * l.length := by
  induction l with
  | nil => exact Nat.zero_le _
  | cons r l ih =>
    have h0 := numE_size r.f0
    have h1 := numE_size r.f1
    simp only [runsE, ByteArray.size_append, List.length_cons]
    omega
/-- The bytes of a text: its length, and it. -/
def textE (x : ByteArray) : ByteArray := numE x.size ++ x
/-- The bytes of a label. -/
def bodyE (L : Lab) : ByteArray := numE L.id ++ (numE L.unit ++ (textE L.name ++ (textE L.note ++ (numE L.ext.length ++ runsE L.ext))))
/-- What a valid label is. -/
theorem valid_facts {L : Lab} {t : Int} (h : validLab L t = true) : 4 ≤ t ∧ t ≤ 128 ∧ 1 ≤ L.id ∧ L.id ≤ 1099511627776 ∧ 0 ≤ L.unit ∧ L.unit ≤ 1099511627776 ∧ L.name.size ≤ 31 ∧ L.note.size ≤ 400 ∧ 1 ≤ L.ext.length ∧ L.ext.length ≤ 16 ∧ (∀ r ∈ L.ext, 0 ≤ r.f0 ∧ r.f0 ≤ 127 ∧ 1 ≤ r.f1 ∧ r.f1 ≤ 128) := by
  unfold validLab validL at h
  simp only [Bool.and_eq_true, decide_eq_true_iff, List.all_eq_true] at h
  obtain ⟨h0, h1, h2, h3, h4, h5, h6, h7⟩ := h
  refine ⟨h0.1, h0.2, h1.1, h1.2, h2.1, h2.2, h3.1, h3.2, h4.1, h4.2, fun r hr => ?_⟩
  have hf : fine L.ext := by rw [← h5]; exact fine_joinL _
  have := hf r hr
  omega
theorem body_size {L : Lab} (h2 : L.name.size ≤ 31) (h3 : L.note.size ≤ 400) (h4 : L.ext.length ≤ 16) : (bodyE L).size ≤ 1024 := by
  have n0 := numE_size L.id
  have n1 := numE_size L.unit
  have n2 := numE_size (L.name.size : Int)
  have n3 := numE_size (L.note.size : Int)
  have n4 := numE_size (L.ext.length : Int)
  have n5 := runsE_size L.ext
  unfold bodyE textE
  simp only [ByteArray.size_append]
  omega
/-- The encoding of a label. -/
def encV (L : Lab) (t : Int) : ByteArray := if (4 ≤ t ∧ t ≤ 128) ∧ L = zeroLab then fillE ⟨#[]⟩ else if validLab L t = true then fillE (bodyE L) else ⟨#[]⟩
theorem encode_l0 (l : List S103) (hl : l.length ≤ 16) (hr : ∀ r ∈ l, 0 ≤ r.f0 ∧ r.f0 ≤ 127 ∧ 1 ≤ r.f1 ∧ r.f1 ≤ 128) : ∀ (d i : Nat) (s : ByteArray), i + d = l.length → s.size + (runsE (l.drop i)).size ≤ 1024 → Ev (fun k => label_Encode.l0 k s l (l.length : Int) (i : Int)) (fillE (s ++ runsE (l.drop i))) := by
  intro d
  induction d with
  | zero =>
    intro i s hi hs
    rw [List.drop_of_length_le (by omega)] at hs ⊢
    have hz : s ++ runsE [] = s := ba_ext (by rw [data_append]; simp [runsE])
    rw [hz]
    refine Ev.step (f := fun k => (label_fill.f s).bind fun t => some t) (fun k => by simp only [label_Encode.l0]; rw [if_neg (by omega)]) ?_
    rw [fill_eq s (by omega)]
    exact Ev.now _
  | succ d ih =>
    intro i s hi hs
    have hlt : i < l.length := by omega
    have hq := hr (rd_T103 l (i : Int)) (by rw [rd_at l i hlt]; exact List.getElem_mem hlt)
    rw [drop_at l i hlt] at hs ⊢
    obtain ⟨r, er⟩ : ∃ r, rd_T103 l (i : Int) = r := ⟨_, rfl⟩
    rw [er] at hq hs ⊢
    simp only [runsE, ByteArray.size_append] at hs ⊢
    have nxt := ih (i + 1) (s ++ numE r.f0 ++ numE r.f1) (by omega) (by simp only [ByteArray.size_append]; omega)
    rw [show s ++ (numE r.f0 ++ (numE r.f1 ++ runsE (l.drop (i + 1)))) = s ++ numE r.f0 ++ numE r.f1 ++ runsE (l.drop (i + 1)) by simp only [ba_append_assoc]]
    refine Ev.step (f := fun k => label_Encode.l0 k (s ++ numE r.f0 ++ numE r.f1) l (l.length : Int) ((i + 1 : Nat) : Int)) (fun k => ?_) nxt
    simp only [label_Encode.l0]
    rw [if_pos (by omega), if_pos (by omega), if_pos (by omega), er, u64_in r.f0 (by omega) (by omega), u64_in r.f1 (by omega) (by omega), appendNumber_eq s r.f0 (by omega) (by omega) (by omega), Option.bind_some, appendNumber_eq _ r.f1 (by omega) (by omega) (by rw [ByteArray.size_append]; omega), Option.bind_some, wrap_succ i (by omega)]
theorem tracksOK_is (t : Int) : label_tracksOK.f t = some (decide (4 ≤ t ∧ t ≤ 128)) := by
  unfold label_tracksOK.f
  by_cases h : t ≥ 4
  · rw [if_pos h]; congr 1; rw [decide_eq_decide]; omega
  · rw [if_neg h, decide_eq_false (by omega)]
theorem empty_append (x : ByteArray) : (⟨#[]⟩ : ByteArray) ++ x = x := ba_ext (by rw [data_append]; rfl)
theorem encode_some (L : Lab) (t : Int) (h : validLab L t = true) : Ev (fun k => label_Encode.j0 k t false L.id L.unit L.name L.note L.ext) (fillE (bodyE L)) := by
  obtain ⟨h0, h1, h2, h3, h4, h5, h6, h7, h8, h9, h10⟩ := valid_facts h
  have ok : okL L.ext = true := okL_mk (fun r hr => by have := h10 r hr; exact decide_eq_true (by omega)) (by omega)
  have hv : label_Valid.f L.id L.unit L.name L.note L.ext t = some true := by
    unfold label_Valid.f
    rw [if_pos ok]
    exact congrArg some h
  have bs := body_size h6 h7 h9
  have n0 := numE_size L.id
  have n1 := numE_size L.unit
  have n2 := numE_size (L.name.size : Int)
  have n3 := numE_size (L.note.size : Int)
  obtain ⟨s, hs⟩ : ∃ s, s = numE L.id ++ numE L.unit ++ textE L.name ++ textE L.note ++ numE L.ext.length := ⟨_, rfl⟩
  have hb : bodyE L = s ++ runsE L.ext := by rw [hs]; unfold bodyE; simp only [ba_append_assoc]
  rw [hb, ByteArray.size_append] at bs
  have nxt := encode_l0 L.ext h9 h10 L.ext.length 0 s (by omega) (by rw [List.drop_zero]; exact bs)
  rw [List.drop_zero, ← hb] at nxt
  refine Ev.step (f := fun k => label_Encode.l0 k s L.ext (L.ext.length : Int) ((0 : Nat) : Int)) (fun k => ?_) nxt
  simp only [label_Encode.j0]
  rw [if_neg (by simp), hv, Option.bind_some, if_pos rfl, u64_in L.id (by omega) (by omega), u64_in L.unit (by omega) (by omega), u64_in (L.ext.length : Int) (by omega) (by omega)]
  rw [appendNumber_eq _ L.id (by omega) (by omega) (Nat.zero_le _), Option.bind_some, empty_append, appendNumber_eq _ L.unit (by omega) (by omega) (by omega), Option.bind_some]
  rw [appendText_eq _ L.name (by rw [ByteArray.size_append]; omega) (by omega), Option.bind_some]
  rw [appendText_eq _ L.note (by simp only [ByteArray.size_append]; omega) (by omega), Option.bind_some]
  rw [appendNumber_eq _ (L.ext.length : Int) (by omega) (by omega) (by simp only [ByteArray.size_append]; omega), Option.bind_some, hs]
  rfl
theorem encode_ev (L : Lab) (t : Int) (ok : okL L.ext = true) : Ev (fun k => label_Encode.f k L.id L.unit L.name L.note L.ext t) (encV L t) := by
  have hv : label_Valid.f L.id L.unit L.name L.note L.ext t = some (validLab L t) := by
    unfold label_Valid.f validLab
    rw [if_pos ok]
  have tail : ∀ b : Bool, b = false → encV L t = (if validLab L t = true then fillE (bodyE L) else ⟨#[]⟩) → Ev (fun k => label_Encode.j0 k t b L.id L.unit L.name L.note L.ext) (encV L t) := by
    rintro b rfl he
    rw [he]
    by_cases h : validLab L t = true
    · rw [if_pos h]; exact encode_some L t h
    · rw [if_neg h]
      refine Ev.step (f := fun _ => some ⟨#[]⟩) (fun k => ?_) (Ev.now _)
      simp only [label_Encode.j0]
      rw [if_neg (by simp), hv, Option.bind_some, if_neg h]
  unfold label_Encode.f
  rw [tracksOK_is]
  simp only [Option.bind_some]
  by_cases ht : 4 ≤ t ∧ t ≤ 128
  · simp only [decide_eq_true ht, if_true]
    refine Ev.bind (lequal_ev L zeroLab (okL_len ok)) ?_
    by_cases hz : L = zeroLab
    · rw [decide_eq_true hz]
      have he : encV L t = fillE ⟨#[]⟩ := if_pos ⟨ht, hz⟩
      rw [he]
      refine Ev.step (f := fun _ => some (fillE ⟨#[]⟩)) (fun k => ?_) (Ev.now _)
      simp only [label_Encode.j0, if_true]
      rw [fill_eq _ (Nat.zero_le _), Option.bind_some]
    · exact tail _ (decide_eq_false hz) (if_neg (fun h => hz h.2))
  · simp only [decide_eq_false ht, Bool.false_eq_true, if_false]
    exact tail false rfl (if_neg (fun h => ht h.1))
end Go.Proofs.Ytegefemkmdlmaaa.P
