/- The pure statement of WireStrict: what a read takes is the encoding of what it gives, or nothing is left. -/
import Derived.OpenShut
import Derived.Test.YtegefemkmdlmaaaF18
import Derived.Test.YtegefemkmdlmaaaGa
namespace Go.Proofs.Ytegefemkmdlmaaa.Pure
open Go.RowKit Go.Proofs.Ytegefemkmdlmaaa.P Go.Proofs.YtegefemkmdlmaaaW.PrintWords Go.Proofs.YtegefemkmdlmaaaW.PrintLast Go.Proofs.YtegefemkmdlmaaaW.PrintMore
theorem strict_fell (s o : ByteArray) (e : Int) (he : e ≠ 0) : Ev (fun k => dasdlaw01_WireStrict.j1 k s o ⟨#[]⟩ e) true := by
  refine Ev.step (f := fun k => dasdlaw01_WireStrict.j2 k s o true ⟨#[]⟩ e) (fun k => ?_) ?_
  · simp only [dasdlaw01_WireStrict.j1, end_eq, Option.bind_some, wire_Reader_Left.f]
    rw [if_neg (show ¬ (e = 0 ∧ _) from fun hh => he hh.1), if_neg he]
    rfl
  · refine Ev.step (f := fun _ => some true) (fun k => ?_) (Ev.now _)
    simp only [dasdlaw01_WireStrict.j2, if_true, wire_Reader_Rest.f, Option.bind_some, ByteArray.toList_eq]
    rfl
theorem strict_took (o t : ByteArray) (hs : (o ++ t).size ≤ 140737488351232) : Ev (fun k => dasdlaw01_WireStrict.j1 k (o ++ t) o t 0) true := by
  have h2 : Ev (fun k => dasdlaw01_WireStrict.j2 k (o ++ t) o false t 0) true := by
    refine Ev.step (f := fun _ => some true) (fun k => ?_) (Ev.now _)
    simp only [dasdlaw01_WireStrict.j2, Bool.false_eq_true, if_false, if_true, wire_Reader_Rest.f, wire_Reader_Left.f, Option.bind_some]
    rw [ByteArray.size_append] at hs
    rw [if_pos (by omega)]
    simp
  refine Ev.step (f := fun k => dasdlaw01_WireStrict.j2 k (o ++ t) o false t 0) (fun k => ?_) h2
  by_cases h : t.size = 0
  · simp [dasdlaw01_WireStrict.j1, end_eq, h]
  · simp [dasdlaw01_WireStrict.j1, end_eq, wire_Reader_Left.f, h]
    rw [show ((t.size : Int) == 0) = false from beq_eq_false_iff_ne.2 (by omega)]
theorem empty_left (x : ByteArray) : (⟨#[]⟩ : ByteArray) ++ x = x := ba_ext (by rw [data_append]; rfl)
theorem zero_size : (⟨#[]⟩ : ByteArray).size ≤ 140737488355328 := Nat.zero_le _
theorem int_some (n : Int) (h0 : -9223372036854775808 ≤ n) (h1 : n ≤ 9223372036854775807) : ∃ o, wire_AppendInt.f ⟨#[]⟩ n = some o := ⟨_, appendInt_eq _ n h0 h1 zero_size⟩
theorem text_some (x : ByteArray) (h : x.size ≤ 140737488355328) : ∃ o, wire_AppendText.f ⟨#[]⟩ x = some o := ⟨_, appendText_eq _ x zero_size h⟩
theorem strict_0 (s : ByteArray) (m : Int) (ht : Int.tmod m 4 = m % 4) (k0 : m % 4 = 0) (hs : s.size ≤ 140737488351232) : Ev (fun k => dasdlaw01_WireStrict.j0 k s m false) true := by
  rcases readN_got s with h | ⟨n, t, h, n0, n1, h2⟩
  · refine Ev.step (f := fun k => dasdlaw01_WireStrict.j1 k s (⟨#[]⟩ ++ numE 0) ⟨#[]⟩ 11) (fun k => ?_) (strict_fell _ _ _ (by decide))
    simp only [dasdlaw01_WireStrict.j0, Bool.false_eq_true, if_false, wire_NewReader.f, Option.bind_some, ht, number_eq, h]
    rw [if_pos k0, appendNumber_eq _ 0 (by decide) (by decide) zero_size, Option.bind_some]
  · refine Ev.step (f := fun k => dasdlaw01_WireStrict.j1 k s (numE n) t 0) (fun k => ?_) ?_
    · simp only [dasdlaw01_WireStrict.j0, Bool.false_eq_true, if_false, wire_NewReader.f, Option.bind_some, ht, number_eq, h]
      rw [if_pos k0, appendNumber_eq _ n n0 n1 zero_size, Option.bind_some, empty_left]
    · rw [h2] at hs ⊢; exact strict_took _ _ hs
theorem strict_1s (s : ByteArray) (m : Int) (ht : Int.tmod m 4 = m % 4) (k0 : ¬ m % 4 = 0) (k1 : m % 4 = 1) (o : ByteArray) (n e : Int) (t : ByteArray) (ho : wire_AppendInt.f ⟨#[]⟩ n = some o) (h : readI s 0 = (n, t, e)) (k : Nat) : dasdlaw01_WireStrict.j0 (k + 1) s m false = dasdlaw01_WireStrict.j1 k s o t e := by
  simp only [dasdlaw01_WireStrict.j0, Bool.false_eq_true, if_false, wire_NewReader.f, Option.bind_some, ht]
  rw [if_neg k0, if_pos k1, int_eq, h, Option.bind_some, ho, Option.bind_some]
theorem strict_1 (s : ByteArray) (m : Int) (ht : Int.tmod m 4 = m % 4) (k0 : ¬ m % 4 = 0) (k1 : m % 4 = 1) (hs : s.size ≤ 140737488351232) : Ev (fun k => dasdlaw01_WireStrict.j0 k s m false) true := by
  rcases readI_got s with h | ⟨n, t, h, n0, n1, h2⟩
  · obtain ⟨o, ho⟩ := int_some 0 (by omega) (by omega)
    exact Ev.step (f := fun k => dasdlaw01_WireStrict.j1 k s o ⟨#[]⟩ 11) (fun k => strict_1s s m ht k0 k1 o 0 11 ⟨#[]⟩ ho h k) (strict_fell _ _ _ (by decide))
  · have ho : wire_AppendInt.f ⟨#[]⟩ n = some (numE (zig n)) := (appendInt_eq _ n n0 n1 zero_size).trans (by rw [empty_left])
    refine Ev.step (f := fun k => dasdlaw01_WireStrict.j1 k s (numE (zig n)) t 0) (fun k => strict_1s s m ht k0 k1 _ n 0 t ho h k) ?_
    clear ho h
    subst h2
    exact strict_took _ _ hs
theorem strict_2 (s : ByteArray) (m : Int) (ht : Int.tmod m 4 = m % 4) (k0 : ¬ m % 4 = 0) (k1 : ¬ m % 4 = 1) (k2 : m % 4 = 2) (hs : s.size ≤ 140737488351232) : Ev (fun k => dasdlaw01_WireStrict.j0 k s m false) true := by
  rcases readB_got s with h | ⟨n, t, h, h2⟩
  · refine Ev.step (f := fun k => dasdlaw01_WireStrict.j1 k s (⟨#[]⟩ ++ boolE false) ⟨#[]⟩ 11) (fun k => ?_) (strict_fell _ _ _ (by decide))
    simp only [dasdlaw01_WireStrict.j0, Bool.false_eq_true, if_false, wire_NewReader.f, Option.bind_some, ht, bool_eq, h]
    rw [if_neg k0, if_neg k1, if_pos k2, appendBool_eq _ _ zero_size, Option.bind_some]
  · refine Ev.step (f := fun k => dasdlaw01_WireStrict.j1 k s (boolE n) t 0) (fun k => ?_) ?_
    · simp only [dasdlaw01_WireStrict.j0, Bool.false_eq_true, if_false, wire_NewReader.f, Option.bind_some, ht, bool_eq, h]
      rw [if_neg k0, if_neg k1, if_pos k2, appendBool_eq _ _ zero_size, Option.bind_some, empty_left]
    · rw [h2] at hs ⊢; exact strict_took _ _ hs
theorem strict_3s (s : ByteArray) (m : Int) (ht : Int.tmod m 4 = m % 4) (k0 : ¬ m % 4 = 0) (k1 : ¬ m % 4 = 1) (k2 : ¬ m % 4 = 2) (o x t : ByteArray) (e : Int) (ho : wire_AppendText.f ⟨#[]⟩ x = some o) (h : readT s 0 300 = (x, t, e)) (k : Nat) : dasdlaw01_WireStrict.j0 (k + 1) s m false = dasdlaw01_WireStrict.j1 k s o t e := by
  simp only [dasdlaw01_WireStrict.j0, Bool.false_eq_true, if_false, wire_NewReader.f, Option.bind_some, ht]
  rw [if_neg k0, if_neg k1, if_neg k2, text_eq _ _ 300 (by omega), h, Option.bind_some, ho, Option.bind_some]
theorem strict_3 (s : ByteArray) (m : Int) (ht : Int.tmod m 4 = m % 4) (k0 : ¬ m % 4 = 0) (k1 : ¬ m % 4 = 1) (k2 : ¬ m % 4 = 2) (hs : s.size ≤ 140737488351232) : Ev (fun k => dasdlaw01_WireStrict.j0 k s m false) true := by
  rcases readT_got s 300 with ⟨e, h, he⟩ | ⟨x, t, h, hx, h2⟩
  · obtain ⟨o, ho⟩ := text_some ⟨#[]⟩ zero_size
    exact Ev.step (f := fun k => dasdlaw01_WireStrict.j1 k s o ⟨#[]⟩ e) (fun k => strict_3s s m ht k0 k1 k2 o _ _ e ho h k) (strict_fell _ _ _ he)
  · have ho : wire_AppendText.f ⟨#[]⟩ x = some (numE x.size ++ x) := (appendText_eq _ x zero_size (by omega)).trans (by rw [empty_left])
    refine Ev.step (f := fun k => dasdlaw01_WireStrict.j1 k s (numE x.size ++ x) t 0) (fun k => strict_3s s m ht k0 k1 k2 _ x t 0 ho h k) ?_
    clear ho h
    subst h2
    exact strict_took _ _ hs
theorem strict_j0 (s : ByteArray) (m : Int) (b : Bool) (h0 : 0 ≤ m) (hs : s.size ≤ 140737488351232) : Ev (fun k => dasdlaw01_WireStrict.j0 k s m b) true := by
  cases b with
  | true =>
    refine Ev.step (f := fun k => (dasdlaw01_awake.f k).bind fun t => some t) (fun k => by simp only [dasdlaw01_WireStrict.j0, if_true]) ?_
    exact Ev.bind awake1 (Ev.now _)
  | false =>
    have ht := Int.tmod_eq_emod_of_nonneg (b := 4) h0
    by_cases k0 : m % 4 = 0
    · exact strict_0 s m ht k0 hs
    · by_cases k1 : m % 4 = 1
      · exact strict_1 s m ht k0 k1 hs
      · by_cases k2 : m % 4 = 2
        · exact strict_2 s m ht k0 k1 k2 hs
        · exact strict_3 s m ht k0 k1 k2 hs
theorem WireStrict : dasdlaw01_WireStrict.Pure := by
  intro s m hs hm
  have hb := bounds_u8 hm
  apply Ev.rounds
  unfold dasdlaw01_WireStrict.f
  refine Ev.bind awake1 ?_
  simp only [if_true]
  exact strict_j0 s m _ (by omega) hs
end Go.Proofs.Ytegefemkmdlmaaa.Pure
