/- How the laws' arguments are opened: slices of structs of chapter 1. -/
import Derived.Deep.Slices
import Derived.Deep.Fields
import Derived.ChangeSame
import Derived.ChangeArms
import Derived.Lib.SmallJoins
import Derived.Test.YtegefemkmdlmaaaF0
namespace Go.Proofs.Ytegefemkmdlmaaa.P
open Go.ChangeShapes Go.WideShapes Go.Deep
open Go.Joins Go.RowKit
open Go.Proofs.YtegefemkmdlmaaaW.PrintWords Go.Proofs.YtegefemkmdlmaaaW.PrintLast Go.Proofs.YtegefemkmdlmaaaW.PrintMore
section
variable {H : Type} {enc : TypeId × Value → H} {P : Program} {w : World} {base : Nat} {spare : Nat → Bool} {held : Bool}
theorem open_slice_fields {t e : TypeId} {fs : Array Field} {fuel : Nat} {cs : List Value} {x : DataW H × List MemPlace} (ht : P.underlying t = some (.slice e)) (he : P.underlying e = some (.struct fs))
    (hone : oneCellFields P fs = true) (hC : P.cellsOf e = fs.size) (h : DataW.trod enc P w base spare held fuel t cs = some x) :
    (cs = [.slice none 0 0] ∧ x = (.nil, [])) ∨
    ∃ (a : Addr) (len cap m : Nat) (D : Nat → DataW H) (Pl : Nat → List MemPlace), cs = [.slice (some a) len cap] ∧ base ≤ a.block ∧ len ≤ cap ∧ cap ≤ maxLen ∧ m = (if spare a.block then cap else len) ∧
      x = (.slice ((List.range len).map D) ((List.range (m - len)).map fun j => D (len + j)), MemPlace.row a (m * fs.size) ++ (List.range m).flatMap Pl) ∧
      ∀ i, i < m → ∃ (ys : List (DataW H × List MemPlace)) (n : Nat), D i = .agg (ys.map (·.1)) ∧ Pl i = ys.flatMap (·.2) ∧ ys.length = fs.size ∧
        ∀ (j : Nat) (f : Field), fs[j]? = some f → ∃ (v : Value) (y : DataW H × List MemPlace), w.cell? (a.add (i * fs.size + j)) = some v ∧ ys[j]? = some y ∧ DataW.trod enc P w base spare held n f.type [v] = some y := by
  rcases open_slice ht h with h0 | ⟨a, len, cap, m, n, D, Pl, hcs, hb, hl, hm, hmm, hx, hi⟩
  · exact .inl h0
  · refine .inr ⟨a, len, cap, m, D, Pl, hcs, hb, hl, hm, hmm, by rw [hC] at hx; exact hx, fun i him => ?_⟩
    obtain ⟨cs', hc, ht'⟩ := hi i him
    rw [hC] at hc
    obtain ⟨ys, n', hn', hy, hlen, hyl, hf⟩ := DataW.trod_struct he ht'
    obtain ⟨_, hcl, hat⟩ := World.cells?_some hc
    simp only [Prod.mk.injEq] at hy
    refine ⟨ys, n', hy.1, hy.2, hyl, fun j f hj => ?_⟩
    obtain ⟨ho, hk⟩ := hone_of hone j f hj
    have hjl : j < fs.size := (Array.getElem?_eq_some_iff.1 hj).1
    have hcell := hat j hjl
    have hv : cs'[j]? = some (cs'[j]'(by omega)) := List.getElem?_eq_getElem (by omega)
    have h1 := hf j f hj
    rw [ho, hk] at h1
    have hone' : (cs'.drop j).take 1 = [cs'[j]'(by omega)] := by
      rw [List.drop_eq_getElem_cons (by omega)]
      rfl
    rw [hone'] at h1
    have hys : ys[j]? = some (ys[j]'(by omega)) := List.getElem?_eq_getElem (by omega)
    refine ⟨_, _, ?_, hys, h1.trans hys⟩
    rw [← Go.Deep.add_add, hcell, hv]
end
section
variable {H : Type} {enc : TypeId × Value → H} {P : Program} {w : World} {base : Nat} {spare : Nat → Bool} {held : Bool}
theorem open_agg5 {r : Reach} {b0 : Nat} {t : TypeId} {f0 f1 f2 f3 f4 : Field} {v : Value} {d : DataW H} {p : List MemPlace} (hs : P.underlying t = some (.struct #[f0, f1, f2, f3, f4])) (hone : oneCellFields P #[f0, f1, f2, f3, f4] = true) (hC : P.cellsOf t = 5)
    (hv : Value.okWide P w r b0 t v) (h : DataW.Trod enc P w base spare held t v d p) :
    ∃ (v0 v1 v2 v3 v4 : Value) (y0 y1 y2 y3 y4 : DataW H × List MemPlace) (n : Nat), v = .agg #[v0, v1, v2, v3, v4] ∧ d = .agg [y0.1, y1.1, y2.1, y3.1, y4.1] ∧ p = y0.2 ++ (y1.2 ++ (y2.2 ++ (y3.2 ++ y4.2))) ∧
      DataW.trod enc P w base spare held n f0.type [v0] = some y0 ∧ DataW.trod enc P w base spare held n f1.type [v1] = some y1 ∧ DataW.trod enc P w base spare held n f2.type [v2] = some y2 ∧ DataW.trod enc P w base spare held n f3.type [v3] = some y3 ∧ DataW.trod enc P w base spare held n f4.type [v4] = some y4 := by
  obtain ⟨cs, rfl, hsz⟩ := okWide_struct hs hv
  obtain ⟨l⟩ := cs
  match l, hsz.trans hC with
  | [c0, c1, c2, c3, c4], _ =>
    obtain ⟨fuel, hf⟩ := h
    obtain ⟨xs, n, _, hx, _, hlen, hg⟩ := DataW.trod_struct hs hf
    obtain ⟨o0, k0⟩ := hone_of hone 0 f0 rfl
    obtain ⟨o1, k1⟩ := hone_of hone 1 f1 rfl
    obtain ⟨o2, k2⟩ := hone_of hone 2 f2 rfl
    obtain ⟨o3, k3⟩ := hone_of hone 3 f3 rfl
    obtain ⟨o4, k4⟩ := hone_of hone 4 f4 rfl
    match xs, hlen with
    | [y0, y1, y2, y3, y4], _ =>
      simp only [Prod.mk.injEq] at hx
      exact ⟨c0, c1, c2, c3, c4, y0, y1, y2, y3, y4, n, rfl, by simpa using hx.1, by simpa using hx.2, by simpa [Value.cells, o0, k0] using hg 0 f0 rfl, by simpa [Value.cells, o1, k1] using hg 1 f1 rfl, by simpa [Value.cells, o2, k2] using hg 2 f2 rfl, by simpa [Value.cells, o3, k3] using hg 3 f3 rfl, by simpa [Value.cells, o4, k4] using hg 4 f4 rfl⟩

end
theorem list_of {α : Type} {P : Nat → α → Prop} (n : Nat) (h : ∀ i, i < n → ∃ r, P i r) : ∃ l : List α, l.length = n ∧ ∀ i r, l[i]? = some r → P i r := by
  induction n with
  | zero => exact ⟨[], rfl, fun i r hr => by simp at hr⟩
  | succ n ih =>
    obtain ⟨l, hl, hp⟩ := ih (fun i hi => h i (by omega))
    obtain ⟨r, hr⟩ := h n (by omega)
    refine ⟨l ++ [r], by simp [hl], fun i q hq => ?_⟩
    by_cases hi : i < n
    · rw [List.getElem?_append_left (by omega)] at hq
      exact hp i q hq
    · have hlt : i < (l ++ [r]).length := (List.getElem?_eq_some_iff.1 hq).1
      obtain rfl : i = n := by simp at hlt; omega
      rw [List.getElem?_append_right (by omega), hl] at hq
      simp at hq
      rw [← hq]; exact hr
section
variable {H : Type} {enc : TypeId × Value → H} {w : World} {base b0 : Nat} {spare : Nat → Bool} {held : Bool} {r0 : Reach}
/-- An operation's numbers are of their kinds. -/
def okO (o : S71) : Prop := 0 ≤ o.f0 ∧ o.f0 ≤ 255 ∧ -9223372036854775808 ≤ o.f1 ∧ o.f1 ≤ 9223372036854775807
set_option maxRecDepth 100000 in
theorem open_ops {v : Value} {d : DataW H} {p : List MemPlace} (hv : Value.okWide Try.prog w r0 b0 67 v) (h : DataW.Trod enc Try.prog w base spare held 67 v d p) :
    ∃ (A : Option Addr) (cap : Nat) (l : List S71), v = .slice A l.length cap ∧ Kd.C k71 w A l.length l ∧ l.length ≤ cap ∧ (∀ r ∈ l, okO r) := by
  obtain ⟨A, len, cap, rfl⟩ := okWide_slice Try.underlying67 hv
  obtain ⟨fuel, hf⟩ := h
  rcases open_slice_fields Try.underlying67 Try.underlying71 (by kernel_rfl) (by kernel_rfl) hf with ⟨hcs, _⟩ | ⟨a, l', c', m, D, Pl, hcs, _, hl, hm, hmm, _, hel⟩
  · simp only [Value.cells, List.cons.injEq, Value.slice.injEq, and_true] at hcs
    obtain ⟨rfl, rfl, rfl⟩ := hcs
    exact ⟨none, 0, [], rfl, ⟨rfl, by simp, fun h => by simp at h⟩, by simp, fun r hr => by cases hr⟩
  · simp only [Value.cells, List.cons.injEq, Value.slice.injEq, and_true] at hcs
    obtain ⟨rfl, rfl, rfl⟩ := hcs
    have hlm : len ≤ m := by rw [hmm]; split <;> omega
    have key : ∀ i, i < len → ∃ r : S71, okO r ∧ w.cell? (a.add (i * 2 + 0)) = some (.int .u8 r.f0) ∧ w.cell? (a.add (i * 2 + 1)) = some (.int .i64 r.f1) := by
      intro i hi
      obtain ⟨ys, n, _, _, _, hf⟩ := hel i (by omega)
      obtain ⟨v0, y0, c0, _, t0⟩ := hf 0 _ rfl
      obtain ⟨v1, y1, c1, _, t1⟩ := hf 1 _ rfl
      obtain ⟨x0, e0, _, w0⟩ := DataW.trod_int Try.underlying5 t0
      obtain ⟨x1, e1, _, w1⟩ := DataW.trod_int Try.underlying3 t1
      simp only [List.cons.injEq, and_true] at e0 e1
      subst e0 e1
      have h0 := bounds_u8 w0
      have h1 := bounds_i64 w1
      exact ⟨⟨x0, x1⟩, ⟨by simp only []; omega, by simp only []; omega, by simp only []; omega, by simp only []; omega⟩, c0, c1⟩
    obtain ⟨l, hll, hp⟩ := list_of len key
    have hmx : maxLen ≤ 9223372036854775807 := by decide
    refine ⟨_, _, l, by rw [hll], ⟨rfl, by omega, fun _ => ⟨a, rfl, fun j p hj => ?_⟩⟩, by omega, fun r hr => ?_⟩
    · obtain ⟨_, c0, c1⟩ := hp j p hj
      refine ⟨[.int .u8 p.f0, .int .i64 p.f1], rfl, k71_mk _ _, fun i u hu => ?_⟩
      match i, hu with
      | 0, hu => simp only [List.getElem?_cons_zero, Option.some.injEq] at hu; subst hu; exact c0
      | 1, hu => simp only [List.getElem?_cons_succ, List.getElem?_cons_zero, Option.some.injEq] at hu; subst hu; exact c1
    · obtain ⟨j, hj, rfl⟩ := List.getElem_of_mem hr
      exact (hp j _ (List.getElem?_eq_getElem hj)).1
/-- A value's numbers are of their kinds, and its text is no longer than any slice. -/
def okV (o : S91) : Prop := 0 ≤ o.f0 ∧ o.f0 ≤ 255 ∧ 0 ≤ o.f1 ∧ o.f1 < 18446744073709551616 ∧ -9223372036854775808 ≤ o.f2 ∧ o.f2 ≤ 9223372036854775807
set_option maxRecDepth 100000 in
theorem open_vals {v : Value} {d : DataW H} {p : List MemPlace} (hv : Value.okWide Try.prog w r0 b0 88 v) (h : DataW.Trod enc Try.prog w base spare held 88 v d p) :
    ∃ (A : Option Addr) (cap : Nat) (l : List S91), v = .slice A l.length cap ∧ Kd.C k91 w A l.length l ∧ l.length ≤ cap ∧ (∀ r ∈ l, okV r) := by
  obtain ⟨A, len, cap, rfl⟩ := okWide_slice Try.underlying88 hv
  obtain ⟨fuel, hf⟩ := h
  rcases open_slice_fields Try.underlying88 Try.underlying91 (by kernel_rfl) (by kernel_rfl) hf with ⟨hcs, _⟩ | ⟨a, l', c', m, D, Pl, hcs, _, hl, hm, hmm, _, hel⟩
  · simp only [Value.cells, List.cons.injEq, Value.slice.injEq, and_true] at hcs
    obtain ⟨rfl, rfl, rfl⟩ := hcs
    exact ⟨none, 0, [], rfl, ⟨rfl, by simp, fun h => by simp at h⟩, by simp, fun r hr => by cases hr⟩
  · simp only [Value.cells, List.cons.injEq, Value.slice.injEq, and_true] at hcs
    obtain ⟨rfl, rfl, rfl⟩ := hcs
    have hlm : len ≤ m := by rw [hmm]; split <;> omega
    have key : ∀ i, i < len → ∃ r : S91, okV r ∧ w.cell? (a.add (i * 5 + 0)) = some (.int .u8 r.f0) ∧ w.cell? (a.add (i * 5 + 1)) = some (.int .u64 r.f1) ∧ w.cell? (a.add (i * 5 + 2)) = some (.int .i64 r.f2) ∧ w.cell? (a.add (i * 5 + 3)) = some (.bool r.f3) ∧ w.cell? (a.add (i * 5 + 4)) = some (.string r.f4) := by
      intro i hi
      obtain ⟨ys, n, _, _, _, hf⟩ := hel i (by omega)
      obtain ⟨v0, y0, c0, _, t0⟩ := hf 0 _ rfl
      obtain ⟨v1, y1, c1, _, t1⟩ := hf 1 _ rfl
      obtain ⟨v2, y2, c2, _, t2⟩ := hf 2 _ rfl
      obtain ⟨v3, y3, c3, _, t3⟩ := hf 3 _ rfl
      obtain ⟨v4, y4, c4, _, t4⟩ := hf 4 _ rfl
      obtain ⟨x0, e0, _, w0⟩ := DataW.trod_int Try.underlying5 t0
      obtain ⟨x1, e1, _, w1⟩ := DataW.trod_int Try.underlying22 t1
      obtain ⟨x2, e2, _, w2⟩ := DataW.trod_int Try.underlying3 t2
      obtain ⟨x3, e3, _⟩ := DataW.trod_bool Try.underlying4 t3
      obtain ⟨x4, e4, _⟩ := DataW.trod_string Try.underlying9 t4
      simp only [List.cons.injEq, and_true] at e0 e1 e2 e3 e4
      subst e0 e1 e2 e3 e4
      have h0 := bounds_u8 w0
      have h1 := bounds_u64 w1
      have h2 := bounds_i64 w2
      exact ⟨⟨x0, x1, x2, x3, x4⟩, ⟨by simp only []; omega, by simp only []; omega, by simp only []; omega, by simp only []; omega, by simp only []; omega, by simp only []; omega⟩, c0, c1, c2, c3, c4⟩
    obtain ⟨l, hll, hp⟩ := list_of len key
    have hmx : maxLen ≤ 9223372036854775807 := by decide
    refine ⟨_, _, l, by rw [hll], ⟨rfl, by omega, fun _ => ⟨a, rfl, fun j p hj => ?_⟩⟩, by omega, fun r hr => ?_⟩
    · obtain ⟨_, c0, c1, c2, c3, c4⟩ := hp j p hj
      refine ⟨[.int .u8 p.f0, .int .u64 p.f1, .int .i64 p.f2, .bool p.f3, .string p.f4], rfl, k91_mk _ _, fun i u hu => ?_⟩
      match i, hu with
      | 0, hu => simp only [List.getElem?_cons_zero, Option.some.injEq] at hu; subst hu; exact c0
      | 1, hu => simp only [List.getElem?_cons_succ, List.getElem?_cons_zero, Option.some.injEq] at hu; subst hu; exact c1
      | 2, hu => simp only [List.getElem?_cons_succ, List.getElem?_cons_zero, Option.some.injEq] at hu; subst hu; exact c2
      | 3, hu => simp only [List.getElem?_cons_succ, List.getElem?_cons_zero, Option.some.injEq] at hu; subst hu; exact c3
      | 4, hu => simp only [List.getElem?_cons_succ, List.getElem?_cons_zero, Option.some.injEq] at hu; subst hu; exact c4
    · obtain ⟨j, hj, rfl⟩ := List.getElem_of_mem hr
      exact (hp j _ (List.getElem?_eq_getElem hj)).1
end
end Go.Proofs.Ytegefemkmdlmaaa.P
