/- How the laws' arguments are opened: slices of structs and labels, as lists. -/
import Derived.Deep.Slices
import Derived.Deep.Fields
import Derived.ChangeSame
import Derived.ChangeArms
import Derived.Lib.SmallJoins
import Derived.Test.YtegefemkmdlmaaaOpenW
import Derived.Test.YtegefemkmdlmaaaGb
namespace Go.Proofs.Ytegefemkmdlmaaa.P
open Go.ChangeShapes Go.WideShapes Go.Deep
open Go.Joins Go.RowKit
open Go.Proofs.YtegefemkmdlmaaaW.PrintWords Go.Proofs.YtegefemkmdlmaaaW.PrintLast Go.Proofs.YtegefemkmdlmaaaW.PrintMore
section
variable {H : Type} {enc : TypeId × Value → H} {w : World} {base b0 : Nat} {spare : Nat → Bool} {held : Bool} {r0 : Reach}
theorem wf_okR {x y : Int} (hx : (Lit.int .i64 x).wf = true) (hy : (Lit.int .i64 y).wf = true) : okR ⟨x, y⟩ = true := by
  have h1 := bounds_i64 hx
  have h2 := bounds_i64 hy
  exact decide_eq_true (by simp only []; omega)
theorem runs_of {fuel : Nat} {A : Option Addr} {len cap : Nat} {x : DataW H × List MemPlace} (h : DataW.trod enc Try.prog w base spare held fuel 35 [.slice A len cap] = some x) :
    ∃ l : List S103, len = l.length ∧ Kd.C k103 w A l.length l ∧ l.length ≤ cap ∧ (∀ r ∈ l, okR r = true) := by
  rcases open_slice_fields Try.underlying35 Try.underlying103 (by kernel_rfl) (by kernel_rfl) h with ⟨hcs, _⟩ | ⟨a, l', c', m, D, Pl, hcs, _, hl, hm, hmm, _, hel⟩
  · simp only [List.cons.injEq, Value.slice.injEq, and_true] at hcs
    obtain ⟨rfl, rfl, rfl⟩ := hcs
    exact ⟨[], rfl, ⟨rfl, by simp, fun h => by simp at h⟩, by simp, fun r hr => by cases hr⟩
  · simp only [List.cons.injEq, Value.slice.injEq, and_true] at hcs
    obtain ⟨rfl, rfl, rfl⟩ := hcs
    have hlm : len ≤ m := by rw [hmm]; split <;> omega
    have key : ∀ i, i < len → ∃ r : S103, okR r = true ∧ w.cell? (a.add (i * 2 + 0)) = some (.int .i64 r.f0) ∧ w.cell? (a.add (i * 2 + 1)) = some (.int .i64 r.f1) := by
      intro i hi
      obtain ⟨ys, n, _, _, _, hf⟩ := hel i (by omega)
      obtain ⟨v0, y0, c0, _, t0⟩ := hf 0 _ rfl
      obtain ⟨v1, y1, c1, _, t1⟩ := hf 1 _ rfl
      obtain ⟨x0, e0, _, w0⟩ := DataW.trod_int Try.underlying3 t0
      obtain ⟨x1, e1, _, w1⟩ := DataW.trod_int Try.underlying3 t1
      simp only [List.cons.injEq, and_true] at e0 e1
      subst e0 e1
      exact ⟨⟨x0, x1⟩, wf_okR w0 w1, c0, c1⟩
    obtain ⟨l, hll, hp⟩ := list_of len key
    have hmx : maxLen ≤ 9223372036854775807 := by decide
    refine ⟨l, hll.symm, ⟨rfl, by omega, fun _ => ⟨a, rfl, fun j p hj => ?_⟩⟩, by omega, fun r hr => ?_⟩
    · obtain ⟨_, c0, c1⟩ := hp j p hj
      refine ⟨[.int .i64 p.f0, .int .i64 p.f1], rfl, k103_mk _ _, fun i u hu => ?_⟩
      match i, hu with
      | 0, hu => simp only [List.getElem?_cons_zero, Option.some.injEq] at hu; subst hu; exact c0
      | 1, hu => simp only [List.getElem?_cons_succ, List.getElem?_cons_zero, Option.some.injEq] at hu; subst hu; exact c1
    · obtain ⟨j, hj, rfl⟩ := List.getElem_of_mem hr
      exact (hp j _ (List.getElem?_eq_getElem hj)).1
set_option maxRecDepth 100000 in
theorem open_runs {v : Value} {d : DataW H} {p : List MemPlace} (hv : Value.okWide Try.prog w r0 b0 35 v) (h : DataW.Trod enc Try.prog w base spare held 35 v d p) :
    ∃ (A : Option Addr) (cap : Nat) (l : List S103), v = .slice A l.length cap ∧ Kd.C k103 w A l.length l ∧ l.length ≤ cap ∧ (∀ r ∈ l, okR r = true) := by
  obtain ⟨A, len, cap, rfl⟩ := okWide_slice Try.underlying35 hv
  obtain ⟨fuel, hf⟩ := h
  obtain ⟨l, rfl, h1, h2, h3⟩ := runs_of (fuel := fuel) (x := (d, p)) hf
  exact ⟨A, cap, l, rfl, h1, h2, h3⟩
set_option maxRecDepth 100000 in
theorem open_label {v : Value} {d : DataW H} {p : List MemPlace} (hv : Value.okWide Try.prog w r0 b0 55 v) (h : DataW.Trod enc Try.prog w base spare held 55 v d p) :
    ∃ (x0 x1 : Int) (x2 x3 : ByteArray) (A : Option Addr) (cap : Nat) (l : List S103), v = .agg #[.int .i64 x0, .int .i64 x1, .string x2, .string x3, .slice A l.length cap] ∧ Kd.C k103 w A l.length l ∧ l.length ≤ cap ∧ (∀ r ∈ l, okR r = true) ∧
      (Lit.int .i64 x0).wf = true ∧ (Lit.int .i64 x1).wf = true ∧ x2.size ≤ maxLen ∧ x3.size ≤ maxLen := by
  obtain ⟨v0, v1, v2, v3, v4, y0, y1, y2, y3, y4, n, rfl, _, _, t0, t1, t2, t3, t4⟩ := open_agg5 Try.underlying55 (by kernel_rfl) (by kernel_rfl) hv h
  obtain ⟨x0, e0, _, w0⟩ := DataW.trod_int Try.underlying3 t0
  obtain ⟨x1, e1, _, w1⟩ := DataW.trod_int Try.underlying3 t1
  obtain ⟨x2, e2, _, w2⟩ := DataW.trod_string Try.underlying9 t2
  obtain ⟨x3, e3, _, w3⟩ := DataW.trod_string Try.underlying9 t3
  have hsl : ∃ A len cap, v4 = .slice A len cap := by
    rcases open_slice Try.underlying35 t4 with ⟨hcs, _⟩ | ⟨a, l', c', m, n', D, Pl, hcs, _⟩
    · simp only [List.cons.injEq, and_true] at hcs; exact ⟨_, _, _, hcs⟩
    · simp only [List.cons.injEq, and_true] at hcs; exact ⟨_, _, _, hcs⟩
  obtain ⟨A, len, cap, rfl⟩ := hsl
  obtain ⟨l, rfl, h1, h2, h3⟩ := runs_of t4
  simp only [List.cons.injEq, and_true] at e0 e1 e2 e3
  subst e0 e1 e2 e3
  exact ⟨x0, x1, x2, x3, A, cap, l, rfl, h1, h2, h3, w0, w1, w2, w3⟩
end
end Go.Proofs.Ytegefemkmdlmaaa.P
