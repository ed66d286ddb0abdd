/- Contracts of functions of the program and of the reference. -/
import Derived.Test.YtdpfgjljehajbaaGreatDoorLaw
import Derived.Test.YtdpfgjljehajbaaGreatDoorKD
set_option linter.unusedVariables false
set_option linter.unusedSimpArgs false
/-! HV -/
set_option maxRecDepth 100000
set_option linter.unusedVariables false
set_option linter.unusedSimpArgs false
namespace Go.Ev
open Go.ChangeShapes Go.WideShapes Go.ChangeAt Go.RowKit
section
variable {P : Program} {H : Type} {enc : TypeId × Value → H} {w : World} {G : Gh} {T : TypeId → Prop}
end
theorem bounds_i64 {z : Int} (w : (Lit.int .i64 z).wf = true) : i64 z := by
  have := w
  simp [Lit.wf, IntKind.has, IntKind.min, IntKind.max, IntKind.signed, IntKind.bits] at this
  exact ⟨by omega, by omega⟩
theorem bounds_u8 {z : Int} (w : (Lit.int .u8 z).wf = true) : 0 ≤ z ∧ z ≤ 255 := by
  have := w
  simp [Lit.wf, IntKind.has, IntKind.min, IntKind.max, IntKind.signed, IntKind.bits] at this
  omega
theorem elems_of {α : Type} {enc : α → List AV} {ok : α → Prop} : ∀ {ls : List (List AV)}, (∀ x ∈ ls, ∃ t, x = enc t ∧ ok t) → ∃ ts : List α, ls.flatten = encL enc ts ∧ ts.length = ls.length ∧ ∀ x ∈ ts, ok x
  | [], _ => ⟨[], rfl, rfl, fun x hx => by simp at hx⟩
  | x :: ls, h => by
    obtain ⟨t, rfl, h1⟩ := h x List.mem_cons_self
    obtain ⟨ts, h2, h3, h4⟩ := elems_of (ls := ls) (fun y hy => h y (List.mem_cons_of_mem _ hy))
    refine ⟨t :: ts, by rw [List.flatten_cons, h2]; rfl, by simp [h3], fun y hy => ?_⟩
    rcases List.mem_cons.1 hy with rfl | hy
    · exact h1
    · exact h4 y hy
end Go.Ev
namespace Go.Proofs
open Go Go.Ev Go.ChangeShapes Go.WideShapes Go.ChangeAt Go.RowKit
theorem hasMst {n : Nat} {l : List AV} (h : HasT Tryz.prog n 58 l) : ∃ x : Mst, l = encM x ∧ okM x := by
  obtain ⟨m, _, a1, b1, rfl, _, h1, a2, b2, rfl, _, h2, rfl⟩ := has_struct Tryz.underlying58 h
  obtain ⟨z1, rfl, w1⟩ := has_int Tryz.underlying3 h1
  obtain ⟨z2, rfl, w2⟩ := has_int Tryz.underlying3 h2
  exact ⟨⟨z1, z2⟩, rfl, bounds_i64 w1, bounds_i64 w2⟩
theorem hasDcr {n : Nat} {l : List AV} (h : HasT Tryz.prog n 46 l) : ∃ x : Dcr, l = encD x ∧ okD x := by
  obtain ⟨m, _, a1, b1, rfl, _, h1, a2, b2, rfl, _, h2, a3, b3, rfl, _, h3, a4, b4, rfl, _, h4, a5, b5, rfl, _, h5, a6, b6, rfl, _, h6, a7, b7, rfl, _, h7, a8, b8, rfl, _, h8, a9, b9, rfl, _, h9, rfl⟩ := has_struct Tryz.underlying46 h
  obtain ⟨z1, rfl, w1⟩ := has_int Tryz.underlying3 h1
  obtain ⟨z2, rfl, w2⟩ := has_int Tryz.underlying5 h2
  obtain ⟨z3, rfl, w3⟩ := has_int Tryz.underlying3 h3
  obtain ⟨z4, rfl, w4⟩ := has_int Tryz.underlying3 h4
  obtain ⟨z5, rfl, w5⟩ := has_int Tryz.underlying3 h5
  obtain ⟨z6, rfl, w6⟩ := has_int Tryz.underlying3 h6
  obtain ⟨z7, rfl, w7⟩ := has_int Tryz.underlying3 h7
  obtain ⟨z8, rfl, w8⟩ := has_int Tryz.underlying3 h8
  obtain ⟨z9, rfl, w9⟩ := has_int Tryz.underlying3 h9
  exact ⟨⟨z1, z2, z3, z4, z5, z6, z7, z8, z9⟩, rfl, bounds_i64 w1, bounds_u8 w2, bounds_i64 w3, bounds_i64 w4, bounds_i64 w5, bounds_i64 w6, bounds_i64 w7, bounds_i64 w8, bounds_i64 w9⟩
theorem hasL {α : Type} {enc : α → List AV} {ok : α → Prop} {t e : TypeId} (hu : Tryz.prog.underlying t = some (.slice e)) (he : ∀ (n : Nat) (l : List AV), HasT Tryz.prog n e l → ∃ x : α, l = enc x ∧ ok x) {n : Nat} {l : List AV} (h : HasT Tryz.prog n t l) :
    ∃ xs : List α, l = [.vs (encL enc xs) xs.length .none] ∧ xs.length ≤ 9223372036854775807 ∧ ∀ x ∈ xs, ok x := by
  obtain ⟨j, hj, ls, rfl, hl, h6⟩ := has_slice hu h
  obtain ⟨ts, e1, e2, e3⟩ := elems_of (ls := ls) (fun x hx => he j x (h6 x hx))
  rw [maxLen_eq] at hl
  exact ⟨ts, by rw [e1, e2], by omega, e3⟩
/-- Honours. -/
theorem hasHon {n : Nat} {l : List AV} (h : HasT Tryz.prog n 25 l) : ∃ (ms : List Mst) (ds : List Dcr), l = [.vs (encL encM ms) ms.length .none, .vs (encL encD ds) ds.length .none] ∧ ms.length ≤ 9223372036854775807 ∧ ds.length ≤ 9223372036854775807 ∧ (∀ x ∈ ms, okM x) ∧ ∀ x ∈ ds, okD x := by
  obtain ⟨m, _, a1, b1, rfl, _, h1, a2, b2, rfl, _, h2, rfl⟩ := has_struct Tryz.underlying25 h
  obtain ⟨ms, rfl, q1, q2⟩ := hasL Tryz.underlying22 (fun n l h => hasMst h) h1
  obtain ⟨ds, rfl, q3, q4⟩ := hasL Tryz.underlying23 (fun n l h => hasDcr h) h2
  exact ⟨ms, ds, rfl, q1, q3, q2, q4⟩
end Go.Proofs
