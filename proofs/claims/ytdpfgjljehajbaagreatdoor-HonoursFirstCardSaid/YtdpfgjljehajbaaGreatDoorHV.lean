/- Contracts of functions of the program and of the reference. -/
import Derived.Test.YtdpfgjljehajbaaGreatDoorLaw
import Derived.Test.YtdpfgjljehajbaaGreatDoorKD
set_option linter.unusedVariables false
set_option linter.unusedSimpArgs false
/-! HV -/
set_option maxRecDepth 100000
set_option linter.unusedVariables false
set_option linter.unusedSimpArgs false
namespace Go.Ev
open Go.ChangeShapes Go.WideShapes Go.ChangeAt Go.RowKit
section
variable {P : Program} {H : Type} {enc : TypeId × Value → H} {w : World} {G : Gh} {T : TypeId → Prop}
/-- A value of one cell that came in. -/
theorem open_cell (K : Kids P T) (hK : OldK G w) (hseq : ∀ t, T t → seqT P t = true) {sp : Nat → Bool} {hd : Bool} {t : TypeId} (hT : T t) {v : Value} {d : DataW H} {ps : List MemPlace} (hv : v.cells = #[v]) (h : DataW.Trod enc P w 0 sp hd t v d ps) :
    ∃ n a, HasT P n t [a] ∧ VR G w a v := by
  obtain ⟨n, hn⟩ := h
  obtain ⟨l, h1, h2⟩ := has_of_trod K hK hseq n t _ _ hT hn
  rw [hv] at h2
  match l, h1, h2 with
  | [], h1, h2 => have := h2.1; simp at this
  | [a], h1, h2 =>
    obtain ⟨u, h3, h4⟩ := h2.2 0 a rfl
    simp at h3
    subst h3
    exact ⟨n, a, h1, h4⟩
  | _ :: _ :: _, h1, h2 => have := h2.1; simp at this
theorem slice_cells {r : Reach} {b0 : Nat} {t e : TypeId} {v : Value} (hu : P.underlying t = some (.slice e)) (hval : Value.okWide P w r b0 t v) : v.cells = #[v] := by
  unfold Value.okWide at hval
  rw [hu] at hval
  simp only at hval
  unfold Cell.okWide at hval
  rw [hu] at hval
  unfold Cell.ok at hval
  rw [hu] at hval
  cases v <;> first | rfl | (simp at hval; done)
end
theorem bounds_i64 {z : Int} (w : (Lit.int .i64 z).wf = true) : i64 z := by
  have := w
  simp [Lit.wf, IntKind.has, IntKind.min, IntKind.max, IntKind.signed, IntKind.bits] at this
  exact ⟨by omega, by omega⟩
theorem elems_of {α : Type} {enc : α → List AV} {ok : α → Prop} : ∀ {ls : List (List AV)}, (∀ x ∈ ls, ∃ t, x = enc t ∧ ok t) → ∃ ts : List α, ls.flatten = encL enc ts ∧ ts.length = ls.length ∧ ∀ x ∈ ts, ok x
  | [], _ => ⟨[], rfl, rfl, fun x hx => by simp at hx⟩
  | x :: ls, h => by
    obtain ⟨t, rfl, h1⟩ := h x List.mem_cons_self
    obtain ⟨ts, h2, h3, h4⟩ := elems_of (ls := ls) (fun y hy => h y (List.mem_cons_of_mem _ hy))
    refine ⟨t :: ts, by rw [List.flatten_cons, h2]; rfl, by simp [h3], fun y hy => ?_⟩
    rcases List.mem_cons.1 hy with rfl | hy
    · exact h1
    · exact h4 y hy
end Go.Ev
namespace Go.Proofs
open Go Go.Ev Go.ChangeShapes Go.WideShapes Go.ChangeAt Go.RowKit
theorem hasL {α : Type} {enc : α → List AV} {ok : α → Prop} {t e : TypeId} (hu : Tryz.prog.underlying t = some (.slice e)) (he : ∀ (n : Nat) (l : List AV), HasT Tryz.prog n e l → ∃ x : α, l = enc x ∧ ok x) {n : Nat} {l : List AV} (h : HasT Tryz.prog n t l) :
    ∃ xs : List α, l = [.vs (encL enc xs) xs.length .none] ∧ xs.length ≤ 9223372036854775807 ∧ ∀ x ∈ xs, ok x := by
  obtain ⟨j, hj, ls, rfl, hl, h6⟩ := has_slice hu h
  obtain ⟨ts, e1, e2, e3⟩ := elems_of (ls := ls) (fun x hx => he j x (h6 x hx))
  rw [maxLen_eq] at hl
  exact ⟨ts, by rw [e1, e2], by omega, e3⟩
theorem hasIntE (n : Nat) (l : List AV) (h : HasT Tryz.prog n 3 l) : ∃ x : Int, l = encNum x ∧ i64 x := by
  obtain ⟨z, rfl, w⟩ := has_int Tryz.underlying3 h
  exact ⟨z, rfl, bounds_i64 w⟩
theorem has_array {n m : Nat} {t e : TypeId} {l : List AV} (hu : Tryz.prog.underlying t = some (.array m e)) (h : HasT Tryz.prog n t l) : ∃ j, j < n ∧ ∃ ls : List (List AV), l = ls.flatten ∧ ls.length = m ∧ ∀ x ∈ ls, HasT Tryz.prog j e x := by
  cases n with
  | zero => exact h.elim
  | succ n =>
    simp only [HasT, hu] at h
    obtain ⟨ls, h1, h2, h3⟩ := h
    exact ⟨n, Nat.lt_succ_self n, ls, h1, h2, fun x hx => (h3 x hx).2⟩
theorem hasHrs {n : Nat} {l : List AV} (h : HasT Tryz.prog n 81 l) : ∃ x : Hrs, l = [I x.op, I x.cl, Bo x.d0, Bo x.d1, Bo x.d2, Bo x.d3, Bo x.d4, Bo x.d5, Bo x.d6] ∧ i64 x.op := by
  obtain ⟨m, _, a1, b1, rfl, _, h1, a2, b2, rfl, _, h2, a3, b3, rfl, _, h3, rfl⟩ := has_struct Tryz.underlying81 h
  obtain ⟨z1, rfl, w1⟩ := has_int Tryz.underlying3 h1
  obtain ⟨z2, rfl, w2⟩ := has_int Tryz.underlying3 h2
  obtain ⟨j, _, ls, rfl, hl, h4⟩ := has_array Tryz.underlying79 h3
  obtain ⟨ts, e1, e2, _⟩ := elems_of (enc := fun b : Bool => [Bo b]) (ok := fun _ => True) (ls := ls) (fun x hx => by
    obtain ⟨b, hb⟩ := has_bool Tryz.underlying4 (h4 x hx)
    exact ⟨b, hb, trivial⟩)
  rw [hl] at e2
  rw [e1]
  rcases ts with _ | ⟨d0, _ | ⟨d1, _ | ⟨d2, _ | ⟨d3, _ | ⟨d4, _ | ⟨d5, _ | ⟨d6, _ | ⟨d7, ts⟩⟩⟩⟩⟩⟩⟩⟩ <;> simp at e2
  exact ⟨⟨z1, z2, d0, d1, d2, d3, d4, d5, d6⟩, rfl, bounds_i64 w1⟩
theorem hasSal {n : Nat} {l : List AV} (h : HasT Tryz.prog n 103 l) : ∃ x : Sal, l = encSv x ∧ i64 x.at' := by
  obtain ⟨m, _, a1, b1, rfl, _, h1, a2, b2, rfl, _, h2, a3, b3, rfl, _, h3, rfl⟩ := has_struct Tryz.underlying103 h
  obtain ⟨z1, rfl, w1⟩ := has_int Tryz.underlying3 h1
  obtain ⟨z2, rfl, w2⟩ := has_int Tryz.underlying3 h2
  obtain ⟨z3, rfl, w3⟩ := has_int Tryz.underlying3 h3
  exact ⟨⟨z1, z2, z3⟩, rfl, bounds_i64 w1⟩
end Go.Proofs
