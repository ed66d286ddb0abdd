/- Contracts of functions of the program and of the reference. -/

set_option linter.unusedVariables false
set_option linter.unusedSimpArgs false
/-! Srt -/
set_option linter.unusedVariables false
namespace Go.Ev
/-! The stable sort of slices, told on lists of numbers. -/
def gN (l : List Nat) (j : Nat) : Nat := l.getD j 0
def sw (l : List Nat) (i j : Nat) : List Nat := (l.set i (gN l j)).set j (gN l i)
section
variable (lt : Nat → Nat → Bool)
def insJ (a : Nat) : Nat → List Nat → List Nat
  | 0, l => l
  | j + 1, l => if a < j + 1 ∧ lt (gN l (j + 1)) (gN l j) = true then insJ a j (sw l (j + 1) j) else l
def insN (a : Nat) : Nat → Nat → List Nat → List Nat
  | 0, _, l => l
  | d + 1, i, l => insN a d (i + 1) (insJ lt a i l)
def insS (a b : Nat) (l : List Nat) : List Nat := insN lt a (b - (a + 1)) (a + 1) l
end
def swN (a b : Nat) : Nat → Nat → List Nat → List Nat
  | 0, _, l => l
  | d + 1, i, l => swN a b d (i + 1) (sw l (a + i) (b + i))
def swR (a b n : Nat) (l : List Nat) : List Nat := swN a b n 0 l
def rot (m : Nat) : Nat → Nat → Nat → List Nat → List Nat
  | 0, _, _, l => l
  | f + 1, i, j, l => if i = j then swR (m - i) m i l else if j < i then rot m f (i - j) j (swR (m - i) m j l) else rot m f i (j - i) (swR (m - i) (m + j - i) i l)
def rotS (a m b : Nat) (l : List Nat) : List Nat := rot m (b - a) (m - a) (b - m) l
def bs (P : Nat → Bool) : Nat → Nat → Nat → Nat
  | 0, i, _ => i
  | f + 1, i, j => if i < j then (if P ((i + j) / 2) = true then bs P f i ((i + j) / 2) else bs P f ((i + j) / 2 + 1) j) else i
def upN : Nat → Nat → List Nat → List Nat
  | 0, _, l => l
  | d + 1, k, l => upN d (k + 1) (sw l k (k + 1))
def dnN : Nat → Nat → List Nat → List Nat
  | 0, _, l => l
  | d + 1, k, l => dnN d (k - 1) (sw l k (k - 1))
section
variable (lt : Nat → Nat → Bool)
def smS (a m b : Nat) : Nat := if (a + b) / 2 < m then (a + b) / 2 + m - b else a
def smE (a m b : Nat) : Nat := if (a + b) / 2 < m then (a + b) / 2 else m
def smStart (a m b : Nat) (l : List Nat) : Nat := bs (fun c => lt (gN l ((a + b) / 2 + m - 1 - c)) (gN l c)) (smE a m b - smS a m b) (smS a m b) (smE a m b)
def smRot (m st en : Nat) (l : List Nat) : List Nat := if st < m ∧ m < en then rotS st m en l else l
def smg : Nat → Nat → Nat → Nat → List Nat → List Nat
  | 0, _, _, _, l => l
  | f + 1, a, m, b, l =>
    if m - a = 1 then upN (bs (fun h => !lt (gN l h) (gN l a)) (b - m) m b - 1 - a) a l
    else if b - m = 1 then dnN (m - bs (fun h => lt (gN l m) (gN l h)) (m - a) a m) m l
    else
      let st := smStart lt a m b l
      let en := (a + b) / 2 + m - st
      let l1 := smRot m st en l
      let l2 := if a < st ∧ st < (a + b) / 2 then smg f a st ((a + b) / 2) l1 else l1
      if (a + b) / 2 < en ∧ en < b then smg f ((a + b) / 2) en b l2 else l2
/-- Up to 24 of them. -/
def stab (n : Nat) (l : List Nat) : List Nat :=
  if n < 20 then insS lt 0 n l else
  if 20 < n then smg lt n 0 20 n (insS lt 20 n (insS lt 0 20 l)) else insS lt 20 n (insS lt 0 20 l)
end

/-! Lengths; nothing is lost. -/
section
variable (lt : Nat → Nat → Bool)
end
section
variable (lt : Nat → Nat → Bool)
end
end Go.Ev
/-! Srt2 -/
set_option linter.unusedVariables false
namespace Go.Ev
/-! The sort sorts. -/
section
variable (lt : Nat → Nat → Bool) (L : Nat → Nat → Prop) (htr : ∀ {x y z}, L x y → L y z → L x z) (has : ∀ {x y}, L x y → L y x → False)
/-- The comparison of a later one with an earlier one. -/
def CrL (u v : Nat) : Prop := (lt v u = true → L v u) ∧ (lt v u = false → L u v)
include htr
include has
end
end Go.Ev
/-! Srt3 -/
set_option linter.unusedVariables false
namespace Go.Ev
section
variable (lt : Nat → Nat → Bool) (L : Nat → Nat → Prop) (htr : ∀ {x y z}, L x y → L y z → L x z) (has : ∀ {x y}, L x y → L y x → False) (hlt : ∀ {u v : Nat}, u < v → CrL lt L u v)
include htr hlt
include has
end

/-! The decision by ranks. -/
section
variable (rk : Nat → Int) (th bk : Nat → Bool)
def decP : List Nat → Int → Int → Int → Int × Int
  | [], v, w, _ => (v, w)
  | i :: l, v, w, r => if r > rk i then (v, w) else if (!th i && !bk i) = true then decP l v w r else decP l (if (th i && decide (v < 0)) = true then (i : Int) else v) (if (bk i && decide (w < 0)) = true then (i : Int) else w) (rk i)
/-- The first one of a rank. -/
def Lst (S : List Nat) (t : Nat → Bool) (R v : Int) : Prop := (v = -1 ∧ ∀ i ∈ S, rk i = R → t i = false) ∨ ∃ i ∈ S, v = (i : Int) ∧ t i = true ∧ rk i = R ∧ ∀ j ∈ S, rk j = R → t j = true → i ≤ j
structure DInv (S : List Nat) (v w R : Int) : Prop where
  top : R = 0 ∨ ∃ i ∈ S, (th i || bk i) = true ∧ rk i = R
  le : ∀ i ∈ S, (th i || bk i) = true → rk i ≤ R
  a : Lst rk S th R v
  b : Lst rk S bk R w
theorem Lst.congr {S S' : List Nat} {t : Nat → Bool} {R v : Int} (h : Lst rk S t R v) (hs : ∀ i, i ∈ S ↔ i ∈ S') : Lst rk S' t R v := by
  rcases h with ⟨h1, h2⟩ | ⟨i, h1, h2, h3, h4, h5⟩
  · exact .inl ⟨h1, fun i hi => h2 i ((hs i).2 hi)⟩
  · exact .inr ⟨i, (hs i).1 h1, h2, h3, h4, fun j hj => h5 j ((hs j).2 hj)⟩
/-- One more, of another rank or behind the others. -/
theorem Lst.add {S : List Nat} {t : Nat → Bool} {R v : Int} {i : Nat} (h : Lst rk S t R v) (hn : rk i = R → ∀ j ∈ S, rk j = R → j < i) (hx : rk i ≠ R → t i = false) : Lst rk (i :: S) t R (if (t i && decide (v < 0)) = true then (i : Int) else v) := by
  rcases h with ⟨h1, h2⟩ | ⟨k, h1, h2, h3, h4, h5⟩
  · subst h1
    cases hti : t i with
    | false =>
      simp only [Bool.false_and, Bool.false_eq_true, if_false]
      refine .inl ⟨rfl, fun j hj hr => ?_⟩
      rcases List.mem_cons.1 hj with rfl | hj
      · exact hti
      · exact h2 j hj hr
    | true =>
      simp only [Bool.true_and]
      rw [if_pos (by decide)]
      have hR : rk i = R := by
        rcases Decidable.em (rk i = R) with h | h
        · exact h
        · rw [hx h] at hti; cases hti
      refine .inr ⟨i, List.mem_cons_self, rfl, hti, hR, fun j hj hr htj => ?_⟩
      rcases List.mem_cons.1 hj with rfl | hj
      · exact Nat.le_refl _
      · rw [h2 j hj hr] at htj; cases htj
  · have hv : ¬ v < 0 := by omega
    rw [if_neg (by simp [hv])]
    refine .inr ⟨k, List.mem_cons_of_mem _ h1, h2, h3, h4, fun j hj hr htj => ?_⟩
    rcases List.mem_cons.1 hj with rfl | hj
    · exact Nat.le_of_lt (hn hr k h1 h4)
    · exact h5 j hj hr htj
/-- One more that is not asked. -/
theorem Lst.skip {S : List Nat} {t : Nat → Bool} {R v : Int} {i : Nat} (h : Lst rk S t R v) (hx : rk i = R → t i = false) : Lst rk (i :: S) t R v := by
  rcases h with ⟨h1, h2⟩ | ⟨k, h1, h2, h3, h4, h5⟩
  · refine .inl ⟨h1, fun j hj hr => ?_⟩
    rcases List.mem_cons.1 hj with rfl | hj
    · exact hx hr
    · exact h2 j hj hr
  · refine .inr ⟨k, List.mem_cons_of_mem _ h1, h2, h3, h4, fun j hj hr htj => ?_⟩
    rcases List.mem_cons.1 hj with rfl | hj
    · rw [hx hr] at htj; cases htj
    · exact h5 j hj hr htj
end
end Go.Ev
