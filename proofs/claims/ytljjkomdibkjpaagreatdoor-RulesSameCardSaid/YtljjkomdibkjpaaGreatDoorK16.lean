/- Contracts of functions of the program and of the reference. -/
import Derived.Test.YtljjkomdibkjpaaGreatDoorK12
import Derived.Test.YtljjkomdibkjpaaGreatDoorE6
import Derived.Test.YtljjkomdibkjpaaGreatDoorK14
import Derived.Test.YtljjkomdibkjpaaGreatDoorK15
set_option linter.unusedVariables false
set_option linter.unusedSimpArgs false
/-! VCY6 -/
set_option maxRecDepth 100000
set_option linter.unusedVariables false
namespace Go.Proofs
open Go Go.Ev
-- elP
noncomputable def Tryz.X127_6 (pl : List AV) : WCx := Tryz.B.wcxP 6 [(38, RPl pl)]
theorem y6_0 (pl : List AV) (y : Nat) (h0 h1 h2 h3 h4 h5 : Option HB) (k : Kont) : wpC (Tryz.X127_6 pl) (cd PP 127 [0]) ([.fn (.yield y) [] []] ++ List.replicate 57 X) ⟨[h0, h1, h2, h3, h4, h5], [], []⟩ k =
  (k EX.normal ([AV.fn (Fn.yield y) [] [], X, AV.ptr 6 0, X, X, X, X, X, X, X, X, X, AV.agg [I (0 : Int), I (1 : Int)], AV.agg [I (0 : Int), I (0 : Int)], AV.agg [I (1 : Int), I (0 : Int)], AV.agg [I (0 : Int), I (1 : Int), I (0 : Int), I (0 : Int), I (1 : Int), I (0 : Int)]] ++ List.replicate 42 X) (St.mk [h0, h1, h2, h3, h4, h5, some (HB.cells [I (0 : Int), I (1 : Int), I (0 : Int), I (0 : Int), I (1 : Int), I (0 : Int)] 172)] [] [6])) := by kernel_rfl
theorem y6_1 (pl : List AV) (y : Nat) (h0 h1 h2 h3 h4 h5 : Option HB) (k : Kont) : wpC (Tryz.X127_6 pl) (cd PP 127 [1, 0]) ([.fn (.yield y) [] [], X, .ptr 6 0] ++ List.replicate 55 X) ⟨[h0, h1, h2, h3, h4, h5, some (.cells [I 0, I 1, I 0, I 0, I 1, I 0] 172)], [], []⟩ k =
  (True ∧ k EX.normal ([AV.fn (Fn.yield y) [] [], X, AV.ptr 6 0, AV.vs pl 120 Tok.none, X, X, X, X, X, X, X, X, X, X, X, X, AV.vs pl 120 Tok.none] ++ List.replicate 41 X) (St.mk [h0, h1, h2, h3, h4, h5, some (HB.cells [I (0 : Int), I (1 : Int), I (0 : Int), I (0 : Int), I (1 : Int), I (0 : Int)] 172)] [] [])) := by kernel_rfl
theorem y6_2 (pl : List AV) (y : Nat) (h0 h1 h2 h3 h4 h5 : Option HB) (k : Kont) : wpC (Tryz.X127_6 pl) (cd PP 127 [1, 1, 0]) ([.fn (.yield y) [] [], X, .ptr 6 0, .vs pl 120 .none] ++ List.replicate 54 X) ⟨[h0, h1, h2, h3, h4, h5, some (.cells [I 0, I 1, I 0, I 0, I 1, I 0] 172)], [], []⟩ k =
  (k EX.normal ([AV.fn (Fn.yield y) [] [], X, AV.ptr 6 0, AV.vs pl 120 Tok.none, X, X, X, X, X, X, X, X, X, X, X, X, X, AV.vs pl 120 Tok.none, I (120 : Int), I (0 : Int)] ++ List.replicate 38 X) (St.mk [h0, h1, h2, h3, h4, h5, some (HB.cells [I (0 : Int), I (1 : Int), I (0 : Int), I (0 : Int), I (1 : Int), I (0 : Int)] 172)] [] [])) := by kernel_rfl
theorem y6_3 (pl : List AV) (y : Nat) (h0 h1 h2 h3 h4 h5 : Option HB) (i : Int) (k : Kont) : wpC (Tryz.X127_6 pl) (cd PP 127 [1, 1, 1, 0, 0, 0]) ([.fn (.yield y) [] [], X, .ptr 6 0, .vs pl 120 .none, X, X, X, X, X, X, X, X, X, X, X, X, X, .vs pl 120 .none, I 120, I i] ++ List.replicate 38 X) ⟨[h0, h1, h2, h3, h4, h5, some (.cells [I 0, I 1, I 0, I 0, I 1, I 0] 172)], [], []⟩ k =
  (k EX.normal ([AV.fn (Fn.yield y) [] [], X, AV.ptr 6 0, AV.vs pl 120 Tok.none, X, X, X, X, X, X, X, X, X, X, X, X, X, AV.vs pl 120 Tok.none, I (120 : Int), I i, Bo (decide (i < (120 : Int)))] ++ List.replicate 37 X) (St.mk [h0, h1, h2, h3, h4, h5, some (HB.cells [I (0 : Int), I (1 : Int), I (0 : Int), I (0 : Int), I (1 : Int), I (0 : Int)] 172)] [] [])) := by kernel_rfl
theorem y6_4 (pl : List AV) (y : Nat) (h0 h1 h2 h3 h4 h5 : Option HB) (i : Int) (k : Kont) : wpC (Tryz.X127_6 pl) (cd PP 127 [1, 1, 1, 0, 0, 1, 1, 0, 0, 0]) ([.fn (.yield y) [] [], X, .ptr 6 0, .vs pl 120 .none, X, X, X, X, X, X, X, X, X, X, X, X, X, .vs pl 120 .none, I 120, I i] ++ List.replicate 38 X) ⟨[h0, h1, h2, h3, h4, h5, some (.cells [I 0, I 1, I 0, I 0, I 1, I 0] 172)], [], []⟩ k =
  (cIf (decide ((0 : Int) ≤ i)) (cIf (decide (i.toNat < 120)) (cIf (decide (840 = pl.length)) (cIf (decide (7 ≤ (List.drop (i.toNat * 7) pl).length)) (cIf (like zP (el (List.drop (i.toNat * 7) pl) 0 7)) (k EX.normal ([AV.fn (Fn.yield y) [] [], X, AV.ptr 6 0, AV.vs pl 120 Tok.none, X, AV.ptr 7 0, X, X, X, X, X, X, X, X, X, X, X, AV.vs pl 120 Tok.none, I (120 : Int), I i, X, AV.vp (List.drop (i.toNat * 7) pl), AV.agg (elP (el (List.drop (i.toNat * 7) pl) 0 7))] ++ List.replicate 35 X) (St.mk [h0, h1, h2, h3, h4, h5, some (HB.cells [I (0 : Int), I (1 : Int), I (0 : Int), I (0 : Int), I (1 : Int), I (0 : Int)] 172), some (HB.cells (elP (el (List.drop (i.toNat * 7) pl) 0 7)) 40)] [] [7])) False) False) False) False) False) := by kernel_rfl
theorem y6_5 (pl : List AV) (y : Nat) (h0 h1 h2 h3 h4 h5 : Option HB) (i : Int) (a : Prf) (k : Kont) : wpC (Tryz.X127_6 pl) (cd PP 127 [1, 1, 1, 0, 0, 1, 1, 0, 0, 1, 0]) ([.fn (.yield y) [] [], X, .ptr 6 0, .vs pl 120 .none, X, .ptr 7 0, X, X, X, X, X, X, X, X, X, X, X, .vs pl 120 .none, I 120, I i] ++ List.replicate 38 X) ⟨[h0, h1, h2, h3, h4, h5, some (.cells [I 0, I 1, I 0, I 0, I 1, I 0] 172), some (.cells (encP a) 40)], [], []⟩ k =
  (k EX.normal ([AV.fn (Fn.yield y) [] [], X, AV.ptr 6 0, AV.vs pl 120 Tok.none, X, AV.ptr 7 0, X, X, X, X, X, X, X, X, X, X, X, AV.vs pl 120 Tok.none, I (120 : Int), I i, X, X, X, AV.vs pl 120 Tok.none, I (120 : Int), I (0 : Int)] ++ List.replicate 32 X) (St.mk [h0, h1, h2, h3, h4, h5, some (HB.cells [I (0 : Int), I (1 : Int), I (0 : Int), I (0 : Int), I (1 : Int), I (0 : Int)] 172), some (HB.cells (encP a) 40)] [] [])) := by kernel_rfl
theorem y6_6 (pl : List AV) (y : Nat) (h0 h1 h2 h3 h4 h5 : Option HB) (i j : Int) (a : Prf) (k : Kont) : wpC (Tryz.X127_6 pl) (cd PP 127 [1, 1, 1, 0, 0, 1, 1, 0, 0, 1, 1, 0, 0, 0]) ([.fn (.yield y) [] [], X, .ptr 6 0, .vs pl 120 .none, X, .ptr 7 0, X, X, X, X, X, X, X, X, X, X, X, .vs pl 120 .none, I 120, I i, X, X, X, .vs pl 120 .none, I 120, I j] ++ List.replicate 32 X) ⟨[h0, h1, h2, h3, h4, h5, some (.cells [I 0, I 1, I 0, I 0, I 1, I 0] 172), some (.cells (encP a) 40)], [], []⟩ k =
  (k EX.normal ([AV.fn (Fn.yield y) [] [], X, AV.ptr 6 0, AV.vs pl 120 Tok.none, X, AV.ptr 7 0, X, X, X, X, X, X, X, X, X, X, X, AV.vs pl 120 Tok.none, I (120 : Int), I i, X, X, X, AV.vs pl 120 Tok.none, I (120 : Int), I j, Bo (decide (j < (120 : Int)))] ++ List.replicate 31 X) (St.mk [h0, h1, h2, h3, h4, h5, some (HB.cells [I (0 : Int), I (1 : Int), I (0 : Int), I (0 : Int), I (1 : Int), I (0 : Int)] 172), some (HB.cells (encP a) 40)] [] [])) := by kernel_rfl
theorem y6_7 (pl : List AV) (y : Nat) (h0 h1 h2 h3 h4 h5 : Option HB) (i j : Int) (a : Prf) (k : Kont) : wpC (Tryz.X127_6 pl) (cd PP 127 [1, 1, 1, 0, 0, 1, 1, 0, 0, 1, 1, 0, 0, 1, 1, 0, 0, 0]) ([.fn (.yield y) [] [], X, .ptr 6 0, .vs pl 120 .none, X, .ptr 7 0, X, X, X, X, X, X, X, X, X, X, X, .vs pl 120 .none, I 120, I i, X, X, X, .vs pl 120 .none, I 120, I j] ++ List.replicate 32 X) ⟨[h0, h1, h2, h3, h4, h5, some (.cells [I 0, I 1, I 0, I 0, I 1, I 0] 172), some (.cells (encP a) 40)], [], []⟩ k =
  (cIf (decide ((0 : Int) ≤ j)) (cIf (decide (j.toNat < 120)) (cIf (decide (840 = pl.length)) (cIf (decide (7 ≤ (List.drop (j.toNat * 7) pl).length)) (cIf (like zP (el (List.drop (j.toNat * 7) pl) 0 7)) (k EX.normal ([AV.fn (Fn.yield y) [] [], X, AV.ptr 6 0, AV.vs pl 120 Tok.none, X, AV.ptr 7 0, X, AV.ptr 8 0, X, X, X, X, X, X, X, X, X, AV.vs pl 120 Tok.none, I (120 : Int), I i, X, X, X, AV.vs pl 120 Tok.none, I (120 : Int), I j, X, AV.vp (List.drop (j.toNat * 7) pl), AV.agg (elP (el (List.drop (j.toNat * 7) pl) 0 7))] ++ List.replicate 29 X) (St.mk [h0, h1, h2, h3, h4, h5, some (HB.cells [I (0 : Int), I (1 : Int), I (0 : Int), I (0 : Int), I (1 : Int), I (0 : Int)] 172), some (HB.cells (encP a) 40), some (HB.cells (elP (el (List.drop (j.toNat * 7) pl) 0 7)) 40)] [] [8])) False) False) False) False) False) := by kernel_rfl
theorem y6_8 (pl : List AV) (y : Nat) (h0 h1 h2 h3 h4 h5 : Option HB) (i j : Int) (a b : Prf) (k : Kont) : wpC (Tryz.X127_6 pl) (cd PP 127 [1, 1, 1, 0, 0, 1, 1, 0, 0, 1, 1, 0, 0, 1, 1, 0, 0, 1, 0]) ([.fn (.yield y) [] [], X, .ptr 6 0, .vs pl 120 .none, X, .ptr 7 0, X, .ptr 8 0, X, X, X, X, X, X, X, X, X, .vs pl 120 .none, I 120, I i, X, X, X, .vs pl 120 .none, I 120, I j] ++ List.replicate 32 X) ⟨[h0, h1, h2, h3, h4, h5, some (.cells [I 0, I 1, I 0, I 0, I 1, I 0] 172), some (.cells (encP a) 40), some (.cells (encP b) 40)], [], []⟩ k =
  (k EX.normal ([AV.fn (Fn.yield y) [] [], X, AV.ptr 6 0, AV.vs pl 120 Tok.none, X, AV.ptr 7 0, X, AV.ptr 8 0, X, X, X, X, X, X, X, X, X, AV.vs pl 120 Tok.none, I (120 : Int), I i, X, X, X, AV.vs pl 120 Tok.none, I (120 : Int), I j, X, X, X, AV.agg [I (0 : Int), I (1 : Int), I (0 : Int), I (0 : Int), I (1 : Int), I (0 : Int)], I (0 : Int)] ++ List.replicate 27 X) (St.mk [h0, h1, h2, h3, h4, h5, some (HB.cells [I (0 : Int), I (1 : Int), I (0 : Int), I (0 : Int), I (1 : Int), I (0 : Int)] 172), some (HB.cells (encP a) 40), some (HB.cells (encP b) 40)] [] [])) := by kernel_rfl
theorem y6_9 (pl : List AV) (y : Nat) (h0 h1 h2 h3 h4 h5 : Option HB) (i j c : Int) (a b : Prf) (k : Kont) : wpC (Tryz.X127_6 pl) (cd PP 127 [1, 1, 1, 0, 0, 1, 1, 0, 0, 1, 1, 0, 0, 1, 1, 0, 0, 1, 1, 0, 0, 0]) ([.fn (.yield y) [] [], X, .ptr 6 0, .vs pl 120 .none, X, .ptr 7 0, X, .ptr 8 0, X, X, X, X, X, X, X, X, X, .vs pl 120 .none, I 120, I i, X, X, X, .vs pl 120 .none, I 120, I j, X, X, X, .agg [I 0, I 1, I 0, I 0, I 1, I 0], I c] ++ List.replicate 27 X) ⟨[h0, h1, h2, h3, h4, h5, some (.cells [I 0, I 1, I 0, I 0, I 1, I 0] 172), some (.cells (encP a) 40), some (.cells (encP b) 40)], [], []⟩ k =
  (k EX.normal ([AV.fn (Fn.yield y) [] [], X, AV.ptr 6 0, AV.vs pl 120 Tok.none, X, AV.ptr 7 0, X, AV.ptr 8 0, X, X, X, X, X, X, X, X, X, AV.vs pl 120 Tok.none, I (120 : Int), I i, X, X, X, AV.vs pl 120 Tok.none, I (120 : Int), I j, X, X, X, AV.agg [I (0 : Int), I (1 : Int), I (0 : Int), I (0 : Int), I (1 : Int), I (0 : Int)], I c, Bo (decide (c < (3 : Int)))] ++ List.replicate 26 X) (St.mk [h0, h1, h2, h3, h4, h5, some (HB.cells [I (0 : Int), I (1 : Int), I (0 : Int), I (0 : Int), I (1 : Int), I (0 : Int)] 172), some (HB.cells (encP a) 40), some (HB.cells (encP b) 40)] [] [])) := by kernel_rfl
theorem y6_10_0 (pl : List AV) (y : Nat) (h0 h1 h2 h3 h4 h5 : Option HB) (i j : Int) (a b : Prf) (k : Kont) : wpC (Tryz.X127_6 pl) (cd PP 127 [1, 1, 1, 0, 0, 1, 1, 0, 0, 1, 1, 0, 0, 1, 1, 0, 0, 1, 1, 0, 0, 1, 1, 0, 0, 0]) ([.fn (.yield y) [] [], X, .ptr 6 0, .vs pl 120 .none, X, .ptr 7 0, X, .ptr 8 0, X, X, X, X, X, X, X, X, X, .vs pl 120 .none, I 120, I i, X, X, X, .vs pl 120 .none, I 120, I j, X, X, X, .agg [I 0, I 1, I 0, I 0, I 1, I 0], I 0] ++ List.replicate 27 X) ⟨[h0, h1, h2, h3, h4, h5, some (.cells [I 0, I 1, I 0, I 0, I 1, I 0] 172), some (.cells (encP a) 40), some (.cells (encP b) 40)], [], []⟩ k =
  (k EX.normal ([AV.fn (Fn.yield y) [] [], X, AV.ptr 6 0, AV.vs pl 120 Tok.none, X, AV.ptr 7 0, X, AV.ptr 8 0, X, AV.ptr 9 0, X, X, X, X, X, X, X, AV.vs pl 120 Tok.none, I (120 : Int), I i, X, X, X, AV.vs pl 120 Tok.none, I (120 : Int), I j, X, X, X, AV.agg [I (0 : Int), I (1 : Int), I (0 : Int), I (0 : Int), I (1 : Int), I (0 : Int)], I (0 : Int), X, AV.agg [I (0 : Int), I (1 : Int)]] ++ List.replicate 25 X) (St.mk [h0, h1, h2, h3, h4, h5, some (HB.cells [I (0 : Int), I (1 : Int), I (0 : Int), I (0 : Int), I (1 : Int), I (0 : Int)] 172), some (HB.cells (encP a) 40), some (HB.cells (encP b) 40), some (HB.cells [I (0 : Int), I (1 : Int)] 171)] [] [9])) := by kernel_rfl
theorem y6_10_1 (pl : List AV) (y : Nat) (h0 h1 h2 h3 h4 h5 : Option HB) (i j : Int) (a b : Prf) (k : Kont) : wpC (Tryz.X127_6 pl) (cd PP 127 [1, 1, 1, 0, 0, 1, 1, 0, 0, 1, 1, 0, 0, 1, 1, 0, 0, 1, 1, 0, 0, 1, 1, 0, 0, 0]) ([.fn (.yield y) [] [], X, .ptr 6 0, .vs pl 120 .none, X, .ptr 7 0, X, .ptr 8 0, X, X, X, X, X, X, X, X, X, .vs pl 120 .none, I 120, I i, X, X, X, .vs pl 120 .none, I 120, I j, X, X, X, .agg [I 0, I 1, I 0, I 0, I 1, I 0], I 1] ++ List.replicate 27 X) ⟨[h0, h1, h2, h3, h4, h5, some (.cells [I 0, I 1, I 0, I 0, I 1, I 0] 172), some (.cells (encP a) 40), some (.cells (encP b) 40)], [], []⟩ k =
  (k EX.normal ([AV.fn (Fn.yield y) [] [], X, AV.ptr 6 0, AV.vs pl 120 Tok.none, X, AV.ptr 7 0, X, AV.ptr 8 0, X, AV.ptr 9 0, X, X, X, X, X, X, X, AV.vs pl 120 Tok.none, I (120 : Int), I i, X, X, X, AV.vs pl 120 Tok.none, I (120 : Int), I j, X, X, X, AV.agg [I (0 : Int), I (1 : Int), I (0 : Int), I (0 : Int), I (1 : Int), I (0 : Int)], I (1 : Int), X, AV.agg [I (0 : Int), I (0 : Int)]] ++ List.replicate 25 X) (St.mk [h0, h1, h2, h3, h4, h5, some (HB.cells [I (0 : Int), I (1 : Int), I (0 : Int), I (0 : Int), I (1 : Int), I (0 : Int)] 172), some (HB.cells (encP a) 40), some (HB.cells (encP b) 40), some (HB.cells [I (0 : Int), I (0 : Int)] 171)] [] [9])) := by kernel_rfl
theorem y6_10_2 (pl : List AV) (y : Nat) (h0 h1 h2 h3 h4 h5 : Option HB) (i j : Int) (a b : Prf) (k : Kont) : wpC (Tryz.X127_6 pl) (cd PP 127 [1, 1, 1, 0, 0, 1, 1, 0, 0, 1, 1, 0, 0, 1, 1, 0, 0, 1, 1, 0, 0, 1, 1, 0, 0, 0]) ([.fn (.yield y) [] [], X, .ptr 6 0, .vs pl 120 .none, X, .ptr 7 0, X, .ptr 8 0, X, X, X, X, X, X, X, X, X, .vs pl 120 .none, I 120, I i, X, X, X, .vs pl 120 .none, I 120, I j, X, X, X, .agg [I 0, I 1, I 0, I 0, I 1, I 0], I 2] ++ List.replicate 27 X) ⟨[h0, h1, h2, h3, h4, h5, some (.cells [I 0, I 1, I 0, I 0, I 1, I 0] 172), some (.cells (encP a) 40), some (.cells (encP b) 40)], [], []⟩ k =
  (k EX.normal ([AV.fn (Fn.yield y) [] [], X, AV.ptr 6 0, AV.vs pl 120 Tok.none, X, AV.ptr 7 0, X, AV.ptr 8 0, X, AV.ptr 9 0, X, X, X, X, X, X, X, AV.vs pl 120 Tok.none, I (120 : Int), I i, X, X, X, AV.vs pl 120 Tok.none, I (120 : Int), I j, X, X, X, AV.agg [I (0 : Int), I (1 : Int), I (0 : Int), I (0 : Int), I (1 : Int), I (0 : Int)], I (2 : Int), X, AV.agg [I (1 : Int), I (0 : Int)]] ++ List.replicate 25 X) (St.mk [h0, h1, h2, h3, h4, h5, some (HB.cells [I (0 : Int), I (1 : Int), I (0 : Int), I (0 : Int), I (1 : Int), I (0 : Int)] 172), some (HB.cells (encP a) 40), some (HB.cells (encP b) 40), some (HB.cells [I (1 : Int), I (0 : Int)] 171)] [] [9])) := by kernel_rfl
theorem y6_11 (pl : List AV) (y : Nat) (h0 h1 h2 h3 h4 h5 : Option HB) (i j c c0 c1 : Int) (a b : Prf) (k : Kont) : wpC (Tryz.X127_6 pl) (cd PP 127 [1, 1, 1, 0, 0, 1, 1, 0, 0, 1, 1, 0, 0, 1, 1, 0, 0, 1, 1, 0, 0, 1, 1, 0, 0, 1, 0]) ([.fn (.yield y) [] [], X, .ptr 6 0, .vs pl 120 .none, X, .ptr 7 0, X, .ptr 8 0, X, .ptr 9 0, X, X, X, X, X, X, X, .vs pl 120 .none, I 120, I i, X, X, X, .vs pl 120 .none, I 120, I j, X, X, X, .agg [I 0, I 1, I 0, I 0, I 1, I 0], I c] ++ List.replicate 27 X) ⟨[h0, h1, h2, h3, h4, h5, some (.cells [I 0, I 1, I 0, I 0, I 1, I 0] 172), some (.cells (encP a) 40), some (.cells (encP b) 40), some (.cells [I c0, I c1] 171)], [], []⟩ k =
  (k EX.normal ([AV.fn (Fn.yield y) [] [], X, AV.ptr 6 0, AV.vs pl 120 Tok.none, X, AV.ptr 7 0, X, AV.ptr 8 0, X, AV.ptr 9 0, X, X, X, X, X, X, X, AV.vs pl 120 Tok.none, I (120 : Int), I i, X, X, X, AV.vs pl 120 Tok.none, I (120 : Int), I j, X, X, X, AV.agg [I (0 : Int), I (1 : Int), I (0 : Int), I (0 : Int), I (1 : Int), I (0 : Int)], I c, X, X, AV.agg [I (0 : Int), I (1 : Int), I (0 : Int), I (0 : Int), I (1 : Int), I (0 : Int)], I (0 : Int)] ++ List.replicate 23 X) (St.mk [h0, h1, h2, h3, h4, h5, some (HB.cells [I (0 : Int), I (1 : Int), I (0 : Int), I (0 : Int), I (1 : Int), I (0 : Int)] 172), some (HB.cells (encP a) 40), some (HB.cells (encP b) 40), some (HB.cells [I c0, I c1] 171)] [] [])) := by kernel_rfl
theorem y6_12 (pl : List AV) (y : Nat) (h0 h1 h2 h3 h4 h5 : Option HB) (i j c t c0 c1 : Int) (a b : Prf) (k : Kont) : wpC (Tryz.X127_6 pl) (cd PP 127 [1, 1, 1, 0, 0, 1, 1, 0, 0, 1, 1, 0, 0, 1, 1, 0, 0, 1, 1, 0, 0, 1, 1, 0, 0, 1, 1, 0, 0, 0]) ([.fn (.yield y) [] [], X, .ptr 6 0, .vs pl 120 .none, X, .ptr 7 0, X, .ptr 8 0, X, .ptr 9 0, X, X, X, X, X, X, X, .vs pl 120 .none, I 120, I i, X, X, X, .vs pl 120 .none, I 120, I j, X, X, X, .agg [I 0, I 1, I 0, I 0, I 1, I 0], I c, X, X, .agg [I 0, I 1, I 0, I 0, I 1, I 0], I t] ++ List.replicate 23 X) ⟨[h0, h1, h2, h3, h4, h5, some (.cells [I 0, I 1, I 0, I 0, I 1, I 0] 172), some (.cells (encP a) 40), some (.cells (encP b) 40), some (.cells [I c0, I c1] 171)], [], []⟩ k =
  (k EX.normal ([AV.fn (Fn.yield y) [] [], X, AV.ptr 6 0, AV.vs pl 120 Tok.none, X, AV.ptr 7 0, X, AV.ptr 8 0, X, AV.ptr 9 0, X, X, X, X, X, X, X, AV.vs pl 120 Tok.none, I (120 : Int), I i, X, X, X, AV.vs pl 120 Tok.none, I (120 : Int), I j, X, X, X, AV.agg [I (0 : Int), I (1 : Int), I (0 : Int), I (0 : Int), I (1 : Int), I (0 : Int)], I c, X, X, AV.agg [I (0 : Int), I (1 : Int), I (0 : Int), I (0 : Int), I (1 : Int), I (0 : Int)], I t, Bo (decide (t < (3 : Int)))] ++ List.replicate 22 X) (St.mk [h0, h1, h2, h3, h4, h5, some (HB.cells [I (0 : Int), I (1 : Int), I (0 : Int), I (0 : Int), I (1 : Int), I (0 : Int)] 172), some (HB.cells (encP a) 40), some (HB.cells (encP b) 40), some (HB.cells [I c0, I c1] 171)] [] [])) := by kernel_rfl
theorem y6_13_0 (pl : List AV) (y : Nat) (h0 h1 h2 h3 h4 h5 : Option HB) (i j c c0 c1 : Int) (a b : Prf) (k : Kont) : wpC (Tryz.X127_6 pl) (cd PP 127 [1, 1, 1, 0, 0, 1, 1, 0, 0, 1, 1, 0, 0, 1, 1, 0, 0, 1, 1, 0, 0, 1, 1, 0, 0, 1, 1, 0, 0, 1, 1, 0, 0, 0]) ([.fn (.yield y) [] [], X, .ptr 6 0, .vs pl 120 .none, X, .ptr 7 0, X, .ptr 8 0, X, .ptr 9 0, X, X, X, X, X, X, X, .vs pl 120 .none, I 120, I i, X, X, X, .vs pl 120 .none, I 120, I j, X, X, X, .agg [I 0, I 1, I 0, I 0, I 1, I 0], I c, X, X, .agg [I 0, I 1, I 0, I 0, I 1, I 0], I 0] ++ List.replicate 23 X) ⟨[h0, h1, h2, h3, h4, h5, some (.cells [I 0, I 1, I 0, I 0, I 1, I 0] 172), some (.cells (encP a) 40), some (.cells (encP b) 40), some (.cells [I c0, I c1] 171)], [], []⟩ k =
  (k EX.normal ([AV.fn (Fn.yield y) [] [], X, AV.ptr 6 0, AV.vs pl 120 Tok.none, X, AV.ptr 7 0, X, AV.ptr 8 0, X, AV.ptr 9 0, X, AV.ptr 10 0, X, X, X, X, X, AV.vs pl 120 Tok.none, I (120 : Int), I i, X, X, X, AV.vs pl 120 Tok.none, I (120 : Int), I j, X, X, X, AV.agg [I (0 : Int), I (1 : Int), I (0 : Int), I (0 : Int), I (1 : Int), I (0 : Int)], I c, X, X, AV.agg [I (0 : Int), I (1 : Int), I (0 : Int), I (0 : Int), I (1 : Int), I (0 : Int)], I (0 : Int), X, AV.agg [I (0 : Int), I (1 : Int)]] ++ List.replicate 21 X) (St.mk [h0, h1, h2, h3, h4, h5, some (HB.cells [I (0 : Int), I (1 : Int), I (0 : Int), I (0 : Int), I (1 : Int), I (0 : Int)] 172), some (HB.cells (encP a) 40), some (HB.cells (encP b) 40), some (HB.cells [I c0, I c1] 171), some (HB.cells [I (0 : Int), I (1 : Int)] 171)] [] [10])) := by kernel_rfl
theorem y6_13_1 (pl : List AV) (y : Nat) (h0 h1 h2 h3 h4 h5 : Option HB) (i j c c0 c1 : Int) (a b : Prf) (k : Kont) : wpC (Tryz.X127_6 pl) (cd PP 127 [1, 1, 1, 0, 0, 1, 1, 0, 0, 1, 1, 0, 0, 1, 1, 0, 0, 1, 1, 0, 0, 1, 1, 0, 0, 1, 1, 0, 0, 1, 1, 0, 0, 0]) ([.fn (.yield y) [] [], X, .ptr 6 0, .vs pl 120 .none, X, .ptr 7 0, X, .ptr 8 0, X, .ptr 9 0, X, X, X, X, X, X, X, .vs pl 120 .none, I 120, I i, X, X, X, .vs pl 120 .none, I 120, I j, X, X, X, .agg [I 0, I 1, I 0, I 0, I 1, I 0], I c, X, X, .agg [I 0, I 1, I 0, I 0, I 1, I 0], I 1] ++ List.replicate 23 X) ⟨[h0, h1, h2, h3, h4, h5, some (.cells [I 0, I 1, I 0, I 0, I 1, I 0] 172), some (.cells (encP a) 40), some (.cells (encP b) 40), some (.cells [I c0, I c1] 171)], [], []⟩ k =
  (k EX.normal ([AV.fn (Fn.yield y) [] [], X, AV.ptr 6 0, AV.vs pl 120 Tok.none, X, AV.ptr 7 0, X, AV.ptr 8 0, X, AV.ptr 9 0, X, AV.ptr 10 0, X, X, X, X, X, AV.vs pl 120 Tok.none, I (120 : Int), I i, X, X, X, AV.vs pl 120 Tok.none, I (120 : Int), I j, X, X, X, AV.agg [I (0 : Int), I (1 : Int), I (0 : Int), I (0 : Int), I (1 : Int), I (0 : Int)], I c, X, X, AV.agg [I (0 : Int), I (1 : Int), I (0 : Int), I (0 : Int), I (1 : Int), I (0 : Int)], I (1 : Int), X, AV.agg [I (0 : Int), I (0 : Int)]] ++ List.replicate 21 X) (St.mk [h0, h1, h2, h3, h4, h5, some (HB.cells [I (0 : Int), I (1 : Int), I (0 : Int), I (0 : Int), I (1 : Int), I (0 : Int)] 172), some (HB.cells (encP a) 40), some (HB.cells (encP b) 40), some (HB.cells [I c0, I c1] 171), some (HB.cells [I (0 : Int), I (0 : Int)] 171)] [] [10])) := by kernel_rfl
theorem y6_13_2 (pl : List AV) (y : Nat) (h0 h1 h2 h3 h4 h5 : Option HB) (i j c c0 c1 : Int) (a b : Prf) (k : Kont) : wpC (Tryz.X127_6 pl) (cd PP 127 [1, 1, 1, 0, 0, 1, 1, 0, 0, 1, 1, 0, 0, 1, 1, 0, 0, 1, 1, 0, 0, 1, 1, 0, 0, 1, 1, 0, 0, 1, 1, 0, 0, 0]) ([.fn (.yield y) [] [], X, .ptr 6 0, .vs pl 120 .none, X, .ptr 7 0, X, .ptr 8 0, X, .ptr 9 0, X, X, X, X, X, X, X, .vs pl 120 .none, I 120, I i, X, X, X, .vs pl 120 .none, I 120, I j, X, X, X, .agg [I 0, I 1, I 0, I 0, I 1, I 0], I c, X, X, .agg [I 0, I 1, I 0, I 0, I 1, I 0], I 2] ++ List.replicate 23 X) ⟨[h0, h1, h2, h3, h4, h5, some (.cells [I 0, I 1, I 0, I 0, I 1, I 0] 172), some (.cells (encP a) 40), some (.cells (encP b) 40), some (.cells [I c0, I c1] 171)], [], []⟩ k =
  (k EX.normal ([AV.fn (Fn.yield y) [] [], X, AV.ptr 6 0, AV.vs pl 120 Tok.none, X, AV.ptr 7 0, X, AV.ptr 8 0, X, AV.ptr 9 0, X, AV.ptr 10 0, X, X, X, X, X, AV.vs pl 120 Tok.none, I (120 : Int), I i, X, X, X, AV.vs pl 120 Tok.none, I (120 : Int), I j, X, X, X, AV.agg [I (0 : Int), I (1 : Int), I (0 : Int), I (0 : Int), I (1 : Int), I (0 : Int)], I c, X, X, AV.agg [I (0 : Int), I (1 : Int), I (0 : Int), I (0 : Int), I (1 : Int), I (0 : Int)], I (2 : Int), X, AV.agg [I (1 : Int), I (0 : Int)]] ++ List.replicate 21 X) (St.mk [h0, h1, h2, h3, h4, h5, some (HB.cells [I (0 : Int), I (1 : Int), I (0 : Int), I (0 : Int), I (1 : Int), I (0 : Int)] 172), some (HB.cells (encP a) 40), some (HB.cells (encP b) 40), some (HB.cells [I c0, I c1] 171), some (HB.cells [I (1 : Int), I (0 : Int)] 171)] [] [10])) := by kernel_rfl
theorem y6_14 (pl : List AV) (y : Nat) (h0 h1 h2 h3 h4 h5 : Option HB) (i j c t c0 c1 u0 u1 : Int) (a b : Prf) (k : Kont) : wpC (Tryz.X127_6 pl) (cd PP 127 [1, 1, 1, 0, 0, 1, 1, 0, 0, 1, 1, 0, 0, 1, 1, 0, 0, 1, 1, 0, 0, 1, 1, 0, 0, 1, 1, 0, 0, 1, 1, 0, 0, 1, 0]) ([.fn (.yield y) [] [], X, .ptr 6 0, .vs pl 120 .none, X, .ptr 7 0, X, .ptr 8 0, X, .ptr 9 0, X, .ptr 10 0, X, X, X, X, X, .vs pl 120 .none, I 120, I i, X, X, X, .vs pl 120 .none, I 120, I j, X, X, X, .agg [I 0, I 1, I 0, I 0, I 1, I 0], I c, X, X, .agg [I 0, I 1, I 0, I 0, I 1, I 0], I t] ++ List.replicate 23 X) ⟨[h0, h1, h2, h3, h4, h5, some (.cells [I 0, I 1, I 0, I 0, I 1, I 0] 172), some (.cells (encP a) 40), some (.cells (encP b) 40), some (.cells [I c0, I c1] 171), some (.cells [I u0, I u1] 171)], [], []⟩ k =
  (k EX.normal ([AV.fn (Fn.yield y) [] [], X, AV.ptr 6 0, AV.vs pl 120 Tok.none, X, AV.ptr 7 0, X, AV.ptr 8 0, X, AV.ptr 9 0, X, AV.ptr 10 0, X, X, X, X, X, AV.vs pl 120 Tok.none, I (120 : Int), I i, X, X, X, AV.vs pl 120 Tok.none, I (120 : Int), I j, X, X, X, AV.agg [I (0 : Int), I (1 : Int), I (0 : Int), I (0 : Int), I (1 : Int), I (0 : Int)], I c, X, X, AV.agg [I (0 : Int), I (1 : Int), I (0 : Int), I (0 : Int), I (1 : Int), I (0 : Int)], I t, X, X, AV.ptr 9 0, I c0, AV.ptr 9 1, I c1, AV.ptr 10 0, I u0, AV.ptr 10 1, I u1, AV.ptr 7 5, AV.ptr 8 5, AV.ptr 7 6, AV.ptr 8 6] ++ List.replicate 9 X) (St.mk [h0, h1, h2, h3, h4, h5, some (HB.cells [I (0 : Int), I (1 : Int), I (0 : Int), I (0 : Int), I (1 : Int), I (0 : Int)] 172), some (HB.cells [I a.cl, I a.vi, Bo a.ho, Bo a.de, Bo a.mo, I c0, I u0] 40), some (HB.cells [I b.cl, I b.vi, Bo b.ho, Bo b.de, Bo b.mo, I c1, I u1] 40), some (HB.cells [I c0, I c1] 171), some (HB.cells [I u0, I u1] 171)] [] [8, 7])) := by kernel_rfl
theorem y6_16 (pl : List AV) (y : Nat) (h0 h1 h2 h3 h4 h5 : Option HB) (i j c t c0 c1 : Int) (a b : Prf) (k : Kont) : wpC (Tryz.X127_6 pl) (cd PP 127 [1, 1, 1, 0, 0, 1, 1, 0, 0, 1, 1, 0, 0, 1, 1, 0, 0, 1, 1, 0, 0, 1, 1, 0, 0, 1, 1, 0, 0, 1, 1, 1]) ([.fn (.yield y) [] [], X, .ptr 6 0, .vs pl 120 .none, X, .ptr 7 0, X, .ptr 8 0, X, .ptr 9 0, X, X, X, X, X, X, X, .vs pl 120 .none, I 120, I i, X, X, X, .vs pl 120 .none, I 120, I j, X, X, X, .agg [I 0, I 1, I 0, I 0, I 1, I 0], I c, X, X, .agg [I 0, I 1, I 0, I 0, I 1, I 0], I t] ++ List.replicate 23 X) ⟨[h0, h1, h2, h3, h4, h5, some (.cells [I 0, I 1, I 0, I 0, I 1, I 0] 172), some (.cells (encP a) 40), some (.cells (encP b) 40), some (.cells [I c0, I c1] 171)], [], []⟩ k =
  (k EX.normal [AV.fn (Fn.yield y) [] [], X, AV.ptr 6 0, AV.vs pl 120 Tok.none, X, AV.ptr 7 0, X, AV.ptr 8 0, X, AV.ptr 9 0, X, X, X, X, X, X, X, AV.vs pl 120 Tok.none, I (120 : Int), I i, X, X, X, AV.vs pl 120 Tok.none, I (120 : Int), I j, X, X, X, AV.agg [I (0 : Int), I (1 : Int), I (0 : Int), I (0 : Int), I (1 : Int), I (0 : Int)], I c, X, X, AV.agg [I (0 : Int), I (1 : Int), I (0 : Int), I (0 : Int), I (1 : Int), I (0 : Int)], I (IntKind.i64.wrap (t + (1 : Int))), X, X, X, X, X, X, X, X, X, X, X, X, X, X, X, X, X, X, X, I (IntKind.i64.wrap (t + (1 : Int))), X, X, X] (St.mk [h0, h1, h2, h3, h4, h5, some (HB.cells [I (0 : Int), I (1 : Int), I (0 : Int), I (0 : Int), I (1 : Int), I (0 : Int)] 172), some (HB.cells (encP a) 40), some (HB.cells (encP b) 40), some (HB.cells [I c0, I c1] 171)] [] [])) := by kernel_rfl
theorem y6_17 (pl : List AV) (y : Nat) (h0 h1 h2 h3 h4 h5 : Option HB) (i j c : Int) (a b : Prf) (k : Kont) : wpC (Tryz.X127_6 pl) (cd PP 127 [1, 1, 1, 0, 0, 1, 1, 0, 0, 1, 1, 0, 0, 1, 1, 0, 0, 1, 1, 0, 0, 1, 1, 1]) ([.fn (.yield y) [] [], X, .ptr 6 0, .vs pl 120 .none, X, .ptr 7 0, X, .ptr 8 0, X, X, X, X, X, X, X, X, X, .vs pl 120 .none, I 120, I i, X, X, X, .vs pl 120 .none, I 120, I j, X, X, X, .agg [I 0, I 1, I 0, I 0, I 1, I 0], I c] ++ List.replicate 27 X) ⟨[h0, h1, h2, h3, h4, h5, some (.cells [I 0, I 1, I 0, I 0, I 1, I 0] 172), some (.cells (encP a) 40), some (.cells (encP b) 40)], [], []⟩ k =
  (k EX.normal [AV.fn (Fn.yield y) [] [], X, AV.ptr 6 0, AV.vs pl 120 Tok.none, X, AV.ptr 7 0, X, AV.ptr 8 0, X, X, X, X, X, X, X, X, X, AV.vs pl 120 Tok.none, I (120 : Int), I i, X, X, X, AV.vs pl 120 Tok.none, I (120 : Int), I j, X, X, X, AV.agg [I (0 : Int), I (1 : Int), I (0 : Int), I (0 : Int), I (1 : Int), I (0 : Int)], I (IntKind.i64.wrap (c + (1 : Int))), X, X, X, X, X, X, X, X, X, X, X, X, X, X, X, X, X, X, X, X, X, X, X, X, I (IntKind.i64.wrap (c + (1 : Int))), X, X] (St.mk [h0, h1, h2, h3, h4, h5, some (HB.cells [I (0 : Int), I (1 : Int), I (0 : Int), I (0 : Int), I (1 : Int), I (0 : Int)] 172), some (HB.cells (encP a) 40), some (HB.cells (encP b) 40)] [] [])) := by kernel_rfl
theorem y6_18 (pl : List AV) (y : Nat) (h0 h1 h2 h3 h4 h5 : Option HB) (i j : Int) (a : Prf) (k : Kont) : wpC (Tryz.X127_6 pl) (cd PP 127 [1, 1, 1, 0, 0, 1, 1, 0, 0, 1, 1, 0, 0, 1, 1, 1]) ([.fn (.yield y) [] [], X, .ptr 6 0, .vs pl 120 .none, X, .ptr 7 0, X, X, X, X, X, X, X, X, X, X, X, .vs pl 120 .none, I 120, I i, X, X, X, .vs pl 120 .none, I 120, I j] ++ List.replicate 32 X) ⟨[h0, h1, h2, h3, h4, h5, some (.cells [I 0, I 1, I 0, I 0, I 1, I 0] 172), some (.cells (encP a) 40)], [], []⟩ k =
  (k EX.normal [AV.fn (Fn.yield y) [] [], X, AV.ptr 6 0, AV.vs pl 120 Tok.none, X, AV.ptr 7 0, X, X, X, X, X, X, X, X, X, X, X, AV.vs pl 120 Tok.none, I (120 : Int), I i, X, X, X, AV.vs pl 120 Tok.none, I (120 : Int), I (IntKind.i64.wrap (j + (1 : Int))), X, X, X, X, X, X, X, X, X, X, X, X, X, X, X, X, X, X, X, X, X, X, X, X, X, X, X, X, X, X, I (IntKind.i64.wrap (j + (1 : Int))), X] (St.mk [h0, h1, h2, h3, h4, h5, some (HB.cells [I (0 : Int), I (1 : Int), I (0 : Int), I (0 : Int), I (1 : Int), I (0 : Int)] 172), some (HB.cells (encP a) 40)] [] [])) := by kernel_rfl
theorem y6_19 (pl : List AV) (y : Nat) (h0 h1 h2 h3 h4 h5 : Option HB) (i : Int) (k : Kont) : wpC (Tryz.X127_6 pl) (cd PP 127 [1, 1, 1, 0, 0, 1, 1, 1]) ([.fn (.yield y) [] [], X, .ptr 6 0, .vs pl 120 .none, X, X, X, X, X, X, X, X, X, X, X, X, X, .vs pl 120 .none, I 120, I i] ++ List.replicate 38 X) ⟨[h0, h1, h2, h3, h4, h5, some (.cells [I 0, I 1, I 0, I 0, I 1, I 0] 172)], [], []⟩ k =
  (k EX.normal [AV.fn (Fn.yield y) [] [], X, AV.ptr 6 0, AV.vs pl 120 Tok.none, X, X, X, X, X, X, X, X, X, X, X, X, X, AV.vs pl 120 Tok.none, I (120 : Int), I (IntKind.i64.wrap (i + (1 : Int))), X, X, X, X, X, X, X, X, X, X, X, X, X, X, X, X, X, X, X, X, X, X, X, X, X, X, X, X, X, X, X, X, X, X, X, X, X, I (IntKind.i64.wrap (i + (1 : Int)))] (St.mk [h0, h1, h2, h3, h4, h5, some (HB.cells [I (0 : Int), I (1 : Int), I (0 : Int), I (0 : Int), I (1 : Int), I (0 : Int)] 172)] [] [])) := by kernel_rfl
end Go.Proofs
/-! CY6 -/
set_option maxRecDepth 100000
set_option linter.unusedVariables false
namespace Go.Proofs
open Go Go.Ev
section
noncomputable abbrev yX6 : WCx := Tryz.X127_6 yP
theorem yc6 : Cts Tryz.B [(38, RPl yP)] := (Cts.nil _).cons ct38
theorem yo6 : (yX6).Ones := wcxP_ones Tryz.bok yc6
theorem yk6 : CxOk (yX6).cx := wcxP_ok Tryz.bok yc6
abbrev yE16 (y : Nat) (i : Int) : Env := ([.fn (.yield y) [] [], X, .ptr 6 0, .vs yP 120 .none, X, X, X, X, X, X, X, X, X, X, X, X, X, .vs yP 120 .none, I 120, I i] ++ List.replicate 38 X)
abbrev yE26 (y : Nat) (i j : Int) : Env := ([.fn (.yield y) [] [], X, .ptr 6 0, .vs yP 120 .none, X, .ptr 7 0, X, X, X, X, X, X, X, X, X, X, X, .vs yP 120 .none, I 120, I i, X, X, X, .vs yP 120 .none, I 120, I j] ++ List.replicate 32 X)
abbrev yE36 (y : Nat) (i j c : Int) : Env := ([.fn (.yield y) [] [], X, .ptr 6 0, .vs yP 120 .none, X, .ptr 7 0, X, .ptr 8 0, X, X, X, X, X, X, X, X, X, .vs yP 120 .none, I 120, I i, X, X, X, .vs yP 120 .none, I 120, I j, X, X, X, .agg [I 0, I 1, I 0, I 0, I 1, I 0], I c] ++ List.replicate 27 X)
abbrev yE46 (y : Nat) (i j c t : Int) : Env := ([.fn (.yield y) [] [], X, .ptr 6 0, .vs yP 120 .none, X, .ptr 7 0, X, .ptr 8 0, X, .ptr 9 0, X, X, X, X, X, X, X, .vs yP 120 .none, I 120, I i, X, X, X, .vs yP 120 .none, I 120, I j, X, X, X, .agg [I 0, I 1, I 0, I 0, I 1, I 0], I c, X, X, .agg [I 0, I 1, I 0, I 0, I 1, I 0], I t] ++ List.replicate 23 X)
abbrev yE1p6 (y : Nat) (i : Int) : Env := ([.fn (.yield y) [] [], X, .ptr 6 0, .vs yP 120 .none, X, .ptr 7 0, X, X, X, X, X, X, X, X, X, X, X, .vs yP 120 .none, I 120, I i] ++ List.replicate 38 X)
abbrev yE2p6 (y : Nat) (i j : Int) : Env := ([.fn (.yield y) [] [], X, .ptr 6 0, .vs yP 120 .none, X, .ptr 7 0, X, .ptr 8 0, X, X, X, X, X, X, X, X, X, .vs yP 120 .none, I 120, I i, X, X, X, .vs yP 120 .none, I 120, I j] ++ List.replicate 32 X)
abbrev yE3p6 (y : Nat) (i j c : Int) : Env := ([.fn (.yield y) [] [], X, .ptr 6 0, .vs yP 120 .none, X, .ptr 7 0, X, .ptr 8 0, X, .ptr 9 0, X, X, X, X, X, X, X, .vs yP 120 .none, I 120, I i, X, X, X, .vs yP 120 .none, I 120, I j, X, X, X, .agg [I 0, I 1, I 0, I 0, I 1, I 0], I c] ++ List.replicate 27 X)
abbrev yE4p6 (y : Nat) (i j c t : Int) : Env := ([.fn (.yield y) [] [], X, .ptr 6 0, .vs yP 120 .none, X, .ptr 7 0, X, .ptr 8 0, X, .ptr 9 0, X, .ptr 10 0, X, X, X, X, X, .vs yP 120 .none, I 120, I i, X, X, X, .vs yP 120 .none, I 120, I j, X, X, X, .agg [I 0, I 1, I 0, I 0, I 1, I 0], I c, X, X, .agg [I 0, I 1, I 0, I 0, I 1, I 0], I t] ++ List.replicate 23 X)
abbrev yS16 (h0 h1 h2 h3 h4 h5 : Option HB) : St := ⟨[h0, h1, h2, h3, h4, h5, some (.cells [I 0, I 1, I 0, I 0, I 1, I 0] 172)], [], []⟩
abbrev yS26 (h0 h1 h2 h3 h4 h5 : Option HB) (a : Prf) : St := ⟨[h0, h1, h2, h3, h4, h5, some (.cells [I 0, I 1, I 0, I 0, I 1, I 0] 172), some (.cells (encP a) 40)], [], []⟩
abbrev yS36 (h0 h1 h2 h3 h4 h5 : Option HB) (a b : Prf) : St := ⟨[h0, h1, h2, h3, h4, h5, some (.cells [I 0, I 1, I 0, I 0, I 1, I 0] 172), some (.cells (encP a) 40), some (.cells (encP b) 40)], [], []⟩
abbrev yS46 (h0 h1 h2 h3 h4 h5 : Option HB) (a b : Prf) (c0 c1 : Int) : St := ⟨[h0, h1, h2, h3, h4, h5, some (.cells [I 0, I 1, I 0, I 0, I 1, I 0] 172), some (.cells (encP a) 40), some (.cells (encP b) 40), some (.cells [I c0, I c1] 171)], [], []⟩
abbrev yS56 (h0 h1 h2 h3 h4 h5 : Option HB) (a b : Prf) (c0 c1 u0 u1 : Int) : St := ⟨[h0, h1, h2, h3, h4, h5, some (.cells [I 0, I 1, I 0, I 0, I 1, I 0] 172), some (.cells (encP a) 40), some (.cells (encP b) 40), some (.cells [I c0, I c1] 171), some (.cells [I u0, I u1] 171)], [], []⟩
theorem yh6 {hs : List (Option HB)} (h : HsOk 6 hs) : ∃ h0 h1 h2 h3 h4 h5 : Option HB, hs = [h0, h1, h2, h3, h4, h5] := by
  have h1 := h.len
  match hs, h1 with
  | [h0, h1, h2, h3, h4, h5], _ => exact ⟨h0, h1, h2, h3, h4, h5, rfl⟩
theorem yb6 {h0 h1 h2 h3 h4 h5 : Option HB} (h : HsOk 6 [h0, h1, h2, h3, h4, h5]) {m : Nat} (hm : 6 ≤ m) {l : List (Option HB)} (hl : l.all (okBlk m) = true) : ([h0, h1, h2, h3, h4, h5] ++ l).all (okBlk m) = true := by
  rw [List.all_append, h.blk hm, hl]; rfl
theorem y15_6 (y : Nat) (Y : Yk) (h0 h1 h2 h3 h4 h5 : Option HB) (i j c t c0 c1 u0 u1 : Int) (a b : Prf) (k : KontR) : wpOpsY (yX6) Y y (opsOf (cd PP 127 [1, 1, 1, 0, 0, 1, 1, 0, 0, 1, 1, 0, 0, 1, 1, 0, 0, 1, 1, 0, 0, 1, 1, 0, 0, 1, 1, 0, 0, 1, 1, 0, 0, 1, 1, 0])).toList (yE46 y i j c t) (yS56 h0 h1 h2 h3 h4 h5 a b c0 c1 u0 u1) ⟨none, 0⟩ k =
    (y = y ∧ Y [.agg (encP a), .agg (encP b)] (yS56 h0 h1 h2 h3 h4 h5 a b c0 c1 u0 u1) ⟨none, 0⟩ fun r S' z' => k .normal ([.fn (.yield y) [] [], X, .ptr 6 0, .vs yP 120 .none, X, .ptr 7 0, X, .ptr 8 0, X, .ptr 9 0, X, X, X, X, X, X, X, .vs yP 120 .none, I 120, I i, X, X, X, .vs yP 120 .none, I 120, I j, X, X, X, .agg [I 0, I 1, I 0, I 0, I 1, I 0], I c, X, X, .agg [I 0, I 1, I 0, I 0, I 1, I 0], I t, X, X, X, X, X, X, X, X, X, X, X, X, X, X, .fn (.yield y) [] [], .agg (encP a), .agg (encP b), .bool r, .bool (!r)] ++ List.replicate 4 X) S' z') := by kernel_rfl
theorem r13_6 {y : Nat} {i j c : Int} {t : Nat} (ht : t < 3) {c0 c1 : Int} {a b : Prf} {h0 h1 h2 h3 h4 h5 : Option HB} {k : Kont}
    (h : k .normal ([.fn (.yield y) [] [], X, .ptr 6 0, .vs yP 120 .none, X, .ptr 7 0, X, .ptr 8 0, X, .ptr 9 0, X, .ptr 10 0, X, X, X, X, X, .vs yP 120 .none, I 120, I i, X, X, X, .vs yP 120 .none, I 120, I j, X, X, X, .agg [I 0, I 1, I 0, I 0, I 1, I 0], I c, X, X, .agg [I 0, I 1, I 0, I 0, I 1, I 0], I (t : Int), X, .agg [I (wy t).1, I (wy t).2]] ++ List.replicate 21 X) ⟨[h0, h1, h2, h3, h4, h5, some (.cells [I 0, I 1, I 0, I 0, I 1, I 0] 172), some (.cells (encP a) 40), some (.cells (encP b) 40), some (.cells [I c0, I c1] 171), some (.cells [I (wy t).1, I (wy t).2] 171)], [], [10]⟩) : wpC (yX6) (cd PP 127 [1, 1, 1, 0, 0, 1, 1, 0, 0, 1, 1, 0, 0, 1, 1, 0, 0, 1, 1, 0, 0, 1, 1, 0, 0, 1, 1, 0, 0, 1, 1, 0, 0, 0]) (yE46 y i j c (t : Int)) (yS46 h0 h1 h2 h3 h4 h5 a b c0 c1) k := by
  match t, ht, h with
  | 0, _, h => exact (y6_13_0 yP y h0 h1 h2 h3 h4 h5 i j c c0 c1 a b k).mpr h
  | 1, _, h => exact (y6_13_1 yP y h0 h1 h2 h3 h4 h5 i j c c0 c1 a b k).mpr h
  | 2, _, h => exact (y6_13_2 yP y h0 h1 h2 h3 h4 h5 i j c c0 c1 a b k).mpr h
theorem r10_6 {y : Nat} {i j : Int} {t : Nat} (ht : t < 3) {a b : Prf} {h0 h1 h2 h3 h4 h5 : Option HB} {k : Kont}
    (h : k .normal ([.fn (.yield y) [] [], X, .ptr 6 0, .vs yP 120 .none, X, .ptr 7 0, X, .ptr 8 0, X, .ptr 9 0, X, X, X, X, X, X, X, .vs yP 120 .none, I 120, I i, X, X, X, .vs yP 120 .none, I 120, I j, X, X, X, .agg [I 0, I 1, I 0, I 0, I 1, I 0], I (t : Int), X, .agg [I (wy t).1, I (wy t).2]] ++ List.replicate 25 X) ⟨[h0, h1, h2, h3, h4, h5, some (.cells [I 0, I 1, I 0, I 0, I 1, I 0] 172), some (.cells (encP a) 40), some (.cells (encP b) 40), some (.cells [I (wy t).1, I (wy t).2] 171)], [], [9]⟩) : wpC (yX6) (cd PP 127 [1, 1, 1, 0, 0, 1, 1, 0, 0, 1, 1, 0, 0, 1, 1, 0, 0, 1, 1, 0, 0, 1, 1, 0, 0, 0]) (yE36 y i j (t : Int)) (yS36 h0 h1 h2 h3 h4 h5 a b) k := by
  match t, ht, h with
  | 0, _, h => exact (y6_10_0 yP y h0 h1 h2 h3 h4 h5 i j a b k).mpr h
  | 1, _, h => exact (y6_10_1 yP y h0 h1 h2 h3 h4 h5 i j a b k).mpr h
  | 2, _, h => exact (y6_10_2 yP y h0 h1 h2 h3 h4 h5 i j a b k).mpr h
section
variable {Rd : Rnd} {y : Nat} {jE : Option Code} {hsE : List (Option HB)} {k : KontR} (hstop : ∀ jc e s, s.hs.take 6 = hsE → jE = some jc → k .ret e s ⟨some jc, 0⟩)
include hstop
theorem lY4_6 (a b : Prf) (cc : Int × Int) (i j c : Int) (rest : List (List AV))
    (hend : ∀ (x1 x2 x3 x4 t : Int) (r : Bool) (g0 g1 g2 g3 g4 g5 : Option HB), HsOk 6 [g0, g1, g2, g3, g4, g5] → runI 6 Rd rest [g0, g1, g2, g3, g4, g5] jE hsE → k (.exit 6) ([.fn (.yield y) [] [], X, .ptr 6 0, .vs yP 120 .none, X, .ptr 7 0, X, .ptr 8 0, X, .ptr 9 0, X, X, X, X, X, X, X, .vs yP 120 .none, I 120, I i, X, X, X, .vs yP 120 .none, I 120, I j, X, X, X, .agg [I 0, I 1, I 0, I 0, I 1, I 0], I c, X, X, .agg [I 0, I 1, I 0, I 0, I 1, I 0], I t, Bo r] ++ List.replicate 22 X) (yS46 g0 g1 g2 g3 g4 g5 (pw a x1 x2) (pw b x3 x4) cc.1 cc.2) ⟨none, 0⟩) :
    ∀ (d t : Nat) (x1 x2 x3 x4 : Int) (h0 h1 h2 h3 h4 h5 : Option HB), 3 - t = d → t ≤ 3 → HsOk 6 [h0, h1, h2, h3, h4, h5] → runI 6 Rd ((wys.drop t).map (itm a b cc) ++ rest) [h0, h1, h2, h3, h4, h5] jE hsE →
    LR (yX6).pc 6 (some y) (Yw 6 Rd) (d + 1) (cd PP 127 [1, 1, 1, 0, 0, 1, 1, 0, 0, 1, 1, 0, 0, 1, 1, 0, 0, 1, 1, 0, 0, 1, 1, 0, 0, 1, 1, 0, 0]) (yE46 y i j c (t : Int)) (yS46 h0 h1 h2 h3 h4 h5 (pw a x1 x2) (pw b x3 x4) cc.1 cc.2) ⟨none, 0⟩ k := by
  intro d
  induction d with
  | zero =>
    intro t x1 x2 x3 x4 h0 h1 h2 h3 h4 h5 hd ht hh hrun
    have ht' : t = 3 := by omega
    subst ht'
    refine LR.step ?_
    rw [q127_11100110011001100110011001100]
    refine RW.seq (RW.of_wpC yo6 yk6 rfl ?_)
    rw [y6_12]
    show RW (yX6).pc 6 (some y) (Yw 6 Rd) (cd PP 127 [1, 1, 1, 0, 0, 1, 1, 0, 0, 1, 1, 0, 0, 1, 1, 0, 0, 1, 1, 0, 0, 1, 1, 0, 0, 1, 1, 0, 0, 1]) _ _ _ _
    rw [q127_111001100110011001100110011001, q127_1110011001100110011001100110010, q127_11100110011001100110011001100100, q127_11100110011001100110011001100101]
    exact RW.seq (RW.cond (t := false) rfl (RW.exit (hend x1 x2 x3 x4 _ _ h0 h1 h2 h3 h4 h5 hh hrun)))
  | succ d ih =>
    intro t x1 x2 x3 x4 h0 h1 h2 h3 h4 h5 hd ht hh hrun
    have hlt : t < 3 := by omega
    rw [wys_drop hlt] at hrun
    obtain ⟨j1, hs1, hR, hh1, hrest⟩ := hrun
    refine LR.step ?_
    rw [q127_11100110011001100110011001100]
    refine RW.seq (RW.of_wpC yo6 yk6 rfl ?_)
    rw [y6_12]
    show RW (yX6).pc 6 (some y) (Yw 6 Rd) (cd PP 127 [1, 1, 1, 0, 0, 1, 1, 0, 0, 1, 1, 0, 0, 1, 1, 0, 0, 1, 1, 0, 0, 1, 1, 0, 0, 1, 1, 0, 0, 1]) _ _ _ _
    rw [q127_111001100110011001100110011001, q127_1110011001100110011001100110010, q127_11100110011001100110011001100100]
    refine RW.seq (RW.cond (t := true) (congrArg AV.bool (decide_eq_true (by omega))) (RW.skip ?_))
    show RW (yX6).pc 6 (some y) (Yw 6 Rd) (cd PP 127 [1, 1, 1, 0, 0, 1, 1, 0, 0, 1, 1, 0, 0, 1, 1, 0, 0, 1, 1, 0, 0, 1, 1, 0, 0, 1, 1, 0, 0, 1, 1]) _ _ _ _
    rw [q127_1110011001100110011001100110011, q127_11100110011001100110011001100110, q127_111001100110011001100110011001100]
    refine RW.seq (RW.block (RW.seq (RW.mask' [0, 2, 3, 5, 7, 9, 17, 18, 19, 23, 24, 25, 29, 30, 33, 34] (env' := yE46 y i j c (t : Int)) (by kernel_rfl) (RW.of_wpC yo6 yk6 rfl ?_))))
    refine r13_6 (by omega) ?_
    show RW (yX6).pc 6 (some y) (Yw 6 Rd) (cd PP 127 [1, 1, 1, 0, 0, 1, 1, 0, 0, 1, 1, 0, 0, 1, 1, 0, 0, 1, 1, 0, 0, 1, 1, 0, 0, 1, 1, 0, 0, 1, 1, 0, 0, 1]) _ _ _ _
    rw [q127_1110011001100110011001100110011001]
    refine RW.seq (RW.mask' [0, 2, 3, 5, 7, 9, 11, 17, 18, 19, 23, 24, 25, 29, 30, 33, 34] (env' := yE4p6 y i j c (t : Int)) (by kernel_rfl) (RW.wl (RW.of_wpC yo6 yk6 rfl ?_)))
    rw [y6_14]
    show RW (yX6).pc 6 (some y) (Yw 6 Rd) (cd PP 127 [1, 1, 1, 0, 0, 1, 1, 0, 0, 1, 1, 0, 0, 1, 1, 0, 0, 1, 1, 0, 0, 1, 1, 0, 0, 1, 1, 0, 0, 1, 1, 0, 0, 1, 1]) _ _ _ _
    rw [q127_11100110011001100110011001100110011]
    refine RW.seq (RW.mask' [0, 2, 3, 5, 7, 9, 17, 18, 19, 23, 24, 25, 29, 30, 33, 34] (env' := yE46 y i j c (t : Int)) (by kernel_rfl) (RW.wl ?_))
    rw [q127_111001100110011001100110011001100110]
    refine RW.regionY yo6 yk6 ?_
    rw [show (St.mk [h0, h1, h2, h3, h4, h5, some (HB.cells [I (0 : Int), I (1 : Int), I (0 : Int), I (0 : Int), I (1 : Int), I (0 : Int)] 172), some (HB.cells [I (pw a x1 x2).cl, I (pw a x1 x2).vi, Bo (pw a x1 x2).ho, Bo (pw a x1 x2).de, Bo (pw a x1 x2).mo, I cc.1, I (wy t).1] 40), some (HB.cells [I (pw b x3 x4).cl, I (pw b x3 x4).vi, Bo (pw b x3 x4).ho, Bo (pw b x3 x4).de, Bo (pw b x3 x4).mo, I cc.2, I (wy t).2] 40), some (HB.cells [I cc.1, I cc.2] 171), some (HB.cells [I (wy t).1, I (wy t).2] 171)] [] []) = yS56 h0 h1 h2 h3 h4 h5 (pw a cc.1 (wy t).1) (pw b cc.2 (wy t).2) cc.1 cc.2 (wy t).1 (wy t).2 from rfl, y15_6]
    refine ⟨rfl, rfl, by simp [noHL, noH, noH_encP], by simp [scrubL, scrub, sc_encP], by simp, hh, j1, hs1, hR, hh1, ?_⟩
    obtain ⟨g0, g1, g2, g3, g4, g5, rfl⟩ := yh6 hh1
    show RW (yX6).pc 6 (some y) (Yw 6 Rd) (cd PP 127 [1, 1, 1, 0, 0, 1, 1, 0, 0, 1, 1, 0, 0, 1, 1, 0, 0, 1, 1, 0, 0, 1, 1, 0, 0, 1, 1, 0, 0, 1, 1, 0, 0, 1, 1, 1]) _ _ _ _
    rw [q127_111001100110011001100110011001100111]
    cases j1 with
    | some jc =>
      obtain ⟨e1, e2⟩ := hrest
      refine RW.cond (t := true) rfl ?_
      rw [if_pos rfl, q127_1110011001100110011001100110011001110]
      exact RW.ret (hstop jc _ _ (by rw [e2]; rfl) e1)
    | none =>
      refine RW.cond (t := false) rfl ?_
      rw [if_neg (by simp), q127_1110011001100110011001100110011001111]
      refine RW.skip ?_
      show RW (yX6).pc 6 (some y) (Yw 6 Rd) (cd PP 127 [1, 1, 1, 0, 0, 1, 1, 0, 0, 1, 1, 0, 0, 1, 1, 0, 0, 1, 1, 0, 0, 1, 1, 0, 0, 1, 1, 0, 0, 1, 1, 1]) _ _ _ _
      refine RW.mask' [0, 2, 3, 5, 7, 9, 17, 18, 19, 23, 24, 25, 29, 30, 33, 34] (env' := yE46 y i j c (t : Int)) (by kernel_rfl) ?_
      refine RW.keep 10 (by omega) (by simp [noHL, noH, noHL_append, noHL_rep, noH_encPs]) (yb6 hh1 (m := 10) (by omega) (by simp [okBlk, noHB, noHL, noH]; exact ⟨rfl, rfl⟩)) ?_
      show RW (yX6).pc 6 (some y) (Yw 6 Rd) _ _ (yS46 g0 g1 g2 g3 g4 g5 (pw a cc.1 (wy t).1) (pw b cc.2 (wy t).2) cc.1 cc.2) _ _
      refine RW.of_wpC yo6 yk6 rfl ?_
      rw [y6_16]
      show LR (yX6).pc 6 (some y) (Yw 6 Rd) _ _ _ _ _ _
      rw [wrap_id (x := (t : Int) + 1) (by omega) (by omega)]
      exact LR.mask' [0, 2, 3, 5, 7, 9, 17, 18, 19, 23, 24, 25, 29, 30, 33, 34] (env' := yE46 y i j c ((t + 1 : Nat) : Int)) (by kernel_rfl) (ih (t + 1) _ _ _ _ g0 g1 g2 g3 g4 g5 (by omega) (by omega) hh1 hrest)
theorem lY3_6 (a b : Prf) (i j : Int) (rest : List (List AV))
    (hend : ∀ (x1 x2 x3 x4 t : Int) (r : Bool) (g0 g1 g2 g3 g4 g5 : Option HB), HsOk 6 [g0, g1, g2, g3, g4, g5] → runI 6 Rd rest [g0, g1, g2, g3, g4, g5] jE hsE → k (.exit 4) ([.fn (.yield y) [] [], X, .ptr 6 0, .vs yP 120 .none, X, .ptr 7 0, X, .ptr 8 0, X, X, X, X, X, X, X, X, X, .vs yP 120 .none, I 120, I i, X, X, X, .vs yP 120 .none, I 120, I j, X, X, X, .agg [I 0, I 1, I 0, I 0, I 1, I 0], I t, Bo r] ++ List.replicate 26 X) (yS36 g0 g1 g2 g3 g4 g5 (pw a x1 x2) (pw b x3 x4)) ⟨none, 0⟩) :
    ∀ (d t : Nat) (x1 x2 x3 x4 : Int) (h0 h1 h2 h3 h4 h5 : Option HB), 3 - t = d → t ≤ 3 → HsOk 6 [h0, h1, h2, h3, h4, h5] → runI 6 Rd ((wys.drop t).flatMap (itT a b) ++ rest) [h0, h1, h2, h3, h4, h5] jE hsE →
    LR (yX6).pc 6 (some y) (Yw 6 Rd) (d + 1) (cd PP 127 [1, 1, 1, 0, 0, 1, 1, 0, 0, 1, 1, 0, 0, 1, 1, 0, 0, 1, 1, 0, 0]) (yE36 y i j (t : Int)) (yS36 h0 h1 h2 h3 h4 h5 (pw a x1 x2) (pw b x3 x4)) ⟨none, 0⟩ k := by
  intro d
  induction d with
  | zero =>
    intro t x1 x2 x3 x4 h0 h1 h2 h3 h4 h5 hd ht hh hrun
    have ht' : t = 3 := by omega
    subst ht'
    refine LR.step ?_
    rw [q127_111001100110011001100]
    refine RW.seq (RW.of_wpC yo6 yk6 rfl ?_)
    rw [y6_9]
    show RW (yX6).pc 6 (some y) (Yw 6 Rd) (cd PP 127 [1, 1, 1, 0, 0, 1, 1, 0, 0, 1, 1, 0, 0, 1, 1, 0, 0, 1, 1, 0, 0, 1]) _ _ _ _
    rw [q127_1110011001100110011001, q127_11100110011001100110010, q127_111001100110011001100100, q127_111001100110011001100101]
    exact RW.seq (RW.cond (t := false) rfl (RW.exit (hend x1 x2 x3 x4 _ _ h0 h1 h2 h3 h4 h5 hh hrun)))
  | succ d ih =>
    intro t x1 x2 x3 x4 h0 h1 h2 h3 h4 h5 hd ht hh hrun
    have hlt : t < 3 := by omega
    rw [wys_drop hlt, List.flatMap_cons, List.append_assoc] at hrun
    refine LR.step ?_
    rw [q127_111001100110011001100]
    refine RW.seq (RW.of_wpC yo6 yk6 rfl ?_)
    rw [y6_9]
    show RW (yX6).pc 6 (some y) (Yw 6 Rd) (cd PP 127 [1, 1, 1, 0, 0, 1, 1, 0, 0, 1, 1, 0, 0, 1, 1, 0, 0, 1, 1, 0, 0, 1]) _ _ _ _
    rw [q127_1110011001100110011001, q127_11100110011001100110010, q127_111001100110011001100100]
    refine RW.seq (RW.cond (t := true) (congrArg AV.bool (decide_eq_true (by omega))) (RW.skip ?_))
    show RW (yX6).pc 6 (some y) (Yw 6 Rd) (cd PP 127 [1, 1, 1, 0, 0, 1, 1, 0, 0, 1, 1, 0, 0, 1, 1, 0, 0, 1, 1, 0, 0, 1, 1]) _ _ _ _
    rw [q127_11100110011001100110011, q127_111001100110011001100110, q127_1110011001100110011001100]
    refine RW.seq (RW.block (RW.seq (RW.mask' [0, 2, 3, 5, 7, 17, 18, 19, 23, 24, 25, 29, 30] (env' := yE36 y i j (t : Int)) (by kernel_rfl) (RW.of_wpC yo6 yk6 rfl ?_))))
    refine r10_6 hlt ?_
    show RW (yX6).pc 6 (some y) (Yw 6 Rd) (cd PP 127 [1, 1, 1, 0, 0, 1, 1, 0, 0, 1, 1, 0, 0, 1, 1, 0, 0, 1, 1, 0, 0, 1, 1, 0, 0, 1]) _ _ _ _
    rw [q127_11100110011001100110011001]
    refine RW.seq (RW.mask' [0, 2, 3, 5, 7, 9, 17, 18, 19, 23, 24, 25, 29, 30] (env' := yE3p6 y i j (t : Int)) (by kernel_rfl) (RW.wl (RW.of_wpC yo6 yk6 rfl ?_)))
    rw [y6_11]
    show RW (yX6).pc 6 (some y) (Yw 6 Rd) (cd PP 127 [1, 1, 1, 0, 0, 1, 1, 0, 0, 1, 1, 0, 0, 1, 1, 0, 0, 1, 1, 0, 0, 1, 1, 0, 0, 1, 1]) _ _ _ _
    rw [q127_111001100110011001100110011, q127_1110011001100110011001100110]
    refine RW.block (RW.loop (m := 4) ?_)
    refine lY4_6 (Rd := Rd) (y := y) (jE := jE) (hsE := hsE) ?hst a b (wy t) i j (t : Int) ((wys.drop (t + 1)).flatMap (itT a b) ++ rest) ?hen 3 0 x1 x2 x3 x4 h0 h1 h2 h3 h4 h5 (by omega) (by omega) hh hrun
    case hst => exact fun jc e s h1 h2 => hstop jc e s h1 h2
    intro x1 x2 x3 x4 t' r g0 g1 g2 g3 g4 g5 hh2 hr2
    show RW (yX6).pc 6 (some y) (Yw 6 Rd) (cd PP 127 [1, 1, 1, 0, 0, 1, 1, 0, 0, 1, 1, 0, 0, 1, 1, 0, 0, 1, 1, 0, 0, 1, 1, 1]) _ _ _ _
    refine RW.mask' [0, 2, 3, 5, 7, 17, 18, 19, 23, 24, 25, 29, 30] (env' := yE36 y i j (t : Int)) (by kernel_rfl) ?_
    refine RW.keep 9 (by omega) (by simp [noHL, noH, noHL_append, noHL_rep, noH_encPs]) (yb6 hh2 (m := 9) (by omega) (by simp [okBlk, noHB, noHL, noH]; exact ⟨rfl, rfl⟩)) ?_
    show RW (yX6).pc 6 (some y) (Yw 6 Rd) _ _ (yS36 g0 g1 g2 g3 g4 g5 (pw a x1 x2) (pw b x3 x4)) _ _
    refine RW.of_wpC yo6 yk6 rfl ?_
    rw [y6_17]
    show LR (yX6).pc 6 (some y) (Yw 6 Rd) _ _ _ _ _ _
    rw [wrap_id (x := (t : Int) + 1) (by omega) (by omega)]
    exact LR.mask' [0, 2, 3, 5, 7, 17, 18, 19, 23, 24, 25, 29, 30] (env' := yE36 y i j ((t + 1 : Nat) : Int)) (by kernel_rfl) (ih (t + 1) _ _ _ _ g0 g1 g2 g3 g4 g5 (by omega) (by omega) hh2 hr2)
theorem lY2_6 (a : Prf) (i : Int) (rest : List (List AV))
    (hend : ∀ (x1 x2 t : Int) (r : Bool) (g0 g1 g2 g3 g4 g5 : Option HB), HsOk 6 [g0, g1, g2, g3, g4, g5] → runI 6 Rd rest [g0, g1, g2, g3, g4, g5] jE hsE → k (.exit 2) ([.fn (.yield y) [] [], X, .ptr 6 0, .vs yP 120 .none, X, .ptr 7 0, X, X, X, X, X, X, X, X, X, X, X, .vs yP 120 .none, I 120, I i, X, X, X, .vs yP 120 .none, I 120, I t, Bo r] ++ List.replicate 31 X) (yS26 g0 g1 g2 g3 g4 g5 (pw a x1 x2)) ⟨none, 0⟩) :
    ∀ (d t : Nat) (x1 x2 : Int) (h0 h1 h2 h3 h4 h5 : Option HB), 120 - t = d → t ≤ 120 → HsOk 6 [h0, h1, h2, h3, h4, h5] → runI 6 Rd ((profL.drop t).flatMap (itC a) ++ rest) [h0, h1, h2, h3, h4, h5] jE hsE →
    LR (yX6).pc 6 (some y) (Yw 6 Rd) (d + 1) (cd PP 127 [1, 1, 1, 0, 0, 1, 1, 0, 0, 1, 1, 0, 0]) (yE26 y i (t : Int)) (yS26 h0 h1 h2 h3 h4 h5 (pw a x1 x2)) ⟨none, 0⟩ k := by
  intro d
  induction d with
  | zero =>
    intro t x1 x2 h0 h1 h2 h3 h4 h5 hd ht hh hrun
    have ht' : t = 120 := by omega
    subst ht'
    rw [List.drop_eq_nil_of_le (by rw [profL_len]; omega)] at hrun
    refine LR.step ?_
    rw [q127_1110011001100]
    refine RW.seq (RW.of_wpC yo6 yk6 rfl ?_)
    rw [y6_6]
    show RW (yX6).pc 6 (some y) (Yw 6 Rd) (cd PP 127 [1, 1, 1, 0, 0, 1, 1, 0, 0, 1, 1, 0, 0, 1]) _ _ _ _
    rw [q127_11100110011001, q127_111001100110010, q127_1110011001100100, q127_1110011001100101]
    exact RW.seq (RW.cond (t := false) rfl (RW.exit (hend x1 x2 _ _ h0 h1 h2 h3 h4 h5 hh hrun)))
  | succ d ih =>
    intro t x1 x2 h0 h1 h2 h3 h4 h5 hd ht hh hrun
    have hlt : t < 120 := by omega
    obtain ⟨b, hb⟩ := prof_at hlt
    rw [prof_drop hb, List.flatMap_cons, List.append_assoc] at hrun
    refine LR.step ?_
    rw [q127_1110011001100]
    refine RW.seq (RW.of_wpC yo6 yk6 rfl ?_)
    rw [y6_6]
    show RW (yX6).pc 6 (some y) (Yw 6 Rd) (cd PP 127 [1, 1, 1, 0, 0, 1, 1, 0, 0, 1, 1, 0, 0, 1]) _ _ _ _
    rw [q127_11100110011001, q127_111001100110010, q127_1110011001100100]
    refine RW.seq (RW.cond (t := true) (congrArg AV.bool (decide_eq_true (by omega))) (RW.skip ?_))
    show RW (yX6).pc 6 (some y) (Yw 6 Rd) (cd PP 127 [1, 1, 1, 0, 0, 1, 1, 0, 0, 1, 1, 0, 0, 1, 1]) _ _ _ _
    rw [q127_111001100110011, q127_1110011001100110, q127_11100110011001100]
    refine RW.seq (RW.block (RW.seq (RW.mask' [0, 2, 3, 5, 17, 18, 19, 23, 24, 25] (env' := yE26 y i (t : Int)) (by kernel_rfl) (RW.of_wpC yo6 yk6 rfl ?_))))
    rw [y6_7, prof_el hb, encP_w]
    refine cIf_pos (row_nn _) (cIf_pos (row_in hlt) (cIf_pos (decide_eq_true prof_len) (cIf_pos (decide_eq_true (prof_dl hlt)) (cIf_pos (encP_like b) ?_))))
    show RW (yX6).pc 6 (some y) (Yw 6 Rd) (cd PP 127 [1, 1, 1, 0, 0, 1, 1, 0, 0, 1, 1, 0, 0, 1, 1, 0, 0, 1]) _ _ _ _
    rw [q127_111001100110011001]
    refine RW.seq (RW.mask' [0, 2, 3, 5, 7, 17, 18, 19, 23, 24, 25] (env' := yE2p6 y i (t : Int)) (by kernel_rfl) (RW.wl (RW.of_wpC yo6 yk6 rfl ?_)))
    rw [y6_8]
    show RW (yX6).pc 6 (some y) (Yw 6 Rd) (cd PP 127 [1, 1, 1, 0, 0, 1, 1, 0, 0, 1, 1, 0, 0, 1, 1, 0, 0, 1, 1]) _ _ _ _
    rw [q127_1110011001100110011, q127_11100110011001100110]
    refine RW.block (RW.loop (m := 4) ?_)
    refine lY3_6 (Rd := Rd) (y := y) (jE := jE) (hsE := hsE) ?hst a b i (t : Int) ((profL.drop (t + 1)).flatMap (itC a) ++ rest) ?hen 3 0 x1 x2 b.cr b.le h0 h1 h2 h3 h4 h5 (by omega) (by omega) hh hrun
    case hst => exact fun jc e s h1 h2 => hstop jc e s h1 h2
    intro x1 x2 x3 x4 t' r g0 g1 g2 g3 g4 g5 hh2 hr2
    show RW (yX6).pc 6 (some y) (Yw 6 Rd) (cd PP 127 [1, 1, 1, 0, 0, 1, 1, 0, 0, 1, 1, 0, 0, 1, 1, 1]) _ _ _ _
    refine RW.mask' [0, 2, 3, 5, 17, 18, 19, 23, 24, 25] (env' := yE26 y i (t : Int)) (by kernel_rfl) ?_
    refine RW.keep 8 (by omega) (by simp [noHL, noH, noHL_append, noHL_rep, noH_encPs]) (yb6 hh2 (m := 8) (by omega) (by simp [okBlk, noHB, noHL, noH]; exact rfl)) ?_
    show RW (yX6).pc 6 (some y) (Yw 6 Rd) _ _ (yS26 g0 g1 g2 g3 g4 g5 (pw a x1 x2)) _ _
    refine RW.of_wpC yo6 yk6 rfl ?_
    rw [y6_18]
    show LR (yX6).pc 6 (some y) (Yw 6 Rd) _ _ _ _ _ _
    rw [wrap_id (x := (t : Int) + 1) (by omega) (by omega)]
    exact LR.mask' [0, 2, 3, 5, 17, 18, 19, 23, 24, 25] (env' := yE26 y i ((t + 1 : Nat) : Int)) (by kernel_rfl) (ih (t + 1) _ _ g0 g1 g2 g3 g4 g5 (by omega) (by omega) hh2 hr2)
theorem lY1_6 (hend : ∀ (t : Int) (r : Bool) (g0 g1 g2 g3 g4 g5 : Option HB), jE = none → hsE = [g0, g1, g2, g3, g4, g5] → k (.exit 0) ([.fn (.yield y) [] [], X, .ptr 6 0, .vs yP 120 .none, X, X, X, X, X, X, X, X, X, X, X, X, X, .vs yP 120 .none, I 120, I t, Bo r] ++ List.replicate 37 X) (yS16 g0 g1 g2 g3 g4 g5) ⟨none, 0⟩) :
    ∀ (d t : Nat) (h0 h1 h2 h3 h4 h5 : Option HB), 120 - t = d → t ≤ 120 → HsOk 6 [h0, h1, h2, h3, h4, h5] → runI 6 Rd ((profL.drop t).flatMap itB) [h0, h1, h2, h3, h4, h5] jE hsE →
    LR (yX6).pc 6 (some y) (Yw 6 Rd) (d + 1) (cd PP 127 [1, 1, 1, 0, 0]) (yE16 y (t : Int)) (yS16 h0 h1 h2 h3 h4 h5) ⟨none, 0⟩ k := by
  intro d
  induction d with
  | zero =>
    intro t h0 h1 h2 h3 h4 h5 hd ht hh hrun
    have ht' : t = 120 := by omega
    subst ht'
    rw [List.drop_eq_nil_of_le (by rw [profL_len]; omega)] at hrun
    refine LR.step ?_
    rw [q127_11100]
    refine RW.seq (RW.of_wpC yo6 yk6 rfl ?_)
    rw [y6_3]
    show RW (yX6).pc 6 (some y) (Yw 6 Rd) (cd PP 127 [1, 1, 1, 0, 0, 1]) _ _ _ _
    rw [q127_111001, q127_1110010, q127_11100100, q127_11100101]
    exact RW.seq (RW.cond (t := false) rfl (RW.exit (hend _ _ h0 h1 h2 h3 h4 h5 hrun.1 hrun.2)))
  | succ d ih =>
    intro t h0 h1 h2 h3 h4 h5 hd ht hh hrun
    have hlt : t < 120 := by omega
    obtain ⟨a, ha⟩ := prof_at hlt
    rw [prof_drop ha, List.flatMap_cons] at hrun
    refine LR.step ?_
    rw [q127_11100]
    refine RW.seq (RW.of_wpC yo6 yk6 rfl ?_)
    rw [y6_3]
    show RW (yX6).pc 6 (some y) (Yw 6 Rd) (cd PP 127 [1, 1, 1, 0, 0, 1]) _ _ _ _
    rw [q127_111001, q127_1110010, q127_11100100]
    refine RW.seq (RW.cond (t := true) (congrArg AV.bool (decide_eq_true (by omega))) (RW.skip ?_))
    show RW (yX6).pc 6 (some y) (Yw 6 Rd) (cd PP 127 [1, 1, 1, 0, 0, 1, 1]) _ _ _ _
    rw [q127_1110011, q127_11100110, q127_111001100]
    refine RW.seq (RW.block (RW.seq (RW.mask' [0, 2, 3, 17, 18, 19] (env' := yE16 y (t : Int)) (by kernel_rfl) (RW.of_wpC yo6 yk6 rfl ?_))))
    rw [y6_4, prof_el ha, encP_w]
    refine cIf_pos (row_nn _) (cIf_pos (row_in hlt) (cIf_pos (decide_eq_true prof_len) (cIf_pos (decide_eq_true (prof_dl hlt)) (cIf_pos (encP_like a) ?_))))
    show RW (yX6).pc 6 (some y) (Yw 6 Rd) (cd PP 127 [1, 1, 1, 0, 0, 1, 1, 0, 0, 1]) _ _ _ _
    rw [q127_1110011001]
    refine RW.seq (RW.mask' [0, 2, 3, 5, 17, 18, 19] (env' := yE1p6 y (t : Int)) (by kernel_rfl) (RW.wl (RW.of_wpC yo6 yk6 rfl ?_)))
    rw [y6_5]
    show RW (yX6).pc 6 (some y) (Yw 6 Rd) (cd PP 127 [1, 1, 1, 0, 0, 1, 1, 0, 0, 1, 1]) _ _ _ _
    rw [q127_11100110011, q127_111001100110]
    refine RW.block (RW.loop (m := 121) ?_)
    refine lY2_6 (Rd := Rd) (y := y) (jE := jE) (hsE := hsE) ?hst a (t : Int) ((profL.drop (t + 1)).flatMap itB) ?hen 120 0 a.cr a.le h0 h1 h2 h3 h4 h5 (by omega) (by omega) hh hrun
    case hst => exact fun jc e s h1 h2 => hstop jc e s h1 h2
    intro x1 x2 t' r g0 g1 g2 g3 g4 g5 hh2 hr2
    show RW (yX6).pc 6 (some y) (Yw 6 Rd) (cd PP 127 [1, 1, 1, 0, 0, 1, 1, 1]) _ _ _ _
    refine RW.mask' [0, 2, 3, 17, 18, 19] (env' := yE16 y (t : Int)) (by kernel_rfl) ?_
    refine RW.keep 7 (by omega) (by simp [noHL, noH, noHL_append, noHL_rep, noH_encPs]) (yb6 hh2 (m := 7) (by omega) (by simp [okBlk, noHB, noHL, noH])) ?_
    show RW (yX6).pc 6 (some y) (Yw 6 Rd) _ _ (yS16 g0 g1 g2 g3 g4 g5) _ _
    refine RW.of_wpC yo6 yk6 rfl ?_
    rw [y6_19]
    show LR (yX6).pc 6 (some y) (Yw 6 Rd) _ _ _ _ _ _
    rw [wrap_id (x := (t : Int) + 1) (by omega) (by omega)]
    exact LR.mask' [0, 2, 3, 17, 18, 19] (env' := yE16 y ((t + 1 : Nat) : Int)) (by kernel_rfl) (ih (t + 1) g0 g1 g2 g3 g4 g5 (by omega) (by omega) hh2 hr2)
end
theorem y127_6 (Rd : Rnd) (hs : List (Option HB)) (j : Option Code) (hs' : List (Option HB)) (y : Nat) (hh : HsOk 6 hs) (hrun : runI 6 Rd itsL hs j hs') :
    RW (yX6).pc 6 (some y) (Yw 6 Rd) (cd PP 127 []) ([.fn (.yield y) [] []] ++ List.replicate 57 X) ⟨hs, [], []⟩ ⟨none, 0⟩ (kEnd 6 hs' j) := by
  obtain ⟨h0, h1, h2, h3, h4, h5, rfl⟩ := yh6 hh
  rw [q127_]
  refine RW.seq (RW.of_wpC yo6 yk6 rfl ?_)
  rw [y6_0]
  show RW (yX6).pc 6 (some y) (Yw 6 Rd) (cd PP 127 [1]) _ _ _ _
  rw [q127_1]
  refine RW.seq (RW.mask' [0, 2] (env' := ([.fn (.yield y) [] [], X, .ptr 6 0] ++ List.replicate 55 X)) (by kernel_rfl) (RW.wl (RW.of_wpC yo6 yk6 rfl ?_)))
  rw [y6_1]
  refine ⟨trivial, ?_⟩
  show RW (yX6).pc 6 (some y) (Yw 6 Rd) (cd PP 127 [1, 1]) _ _ _ _
  rw [q127_11]
  refine RW.seq (RW.mask' [0, 2, 3] (env' := ([.fn (.yield y) [] [], X, .ptr 6 0, .vs yP 120 .none] ++ List.replicate 54 X)) (by kernel_rfl) (RW.of_wpC yo6 yk6 rfl ?_))
  rw [y6_2]
  show RW (yX6).pc 6 (some y) (Yw 6 Rd) (cd PP 127 [1, 1, 1]) _ _ _ _
  rw [q127_111, q127_1110]
  refine RW.block (RW.loop (m := 121) ?_)
  refine lY1_6 (Rd := Rd) (y := y) (jE := j) (hsE := hs') (fun jc e s h1 h2 => ⟨.inr rfl, h2.symm, rfl, h1⟩) (fun t r g0 g1 g2 g3 g4 g5 h1 h2 => ?_) 120 0 h0 h1 h2 h3 h4 h5 (by omega) (by omega) hh hrun
  exact ⟨.inl rfl, h1.symm, rfl, h2.symm⟩
/-- CASES YIELDS THE CASES, IN ORDER. -/
theorem sq127_6 : SeqOk (yX6).pc 6 127 [] [] itsL :=
  SeqOk.of_RW (fn := Tryz.f127) (c := cd PP 127 []) (fun g fn c h1 h2 => Tryz.bok.codes g fn c h1 h2) Tryz.func127 (by kernel_rfl) (by kernel_rfl) (by kernel_rfl) fun Rd hs j hs' l h0 hrun => y127_6 Rd hs j hs' l h0 hrun
end
end Go.Proofs
/-! VC87 -/
set_option maxRecDepth 100000
set_option linter.unusedVariables false
-- elP
namespace Go.Proofs
open Go Go.Ev
def kdV (rs : List Rul) (x : Prf × Prf) : Int := kindV (decV rs x.1 x.2).1 (decV rs x.1 x.2).2
def isDiff (rs ss : List Rul) (x : Prf × Prf) : Bool := kdV rs x != kdV ss x
def diffV (rs ss : List Rul) : Wit := foundW (csL.find? (isDiff rs ss)) (kdV rs) (kdV ss)
noncomputable def on2 (f : List Rul → List Rul → Wit) (l m : List AV) : Wit := onEnc encRs (fun rs => onEnc encRs (fun ss => f rs ss) zWit m) zWit l
def okShR (l : List AV) (len : Nat) : Prop := ∃ rs, l = encRs rs ∧ len = rs.length ∧ okRs rs ∧ ∀ x ∈ rs, shT x.t = true
noncomputable def R87 : Spc := fun args => match args with
  | [.agg [.vs l len .none], .agg [.vs m lm .none]] => some (okShR l len ∧ okShR m lm, .ret (.tup [.agg (encW (on2 diffV l m).p (on2 diffV l m).q (on2 diffV l m).a (on2 diffV l m).b), Bo (on2 diffV l m).f]))
  | _ => none
def sameV (rs ss : List Rul) : Wit := if chk rs = 0 then (if chk ss = 0 then { diffV rs ss with f := !(diffV rs ss).f, e := 0 } else errW (chk ss)) else errW (chk rs)
noncomputable def R45 : Spc := fun args => match args with
  | [.agg [.vs l len .none], .agg [.vs m lm .none]] => some ((∃ rs, l = encRs rs ∧ len = rs.length ∧ wfRs rs) ∧ ∃ ss, m = encRs ss ∧ lm = ss.length ∧ wfRs ss, (on2 sameV l m).ret)
  | _ => none
noncomputable def Tryz.X87 : WCx := Tryz.B.wcx [(79, R79), (85, R85)]
noncomputable def Tryz.X87r : WCx := Tryz.B.wcxP 6 [(78, R78)]
def lm88 : List (Nat × List Nat) := [(3, [2, 3, 4, 6, 7]), (4, [2, 3, 4, 6, 7])]
noncomputable def Tryz.X88 (pl : List AV) : WCx := Tryz.B.wcx [(54, RPl pl), (83, R83), (86, R86)] lm88 [] [] [(3, 3)]
noncomputable def Tryz.X45 : WCx := Tryz.B.wcx [(27, R27), (87, R87)]
noncomputable def Tryz.X46 : WCx := Tryz.B.wcx [(70, R70), (88, R87)]
theorem v87a (l m : List AV) (len lm : Nat) (k : Kont) : wpC Tryz.X87 (cd PP 87 [0]) ([.agg [.vs l len .none], .agg [.vs m lm .none]] ++ List.replicate 42 X) ⟨[], [], []⟩ k =
  (k EX.normal ([AV.agg [AV.vs l len Tok.none], AV.agg [AV.vs m lm Tok.none], AV.ptr 0 0, AV.ptr 1 0, AV.ptr 2 0, AV.ptr 3 0] ++ List.replicate 38 X) (St.mk [some (HB.cells [AV.vs l len Tok.none] 25), some (HB.cells [AV.vs m lm Tok.none] 25), some (HB.cells [I (0 : Int), I (0 : Int), Bo false, Bo false, Bo false, I (0 : Int), I (0 : Int), I (0 : Int), I (0 : Int), Bo false, Bo false, Bo false, I (0 : Int), I (0 : Int), I (0 : Int), I (0 : Int)] 61), some (HB.cells [Bo false] 4)] [] [])) := by kernel_rfl
theorem v87b (l m : List AV) (len lm : Nat) (k : Kont) : wpC Tryz.X87 (cd PP 87 [1, 0]) ([X, X, .ptr 0 0, .ptr 1 0, .ptr 2 0, .ptr 3 0] ++ List.replicate 38 X) ⟨[some (.cells [.vs l len .none] 25), some (.cells [.vs m lm .none] 25), some (.cells (encW zPr zPr 0 0) 61), some (.cells [Bo false] 4)], [], []⟩ k =
  (cIf (noHL [some (HB.cells [AV.vs l len Tok.none] 25), some (HB.cells [AV.vs m lm Tok.none] 25), some (HB.cells [I (0 : Int), I (0 : Int), Bo false, Bo false, Bo false, I (0 : Int), I (0 : Int), I (0 : Int), I (0 : Int), Bo false, Bo false, Bo false, I (0 : Int), I (0 : Int), I (0 : Int), I (0 : Int)] 61), some (HB.cells [Bo false] 4)].length ([] ++ [AV.agg [AV.vs l len Tok.none]] ++ [])) ((∃ (rs : List Rul), l = encRs rs ∧ len = rs.length ∧ okRs rs) ∧ St.mk [some (HB.cells [AV.vs l len Tok.none] 25), some (HB.cells [AV.vs m lm Tok.none] 25), some (HB.cells [I (0 : Int), I (0 : Int), Bo false, Bo false, Bo false, I (0 : Int), I (0 : Int), I (0 : Int), I (0 : Int), Bo false, Bo false, Bo false, I (0 : Int), I (0 : Int), I (0 : Int), I (0 : Int)] 61), some (HB.cells [Bo false] 4)] [] [] = St.mk [some (HB.cells [AV.vs l len Tok.none] 25), some (HB.cells [AV.vs m lm Tok.none] 25), some (HB.cells [I (0 : Int), I (0 : Int), Bo false, Bo false, Bo false, I (0 : Int), I (0 : Int), I (0 : Int), I (0 : Int), Bo false, Bo false, Bo false, I (0 : Int), I (0 : Int), I (0 : Int), I (0 : Int)] 61), some (HB.cells [Bo false] 4)] [] [] ∧ cIf (noHL [some (HB.cells [AV.vs l len Tok.none] 25), some (HB.cells [AV.vs m lm Tok.none] 25), some (HB.cells [I (0 : Int), I (0 : Int), Bo false, Bo false, Bo false, I (0 : Int), I (0 : Int), I (0 : Int), I (0 : Int), Bo false, Bo false, Bo false, I (0 : Int), I (0 : Int), I (0 : Int), I (0 : Int)] 61), some (HB.cells [Bo false] 4)].length ([] ++ [AV.agg [AV.vs m lm Tok.none]] ++ [])) ((∃ (rs : List Rul), m = encRs rs ∧ lm = rs.length ∧ okRs rs) ∧ St.mk [some (HB.cells [AV.vs l len Tok.none] 25), some (HB.cells [AV.vs m lm Tok.none] 25), some (HB.cells [I (0 : Int), I (0 : Int), Bo false, Bo false, Bo false, I (0 : Int), I (0 : Int), I (0 : Int), I (0 : Int), Bo false, Bo false, Bo false, I (0 : Int), I (0 : Int), I (0 : Int), I (0 : Int)] 61), some (HB.cells [Bo false] 4)] [] [] = St.mk [some (HB.cells [AV.vs l len Tok.none] 25), some (HB.cells [AV.vs m lm Tok.none] 25), some (HB.cells [I (0 : Int), I (0 : Int), Bo false, Bo false, Bo false, I (0 : Int), I (0 : Int), I (0 : Int), I (0 : Int), Bo false, Bo false, Bo false, I (0 : Int), I (0 : Int), I (0 : Int), I (0 : Int)] 61), some (HB.cells [Bo false] 4)] [] [] ∧ k EX.normal ([X, X, AV.ptr 0 0, AV.ptr 1 0, AV.ptr 2 0, AV.ptr 3 0, AV.ptr 4 0, AV.ptr 5 0, X, X, X, X, AV.agg [AV.vs l len Tok.none], AV.vs (encD (onEnc encRs rankL [] l)) len Tok.none, AV.agg [AV.vs m lm Tok.none], AV.vs (encD (onEnc encRs rankL [] m)) lm Tok.none] ++ List.replicate 28 X) (St.mk [some (HB.cells [AV.vs l len Tok.none] 25), some (HB.cells [AV.vs m lm Tok.none] 25), some (HB.cells [I (0 : Int), I (0 : Int), Bo false, Bo false, Bo false, I (0 : Int), I (0 : Int), I (0 : Int), I (0 : Int), Bo false, Bo false, Bo false, I (0 : Int), I (0 : Int), I (0 : Int), I (0 : Int)] 61), some (HB.cells [Bo false] 4), some (HB.cells [AV.vs (encD (onEnc encRs rankL [] l)) len Tok.none] 49), some (HB.cells [AV.vs (encD (onEnc encRs rankL [] m)) lm Tok.none] 49)] [] [5, 4])) False) False) := by kernel_rfl
theorem v87c (l m cs ds : List AV) (len lm n n2 : Nat) (k : Kont) : wpC Tryz.X87 (cd PP 87 [1, 1, 0, 0]) ([X, X, .ptr 0 0, .ptr 1 0, .ptr 2 0, .ptr 3 0, .ptr 4 0, .ptr 5 0] ++ List.replicate 36 X) ⟨[some (.cells [.vs l len .none] 25), some (.cells [.vs m lm .none] 25), some (.cells (encW zPr zPr 0 0) 61), some (.cells [Bo false] 4), some (.cells [.vs cs n .none] 49), some (.cells [.vs ds n2 .none] 49)], [], []⟩ k =
  (True ∧ k EX.normal ([X, X, AV.ptr 0 0, AV.ptr 1 0, AV.ptr 2 0, AV.ptr 3 0, AV.ptr 4 0, AV.ptr 5 0, X, X, X, X, X, X, X, X, AV.fn (Fn.func 127) [] []] ++ List.replicate 27 X) (St.mk [some (HB.cells [AV.vs l len Tok.none] 25), some (HB.cells [AV.vs m lm Tok.none] 25), some (HB.cells [I (0 : Int), I (0 : Int), Bo false, Bo false, Bo false, I (0 : Int), I (0 : Int), I (0 : Int), I (0 : Int), Bo false, Bo false, Bo false, I (0 : Int), I (0 : Int), I (0 : Int), I (0 : Int)] 61), some (HB.cells [Bo false] 4), some (HB.cells [AV.vs cs n Tok.none] 49), some (HB.cells [AV.vs ds n2 Tok.none] 49)] [] [])) := by kernel_rfl
theorem v87g (l m cs ds : List AV) (len lm n n2 : Nat) (p q : Prf) (k : Kont) : wpC Tryz.X87r (cd PP 87 [1, 1, 0, 1, 0, 0]) ([X, X, .ptr 0 0, .ptr 1 0, .ptr 2 0, .ptr 3 0, .ptr 4 0, .ptr 5 0, X, X, X, X, X, X, X, X, .fn (.func 127) [] [], .agg (encP p), .agg (encP q)] ++ List.replicate 25 X) ⟨[some (.cells [.vs l len .none] 25), some (.cells [.vs m lm .none] 25), some (.cells (encW zPr zPr 0 0) 61), some (.cells [Bo false] 4), some (.cells [.vs cs n .none] 49), some (.cells [.vs ds n2 .none] 49)], [], []⟩ k =
  (k EX.normal ([X, X, AV.ptr 0 0, AV.ptr 1 0, AV.ptr 2 0, AV.ptr 3 0, AV.ptr 4 0, AV.ptr 5 0, AV.ptr 6 0, AV.ptr 7 0, X, X, X, X, X, X, AV.fn (Fn.func 127) [] [], AV.agg (encP p), AV.agg (encP q)] ++ List.replicate 25 X) (St.mk [some (HB.cells [AV.vs l len Tok.none] 25), some (HB.cells [AV.vs m lm Tok.none] 25), some (HB.cells [I (0 : Int), I (0 : Int), Bo false, Bo false, Bo false, I (0 : Int), I (0 : Int), I (0 : Int), I (0 : Int), Bo false, Bo false, Bo false, I (0 : Int), I (0 : Int), I (0 : Int), I (0 : Int)] 61), some (HB.cells [Bo false] 4), some (HB.cells [AV.vs cs n Tok.none] 49), some (HB.cells [AV.vs ds n2 Tok.none] 49), some (HB.cells (encP p) 40), some (HB.cells (encP q) 40)] [] [7, 6])) := by kernel_rfl
theorem v87h (l m cs ds : List AV) (len lm n n2 : Nat) (p q : Prf) (k : Kont) : wpC Tryz.X87r (cd PP 87 [1, 1, 0, 1, 0, 1]) ([X, X, .ptr 0 0, .ptr 1 0, .ptr 2 0, .ptr 3 0, .ptr 4 0, .ptr 5 0, .ptr 6 0, .ptr 7 0, X, X, X, X, X, X, .fn (.func 127) [] [], .agg (encP p), .agg (encP q)] ++ List.replicate 25 X) ⟨[some (.cells [.vs l len .none] 25), some (.cells [.vs m lm .none] 25), some (.cells (encW zPr zPr 0 0) 61), some (.cells [Bo false] 4), some (.cells [.vs cs n .none] 49), some (.cells [.vs ds n2 .none] 49), some (.cells (encP p) 40), some (.cells (encP q) 40)], [], [7, 6]⟩ k =
  (cIf (noHL [some (HB.cells [AV.vs l len Tok.none] 25), some (HB.cells [AV.vs m lm Tok.none] 25), some (HB.cells [I (0 : Int), I (0 : Int), Bo false, Bo false, Bo false, I (0 : Int), I (0 : Int), I (0 : Int), I (0 : Int), Bo false, Bo false, Bo false, I (0 : Int), I (0 : Int), I (0 : Int), I (0 : Int)] 61), some (HB.cells [Bo false] 4), some (HB.cells [AV.vs cs n Tok.none] 49), some (HB.cells [AV.vs ds n2 Tok.none] 49), some (HB.cells (encP p) 40), some (HB.cells (encP q) 40)].length ([] ++ [AV.agg [AV.vs l len Tok.none], AV.vs cs n Tok.none, AV.agg (encP p), AV.agg (encP q), AV.raw RV.nilFunc] ++ [])) (((∃ (rs : List Rul), ∃ (ord : List Nat), l = encRs rs ∧ len = rs.length ∧ okRs rs ∧ (∀ (x : Rul), x ∈ rs → shT x.t = true) ∧ cs = encD ord ∧ n = ord.length ∧ ord.length ≤ 24 ∧ ∀ (x : Nat), x ∈ ord → x < rs.length) ∧ (∃ (p_1 : Prf), (encP p) = encP p_1) ∧ ∃ (q_1 : Prf), (encP q) = encP q_1) ∧ St.mk [some (HB.cells [AV.vs l len Tok.none] 25), some (HB.cells [AV.vs m lm Tok.none] 25), some (HB.cells [I (0 : Int), I (0 : Int), Bo false, Bo false, Bo false, I (0 : Int), I (0 : Int), I (0 : Int), I (0 : Int), Bo false, Bo false, Bo false, I (0 : Int), I (0 : Int), I (0 : Int), I (0 : Int)] 61), some (HB.cells [Bo false] 4), some (HB.cells [AV.vs cs n Tok.none] 49), some (HB.cells [AV.vs ds n2 Tok.none] 49), some (HB.cells (encP p) 40), some (HB.cells (encP q) 40)] [] [7, 6] = St.mk [some (HB.cells [AV.vs l len Tok.none] 25), some (HB.cells [AV.vs m lm Tok.none] 25), some (HB.cells [I (0 : Int), I (0 : Int), Bo false, Bo false, Bo false, I (0 : Int), I (0 : Int), I (0 : Int), I (0 : Int), Bo false, Bo false, Bo false, I (0 : Int), I (0 : Int), I (0 : Int), I (0 : Int)] 61), some (HB.cells [Bo false] 4), some (HB.cells [AV.vs cs n Tok.none] 49), some (HB.cells [AV.vs ds n2 Tok.none] 49), some (HB.cells (encP p) 40), some (HB.cells (encP q) 40)] [] [7, 6] ∧ cIf (noHL [some (HB.cells [AV.vs l len Tok.none] 25), some (HB.cells [AV.vs m lm Tok.none] 25), some (HB.cells [I (0 : Int), I (0 : Int), Bo false, Bo false, Bo false, I (0 : Int), I (0 : Int), I (0 : Int), I (0 : Int), Bo false, Bo false, Bo false, I (0 : Int), I (0 : Int), I (0 : Int), I (0 : Int)] 61), some (HB.cells [Bo false] 4), some (HB.cells [AV.vs cs n Tok.none] 49), some (HB.cells [AV.vs ds n2 Tok.none] 49), some (HB.cells (encP p) 40), some (HB.cells (encP q) 40)].length ([] ++ [AV.agg [AV.vs m lm Tok.none], AV.vs ds n2 Tok.none, AV.agg (encP p), AV.agg (encP q), AV.raw RV.nilFunc] ++ [])) (((∃ (rs : List Rul), ∃ (ord : List Nat), m = encRs rs ∧ lm = rs.length ∧ okRs rs ∧ (∀ (x : Rul), x ∈ rs → shT x.t = true) ∧ ds = encD ord ∧ n2 = ord.length ∧ ord.length ≤ 24 ∧ ∀ (x : Nat), x ∈ ord → x < rs.length) ∧ (∃ (p_1 : Prf), (encP p) = encP p_1) ∧ ∃ (q_1 : Prf), (encP q) = encP q_1) ∧ St.mk [some (HB.cells [AV.vs l len Tok.none] 25), some (HB.cells [AV.vs m lm Tok.none] 25), some (HB.cells [I (0 : Int), I (0 : Int), Bo false, Bo false, Bo false, I (0 : Int), I (0 : Int), I (0 : Int), I (0 : Int), Bo false, Bo false, Bo false, I (0 : Int), I (0 : Int), I (0 : Int), I (0 : Int)] 61), some (HB.cells [Bo false] 4), some (HB.cells [AV.vs cs n Tok.none] 49), some (HB.cells [AV.vs ds n2 Tok.none] 49), some (HB.cells (encP p) 40), some (HB.cells (encP q) 40)] [] [7, 6] = St.mk [some (HB.cells [AV.vs l len Tok.none] 25), some (HB.cells [AV.vs m lm Tok.none] 25), some (HB.cells [I (0 : Int), I (0 : Int), Bo false, Bo false, Bo false, I (0 : Int), I (0 : Int), I (0 : Int), I (0 : Int), Bo false, Bo false, Bo false, I (0 : Int), I (0 : Int), I (0 : Int), I (0 : Int)] 61), some (HB.cells [Bo false] 4), some (HB.cells [AV.vs cs n Tok.none] 49), some (HB.cells [AV.vs ds n2 Tok.none] 49), some (HB.cells (encP p) 40), some (HB.cells (encP q) 40)] [] [7, 6] ∧ cIf (kindV (dvP l cs (encP p) (encP q)).fst (dvP l cs (encP p) (encP q)).snd != kindV (dvP m ds (encP p) (encP q)).fst (dvP m ds (encP p) (encP q)).snd) (k EX.ret [X, X, AV.ptr 0 0, AV.ptr 1 0, AV.ptr 2 0, AV.ptr 3 0, AV.ptr 4 0, AV.ptr 5 0, AV.ptr 6 0, AV.ptr 7 0, AV.ptr 8 0, AV.ptr 9 0, X, X, X, X, AV.fn (Fn.func 127) [] [], AV.agg (encP p), AV.agg (encP q), AV.agg [AV.vs l len Tok.none], AV.vs cs n Tok.none, AV.agg (encP p), AV.agg (encP q), AV.agg [AV.int IntKind.u8 (kindV (dvP l cs (encP p) (encP q)).fst (dvP l cs (encP p) (encP q)).snd), AV.int IntKind.i64 (dvP l cs (encP p) (encP q)).fst, AV.int IntKind.i64 (dvP l cs (encP p) (encP q)).snd], AV.agg [AV.vs m lm Tok.none], AV.vs ds n2 Tok.none, AV.agg (encP p), AV.agg (encP q), AV.agg [AV.int IntKind.u8 (kindV (dvP m ds (encP p) (encP q)).fst (dvP m ds (encP p) (encP q)).snd), AV.int IntKind.i64 (dvP m ds (encP p) (encP q)).fst, AV.int IntKind.i64 (dvP m ds (encP p) (encP q)).snd], AV.ptr 8 0, AV.int IntKind.u8 (kindV (dvP l cs (encP p) (encP q)).fst (dvP l cs (encP p) (encP q)).snd), AV.ptr 9 0, AV.int IntKind.u8 (kindV (dvP m ds (encP p) (encP q)).fst (dvP m ds (encP p) (encP q)).snd), AV.bool (kindV (dvP l cs (encP p) (encP q)).fst (dvP l cs (encP p) (encP q)).snd != kindV (dvP m ds (encP p) (encP q)).fst (dvP m ds (encP p) (encP q)).snd), AV.agg (encP p), AV.agg (encP q), AV.ptr 8 0, AV.int IntKind.u8 (kindV (dvP l cs (encP p) (encP q)).fst (dvP l cs (encP p) (encP q)).snd), AV.int IntKind.i64 (IntKind.i64.wrap (kindV (dvP l cs (encP p) (encP q)).fst (dvP l cs (encP p) (encP q)).snd)), AV.ptr 9 0, AV.int IntKind.u8 (kindV (dvP m ds (encP p) (encP q)).fst (dvP m ds (encP p) (encP q)).snd), AV.int IntKind.i64 (IntKind.i64.wrap (kindV (dvP m ds (encP p) (encP q)).fst (dvP m ds (encP p) (encP q)).snd)), AV.agg [I p.cl, I p.vi, Bo p.ho, Bo p.de, Bo p.mo, I p.cr, I p.le, I q.cl, I q.vi, Bo q.ho, Bo q.de, Bo q.mo, I q.cr, I q.le, AV.int IntKind.i64 (IntKind.i64.wrap (kindV (dvP l cs (encP p) (encP q)).fst (dvP l cs (encP p) (encP q)).snd)), AV.int IntKind.i64 (IntKind.i64.wrap (kindV (dvP m ds (encP p) (encP q)).fst (dvP m ds (encP p) (encP q)).snd))], X] (St.mk [some (HB.cells [AV.vs l len Tok.none] 25), some (HB.cells [AV.vs m lm Tok.none] 25), some (HB.cells [I p.cl, I p.vi, Bo p.ho, Bo p.de, Bo p.mo, I p.cr, I p.le, I q.cl, I q.vi, Bo q.ho, Bo q.de, Bo q.mo, I q.cr, I q.le, AV.int IntKind.i64 (IntKind.i64.wrap (kindV (dvP l cs (encP p) (encP q)).fst (dvP l cs (encP p) (encP q)).snd)), AV.int IntKind.i64 (IntKind.i64.wrap (kindV (dvP m ds (encP p) (encP q)).fst (dvP m ds (encP p) (encP q)).snd))] 61), some (HB.cells [Bo true] 4), some (HB.cells [AV.vs cs n Tok.none] 49), some (HB.cells [AV.vs ds n2 Tok.none] 49), some (HB.cells (encP p) 40), some (HB.cells (encP q) 40), some (HB.cells [AV.int IntKind.u8 (kindV (dvP l cs (encP p) (encP q)).fst (dvP l cs (encP p) (encP q)).snd), AV.int IntKind.i64 (dvP l cs (encP p) (encP q)).fst, AV.int IntKind.i64 (dvP l cs (encP p) (encP q)).snd] 42), some (HB.cells [AV.int IntKind.u8 (kindV (dvP m ds (encP p) (encP q)).fst (dvP m ds (encP p) (encP q)).snd), AV.int IntKind.i64 (dvP m ds (encP p) (encP q)).fst, AV.int IntKind.i64 (dvP m ds (encP p) (encP q)).snd] 42)] [] [3, 2, 9, 8, 7, 6])) (k EX.normal ([X, X, AV.ptr 0 0, AV.ptr 1 0, AV.ptr 2 0, AV.ptr 3 0, AV.ptr 4 0, AV.ptr 5 0, AV.ptr 6 0, AV.ptr 7 0, AV.ptr 8 0, AV.ptr 9 0, X, X, X, X, AV.fn (Fn.func 127) [] [], AV.agg (encP p), AV.agg (encP q), AV.agg [AV.vs l len Tok.none], AV.vs cs n Tok.none, AV.agg (encP p), AV.agg (encP q), AV.agg [AV.int IntKind.u8 (kindV (dvP l cs (encP p) (encP q)).fst (dvP l cs (encP p) (encP q)).snd), AV.int IntKind.i64 (dvP l cs (encP p) (encP q)).fst, AV.int IntKind.i64 (dvP l cs (encP p) (encP q)).snd], AV.agg [AV.vs m lm Tok.none], AV.vs ds n2 Tok.none, AV.agg (encP p), AV.agg (encP q), AV.agg [AV.int IntKind.u8 (kindV (dvP m ds (encP p) (encP q)).fst (dvP m ds (encP p) (encP q)).snd), AV.int IntKind.i64 (dvP m ds (encP p) (encP q)).fst, AV.int IntKind.i64 (dvP m ds (encP p) (encP q)).snd], AV.ptr 8 0, AV.int IntKind.u8 (kindV (dvP l cs (encP p) (encP q)).fst (dvP l cs (encP p) (encP q)).snd), AV.ptr 9 0, AV.int IntKind.u8 (kindV (dvP m ds (encP p) (encP q)).fst (dvP m ds (encP p) (encP q)).snd), AV.bool (kindV (dvP l cs (encP p) (encP q)).fst (dvP l cs (encP p) (encP q)).snd != kindV (dvP m ds (encP p) (encP q)).fst (dvP m ds (encP p) (encP q)).snd)] ++ List.replicate 10 X) (St.mk [some (HB.cells [AV.vs l len Tok.none] 25), some (HB.cells [AV.vs m lm Tok.none] 25), some (HB.cells [I (0 : Int), I (0 : Int), Bo false, Bo false, Bo false, I (0 : Int), I (0 : Int), I (0 : Int), I (0 : Int), Bo false, Bo false, Bo false, I (0 : Int), I (0 : Int), I (0 : Int), I (0 : Int)] 61), some (HB.cells [Bo false] 4), some (HB.cells [AV.vs cs n Tok.none] 49), some (HB.cells [AV.vs ds n2 Tok.none] 49), some (HB.cells (encP p) 40), some (HB.cells (encP q) 40), some (HB.cells [AV.int IntKind.u8 (kindV (dvP l cs (encP p) (encP q)).fst (dvP l cs (encP p) (encP q)).snd), AV.int IntKind.i64 (dvP l cs (encP p) (encP q)).fst, AV.int IntKind.i64 (dvP l cs (encP p) (encP q)).snd] 42), some (HB.cells [AV.int IntKind.u8 (kindV (dvP m ds (encP p) (encP q)).fst (dvP m ds (encP p) (encP q)).snd), AV.int IntKind.i64 (dvP m ds (encP p) (encP q)).fst, AV.int IntKind.i64 (dvP m ds (encP p) (encP q)).snd] 42)] [] [9, 8, 7, 6]))) False) False) := by kernel_rfl
theorem v87z (l m cs ds : List AV) (len lm n n2 : Nat) (k : Kont) : wpC Tryz.X87 (cd PP 87 [1, 1, 1, 0]) ([X, X, .ptr 0 0, .ptr 1 0, .ptr 2 0, .ptr 3 0, .ptr 4 0, .ptr 5 0, X, X, X, X, X, X, X, X, .fn (.func 127) [] []] ++ List.replicate 27 X) ⟨[some (.cells [.vs l len .none] 25), some (.cells [.vs m lm .none] 25), some (.cells (encW zPr zPr 0 0) 61), some (.cells [Bo false] 4), some (.cells [.vs cs n .none] 49), some (.cells [.vs ds n2 .none] 49)], [], []⟩ k =
  (k EX.normal [X, X, AV.ptr 0 0, AV.ptr 1 0, AV.ptr 2 0, AV.ptr 3 0, AV.ptr 4 0, AV.ptr 5 0, X, X, X, X, X, X, X, X, AV.fn (Fn.func 127) [] [], X, X, X, X, X, X, X, X, X, X, X, X, X, X, X, X, X, X, X, X, X, X, X, X, X, X, AV.agg [I (0 : Int), I (0 : Int), Bo false, Bo false, Bo false, I (0 : Int), I (0 : Int), I (0 : Int), I (0 : Int), Bo false, Bo false, Bo false, I (0 : Int), I (0 : Int), I (0 : Int), I (0 : Int)]] (St.mk [some (HB.cells [AV.vs l len Tok.none] 25), some (HB.cells [AV.vs m lm Tok.none] 25), some (HB.cells [I (0 : Int), I (0 : Int), Bo false, Bo false, Bo false, I (0 : Int), I (0 : Int), I (0 : Int), I (0 : Int), Bo false, Bo false, Bo false, I (0 : Int), I (0 : Int), I (0 : Int), I (0 : Int)] 61), some (HB.cells [Bo false] 4), some (HB.cells [AV.vs cs n Tok.none] 49), some (HB.cells [AV.vs ds n2 Tok.none] 49)] [] [3, 2])) := by kernel_rfl
theorem v87e (l m cs ds : List AV) (len lm n n2 : Nat) (p q : Prf) (a b : Int) (f : Bool) (u : AV) (ws : List Nat) (Q : CR → Prop) : wpC Tryz.X87 (cd PP 87 [1, 1, 1, 1]) ([X, X, .ptr 0 0, .ptr 1 0, .ptr 2 0, .ptr 3 0, .ptr 4 0, .ptr 5 0, X, X, X, X, X, X, X, X, .fn (.func 127) [] []] ++ List.replicate 26 X ++ [u]) ⟨[some (.cells [.vs l len .none] 25), some (.cells [.vs m lm .none] 25), some (.cells (encW p q a b) 61), some (.cells [Bo f] 4), some (.cells [.vs cs n .none] 49), some (.cells [.vs ds n2 .none] 49)], [], ws⟩ (kRet Tryz.X87 87 Q) =
  (Q (CR.ret (AV.tup [AV.agg [I p.cl, I p.vi, Bo p.ho, Bo p.de, Bo p.mo, I p.cr, I p.le, I q.cl, I q.vi, Bo q.ho, Bo q.de, Bo q.mo, I q.cr, I q.le, I a, I b], Bo f]))) := by kernel_rfl
theorem v88 (pl : List AV) (l m : List AV) (len lm : Nat) (Q : CR → Prop) : wpF (Tryz.X88 pl) 88 [.agg [.vs l len .none], .agg [.vs m lm .none]] Q =
  (True ∧ cIf (noHL 3 ([X, X, AV.ptr 0 0, AV.ptr 1 0, AV.ptr 2 0, X, AV.vs pl 120 Tok.none, I (0 : Int)] ++ List.replicate 42 X)) (cIf ([some (HB.cells [AV.vs l len Tok.none] 25), some (HB.cells [AV.vs m lm Tok.none] 25), some (HB.cells [I (0 : Int), I (0 : Int), Bo false, Bo false, Bo false, I (0 : Int), I (0 : Int), I (0 : Int), I (0 : Int), Bo false, Bo false, Bo false, I (0 : Int), I (0 : Int), I (0 : Int), I (0 : Int)] 61)].all (okBlk 3)) (WLoop (Tryz.X88 pl) (cd (Tryz.X88 pl).P 88 [1, 1, 0, 1, 0, 0]) ([X, X, AV.ptr 0 0, AV.ptr 1 0, AV.ptr 2 0, X, AV.vs pl 120 Tok.none, I (0 : Int)] ++ List.replicate 42 X) (St.mk [some (HB.cells [AV.vs l len Tok.none] 25), some (HB.cells [AV.vs m lm Tok.none] 25), some (HB.cells [I (0 : Int), I (0 : Int), Bo false, Bo false, Bo false, I (0 : Int), I (0 : Int), I (0 : Int), I (0 : Int), Bo false, Bo false, Bo false, I (0 : Int), I (0 : Int), I (0 : Int), I (0 : Int)] 61)] [] []) (kBlock 0 (kSeq (Tryz.X88 pl) (cd (Tryz.X88 pl).P 88 [1, 1, 1]) (kRet (Tryz.X88 pl) 88 Q)))) False) False) := by kernel_rfl
theorem v88l (pl : List AV) (l m : List AV) (len lm : Nat) (i : Int) (Q : CR → Prop) : wpC (Tryz.X88 pl) (cd PP 88 [1, 1, 0, 1, 0, 0]) ([X, X, .ptr 0 0, .ptr 1 0, .ptr 2 0, X, .vs pl 120 .none, I i] ++ List.replicate 42 X) ⟨[some (.cells [.vs l len .none] 25), some (.cells [.vs m lm .none] 25), some (.cells (encW zPr zPr 0 0) 61)], [], []⟩ (kLoop (Tryz.X88 pl) (cd PP 88 [1, 1, 0, 1, 0, 0]) (kBlock 0 (kSeq (Tryz.X88 pl) (cd PP 88 [1, 1, 1]) (kRet (Tryz.X88 pl) 88 Q)))) =
  (cIf (decide (i < (129600 : Int))) ((pl = encPs profL ∧ 120 = 120 ∧ (0 : Int) ≤ i ∧ i < (129600 : Int)) ∧ ((∃ (rs : List Rul), l = encRs rs ∧ len = rs.length ∧ okRs rs) ∧ (∃ (p : Prf), (encP (caseAt i.toNat).fst) = encP p) ∧ ∃ (q : Prf), (encP (caseAt i.toNat).snd) = encP q) ∧ ((∃ (rs : List Rul), m = encRs rs ∧ lm = rs.length ∧ okRs rs) ∧ (∃ (p : Prf), (encP (caseAt i.toNat).fst) = encP p) ∧ ∃ (q : Prf), (encP (caseAt i.toNat).snd) = encP q) ∧ cIf (kindV (dvR l (encP (caseAt i.toNat).fst) (encP (caseAt i.toNat).snd)).fst (dvR l (encP (caseAt i.toNat).fst) (encP (caseAt i.toNat).snd)).snd.fst != kindV (dvR m (encP (caseAt i.toNat).fst) (encP (caseAt i.toNat).snd)).fst (dvR m (encP (caseAt i.toNat).fst) (encP (caseAt i.toNat).snd)).snd.fst) (Q (CR.ret (AV.tup [AV.agg [I (caseAt i.toNat).fst.cl, I (caseAt i.toNat).fst.vi, Bo (caseAt i.toNat).fst.ho, Bo (caseAt i.toNat).fst.de, Bo (caseAt i.toNat).fst.mo, I (caseAt i.toNat).fst.cr, I (caseAt i.toNat).fst.le, I (caseAt i.toNat).snd.cl, I (caseAt i.toNat).snd.vi, Bo (caseAt i.toNat).snd.ho, Bo (caseAt i.toNat).snd.de, Bo (caseAt i.toNat).snd.mo, I (caseAt i.toNat).snd.cr, I (caseAt i.toNat).snd.le, AV.int IntKind.i64 (IntKind.i64.wrap (kindV (dvR l (encP (caseAt i.toNat).fst) (encP (caseAt i.toNat).snd)).fst (dvR l (encP (caseAt i.toNat).fst) (encP (caseAt i.toNat).snd)).snd.fst)), AV.int IntKind.i64 (IntKind.i64.wrap (kindV (dvR m (encP (caseAt i.toNat).fst) (encP (caseAt i.toNat).snd)).fst (dvR m (encP (caseAt i.toNat).fst) (encP (caseAt i.toNat).snd)).snd.fst))], Bo true]))) (cIf (noHL 3 ([X, X, AV.ptr 0 0, AV.ptr 1 0, AV.ptr 2 0, X, AV.vs pl 120 Tok.none, I (IntKind.i64.wrap (i + (1 : Int)))] ++ List.replicate 42 X)) (cIf ([some (HB.cells [AV.vs l len Tok.none] 25), some (HB.cells [AV.vs m lm Tok.none] 25), some (HB.cells [I (0 : Int), I (0 : Int), Bo false, Bo false, Bo false, I (0 : Int), I (0 : Int), I (0 : Int), I (0 : Int), Bo false, Bo false, Bo false, I (0 : Int), I (0 : Int), I (0 : Int), I (0 : Int)] 61)].all (okBlk 3)) (WLoop (Tryz.X88 pl) (cd PP 88 [1, 1, 0, 1, 0, 0]) ([X, X, AV.ptr 0 0, AV.ptr 1 0, AV.ptr 2 0, X, AV.vs pl 120 Tok.none, I (IntKind.i64.wrap (i + (1 : Int)))] ++ List.replicate 42 X) (St.mk [some (HB.cells [AV.vs l len Tok.none] 25), some (HB.cells [AV.vs m lm Tok.none] 25), some (HB.cells [I (0 : Int), I (0 : Int), Bo false, Bo false, Bo false, I (0 : Int), I (0 : Int), I (0 : Int), I (0 : Int), Bo false, Bo false, Bo false, I (0 : Int), I (0 : Int), I (0 : Int), I (0 : Int)] 61)] [] []) (kBlock 0 (kSeq (Tryz.X88 pl) (cd PP 88 [1, 1, 1]) (kRet (Tryz.X88 pl) 88 Q)))) False) False)) (Q (CR.ret (AV.tup [AV.agg [I (0 : Int), I (0 : Int), Bo false, Bo false, Bo false, I (0 : Int), I (0 : Int), I (0 : Int), I (0 : Int), Bo false, Bo false, Bo false, I (0 : Int), I (0 : Int), I (0 : Int), I (0 : Int)], Bo false])))) := by kernel_rfl
theorem v45 (l m : List AV) (len lm : Nat) (Q : CR → Prop) : wpF Tryz.X45 45 [.agg [.vs l len .none], .agg [.vs m lm .none]] Q =
  ((∃ (rs : List Rul), l = encRs rs ∧ len = rs.length ∧ wfRs rs) ∧ cIf (onEnc encRs chk (0 : Int) l != (0 : Int)) (Q (CR.ret (AV.tup [AV.agg [I (0 : Int), I (0 : Int), Bo false, Bo false, Bo false, I (0 : Int), I (0 : Int), I (0 : Int), I (0 : Int), Bo false, Bo false, Bo false, I (0 : Int), I (0 : Int), I (0 : Int), I (0 : Int)], Bo false, I (onEnc encRs chk (0 : Int) l)]))) ((∃ (rs : List Rul), m = encRs rs ∧ lm = rs.length ∧ wfRs rs) ∧ cIf (onEnc encRs chk (0 : Int) m != (0 : Int)) (Q (CR.ret (AV.tup [AV.agg [I (0 : Int), I (0 : Int), Bo false, Bo false, Bo false, I (0 : Int), I (0 : Int), I (0 : Int), I (0 : Int), Bo false, Bo false, Bo false, I (0 : Int), I (0 : Int), I (0 : Int), I (0 : Int)], Bo false, I (onEnc encRs chk (0 : Int) m)]))) ((okShR l len ∧ okShR m lm) ∧ Q (CR.ret (AV.tup [AV.agg [I (on2 diffV l m).p.cl, I (on2 diffV l m).p.vi, Bo (on2 diffV l m).p.ho, Bo (on2 diffV l m).p.de, Bo (on2 diffV l m).p.mo, I (on2 diffV l m).p.cr, I (on2 diffV l m).p.le, I (on2 diffV l m).q.cl, I (on2 diffV l m).q.vi, Bo (on2 diffV l m).q.ho, Bo (on2 diffV l m).q.de, Bo (on2 diffV l m).q.mo, I (on2 diffV l m).q.cr, I (on2 diffV l m).q.le, I (on2 diffV l m).a, I (on2 diffV l m).b], Bo !(on2 diffV l m).f, I (0 : Int)]))))) := by kernel_rfl
theorem v46 (l m : List AV) (len lm : Nat) (Q : CR → Prop) : wpF Tryz.X46 46 [.agg [.vs l len .none], .agg [.vs m lm .none]] Q =
  ((∃ (rs : List Rul), l = encRs rs ∧ len = rs.length ∧ wfRs rs) ∧ cIf (onEnc encRs chk (0 : Int) l != (0 : Int)) (Q (CR.ret (AV.tup [AV.agg [I (0 : Int), I (0 : Int), Bo false, Bo false, Bo false, I (0 : Int), I (0 : Int), I (0 : Int), I (0 : Int), Bo false, Bo false, Bo false, I (0 : Int), I (0 : Int), I (0 : Int), I (0 : Int)], Bo false, I (onEnc encRs chk (0 : Int) l)]))) ((∃ (rs : List Rul), m = encRs rs ∧ lm = rs.length ∧ wfRs rs) ∧ cIf (onEnc encRs chk (0 : Int) m != (0 : Int)) (Q (CR.ret (AV.tup [AV.agg [I (0 : Int), I (0 : Int), Bo false, Bo false, Bo false, I (0 : Int), I (0 : Int), I (0 : Int), I (0 : Int), Bo false, Bo false, Bo false, I (0 : Int), I (0 : Int), I (0 : Int), I (0 : Int)], Bo false, I (onEnc encRs chk (0 : Int) m)]))) ((okShR l len ∧ okShR m lm) ∧ Q (CR.ret (AV.tup [AV.agg [I (on2 diffV l m).p.cl, I (on2 diffV l m).p.vi, Bo (on2 diffV l m).p.ho, Bo (on2 diffV l m).p.de, Bo (on2 diffV l m).p.mo, I (on2 diffV l m).p.cr, I (on2 diffV l m).p.le, I (on2 diffV l m).q.cl, I (on2 diffV l m).q.vi, Bo (on2 diffV l m).q.ho, Bo (on2 diffV l m).q.de, Bo (on2 diffV l m).q.mo, I (on2 diffV l m).q.cr, I (on2 diffV l m).q.le, I (on2 diffV l m).a, I (on2 diffV l m).b], Bo !(on2 diffV l m).f, I (0 : Int)]))))) := by kernel_rfl
end Go.Proofs
/-! C87 -/
set_option maxRecDepth 100000
set_option linter.unusedVariables false
namespace Go.Proofs
open Go Go.Ev
theorem q87_11010 : cd PP 87 [1, 1, 0, 1, 0] = .rangeFunc (.tmp 16) #[17, 18] (cd PP 87 [1, 1, 0, 1, 0, 0]) (cd PP 87 [1, 1, 0, 1, 0, 1]) := by kernel_rfl
theorem q87_1101 : cd PP 87 [1, 1, 0, 1] = .block 0 (cd PP 87 [1, 1, 0, 1, 0]) := by kernel_rfl
theorem q87_110 : cd PP 87 [1, 1, 0] = .seq (cd PP 87 [1, 1, 0, 0]) (cd PP 87 [1, 1, 0, 1]) := by kernel_rfl
theorem q87_1110 : cd PP 87 [1, 1, 1, 0] = .region 8 (opsOf (cd PP 87 [1, 1, 1, 0])) false := by kernel_rfl
theorem q87_1111 : cd PP 87 [1, 1, 1, 1] = .ret := by kernel_rfl
theorem q87_111 : cd PP 87 [1, 1, 1] = .seq (cd PP 87 [1, 1, 1, 0]) (cd PP 87 [1, 1, 1, 1]) := by kernel_rfl
theorem q87_11 : cd PP 87 [1, 1] = .seq (cd PP 87 [1, 1, 0]) (cd PP 87 [1, 1, 1]) := by kernel_rfl
theorem q87_1 : cd PP 87 [1] = .seq (cd PP 87 [1, 0]) (cd PP 87 [1, 1]) := by kernel_rfl
theorem q87_ : cd PP 87 [] = .seq (cd PP 87 [0]) (cd PP 87 [1]) := by kernel_rfl
/-! The first case that two lists of rules decide differently. -/
theorem kind_bd (v w : Int) : 0 ≤ kindV v w ∧ kindV v w ≤ 3 := by unfold kindV; repeat' split <;> omega
theorem kind_wrap (v w : Int) : IntKind.i64.wrap (kindV v w) = kindV v w := wrap_id (by have := kind_bd v w; omega) (by have := kind_bd v w; omega)
def hs87 (rs ss : List Rul) (p q : Prf) (a b : Int) (f : Bool) : List (Option HB) := [some (.cells [.vs (encRs rs) rs.length .none] 25), some (.cells [.vs (encRs ss) ss.length .none] 25), some (.cells (encW p q a b) 61), some (.cells [Bo f] 4), some (.cells [.vs (encD (rankL rs)) rs.length .none] 49), some (.cells [.vs (encD (rankL ss)) ss.length .none] 49)]
theorem hs87_ok (rs ss : List Rul) (p q : Prf) (a b : Int) (f : Bool) : HsOk 6 (hs87 rs ss p q a b f) where
  len := rfl
  ok := by simp [hs87, okBlkS, noHB, noHL, noH, noH_encRs, encD_noH, encW]
  st := by simp [hs87, scrubHB, scrubL, scrub, Tok.scrub, sc_encRs, encD_sc, encW]
def Rd87 (rs ss : List Rul) : Rnd := fun it hs j hs' => ∃ x : Prf × Prf, it = itmP x ∧ hs = hs87 rs ss zPr zPr 0 0 false ∧ ((isDiff rs ss x = false ∧ j = none ∧ hs' = hs87 rs ss zPr zPr 0 0 false) ∨ (isDiff rs ss x = true ∧ j = some .ret ∧ hs' = hs87 rs ss x.1 x.2 (kdV rs x) (kdV ss x) true))
abbrev e87 : Env := [X, X, .ptr 0 0, .ptr 1 0, .ptr 2 0, .ptr 3 0, .ptr 4 0, .ptr 5 0, X, X, X, X, X, X, X, X, .fn (.func 127) [] []] ++ List.replicate 27 X
theorem c87r : Cts Tryz.B [(78, R78)] := (Cts.nil _).cons ct78
theorem o87r : Tryz.X87r.Ones := wcxP_ones Tryz.bok c87r
theorem k87r : CxOk Tryz.X87r.cx := wcxP_ok Tryz.bok c87r
section
attribute [local irreducible] wpC wpF
theorem rd87 {rs ss : List Rul} (hrs : okRs rs) (hsh : ∀ x ∈ rs, shT x.t = true) (hss : okRs ss) (hsh2 : ∀ x ∈ ss, shT x.t = true) : RoundOk Tryz.X87r #[17, 18] (cd PP 87 [1, 1, 0, 1, 0, 0]) (cd PP 87 [1, 1, 0, 1, 0, 1]) e87 (Rd87 rs ss) := by
  rintro it hs j hs' ⟨x, rfl, rfl, h⟩ _
  refine ⟨rfl, ?_⟩
  rw [show setPs e87 (#[17, 18] : Array Tmp).toList (itmP x) = ([X, X, .ptr 0 0, .ptr 1 0, .ptr 2 0, .ptr 3 0, .ptr 4 0, .ptr 5 0, X, X, X, X, X, X, X, X, .fn (.func 127) [] [], .agg (encP x.1), .agg (encP x.2)] ++ List.replicate 25 X) by kernel_rfl]
  refine (v87g (encRs rs) (encRs ss) (encD (rankL rs)) (encD (rankL ss)) rs.length ss.length rs.length ss.length x.1 x.2 _).mpr ⟨rfl, ?_⟩
  refine (v87h (encRs rs) (encRs ss) (encD (rankL rs)) (encD (rankL ss)) rs.length ss.length rs.length ss.length x.1 x.2 _).mpr ?_
  rw [dvP_dec, dvP_dec, kind_wrap, kind_wrap]
  refine cIf_pos (by simp [noHL, noH, noH_encRs, encD_noH, noH_encP]) ⟨d78 hrs hsh _ _, rfl, cIf_pos (by simp [noHL, noH, noH_encRs, encD_noH, noH_encP]) ⟨d78 hss hsh2 _ _, rfl, cIf_intro (fun hc => ?_) (fun hc => ?_)⟩⟩
  · have hg : isDiff rs ss x = true := hc
    rcases h with ⟨h1, _⟩ | ⟨_, rfl, rfl⟩
    · rw [hg] at h1; cases h1
    · exact ⟨fun v h => (by cases h), rfl, (hs87_ok rs ss x.1 x.2 (kdV rs x) (kdV ss x) true).okBlk, (hs87_ok rs ss x.1 x.2 (kdV rs x) (kdV ss x) true).st⟩
  · have hg : isDiff rs ss x = false := hc
    rcases h with ⟨_, rfl, rfl⟩ | ⟨h1, _⟩
    · exact ⟨fun v h => (by cases h), rfl, (hs87_ok rs ss zPr zPr 0 0 false).okBlk, (hs87_ok rs ss zPr zPr 0 0 false).st⟩
    · rw [hg] at h1; cases h1
theorem run87 {rs ss : List Rul} : (∀ x, csL.find? (isDiff rs ss) = some x → runI 6 (Rd87 rs ss) itsL (hs87 rs ss zPr zPr 0 0 false) (some .ret) (hs87 rs ss x.1 x.2 (kdV rs x) (kdV ss x) true)) ∧ (csL.find? (isDiff rs ss) = none → runI 6 (Rd87 rs ss) itsL (hs87 rs ss zPr zPr 0 0 false) none (hs87 rs ss zPr zPr 0 0 false)) := by
  rw [itsL_eq]
  exact runI_find (isDiff rs ss) (hs87_ok _ _ _ _ _ _ _) (fun x => hs87_ok _ _ _ _ _ _ _) (fun x hx => ⟨x, rfl, rfl, .inl ⟨hx, rfl, rfl⟩⟩) (fun x hx => ⟨x, rfl, rfl, .inr ⟨hx, rfl, rfl⟩⟩) csL
theorem c87 : Cts Tryz.B [(79, R79), (85, R85)] := ((Cts.nil _).cons ct85).cons ct79
theorem o87 : Tryz.X87.Ones := wcx_ones Tryz.bok c87
theorem k87 : CxOk Tryz.X87.cx := wcx_ok Tryz.bok c87
def Wit.two (w : Wit) : CR := .ret (.tup [.agg (encW w.p w.q w.a w.b), Bo w.f])
theorem w87 {rs ss : List Rul} (hrs : okRs rs) (hsh : ∀ x ∈ rs, shT x.t = true) (hss : okRs ss) (hsh2 : ∀ x ∈ ss, shT x.t = true) : RW Tryz.X87.pc 0 none noY (cd PP 87 []) ([.agg [.vs (encRs rs) rs.length .none], .agg [.vs (encRs ss) ss.length .none]] ++ List.replicate 42 X) St.nil ⟨none, 0⟩ (kRetZ Tryz.X87 87 (diffV rs ss).two) := by
  rw [q87_]
  refine RW.seq (RW.of_wpC o87 k87 rfl ?_)
  refine (v87a (encRs rs) (encRs ss) rs.length ss.length _).mpr ?_
  show RW _ _ _ _ (cd PP 87 [1]) _ _ _ _
  rw [q87_1]
  refine RW.seq (RW.mask' [2, 3, 4, 5] (env' := [X, X, .ptr 0 0, .ptr 1 0, .ptr 2 0, .ptr 3 0] ++ List.replicate 38 X) (by kernel_rfl) (RW.of_wpC o87 k87 rfl ?_))
  refine (v87b (encRs rs) (encRs ss) rs.length ss.length _).mpr ?_
  rw [onEnc_eq encRs_inj, onEnc_eq encRs_inj]
  refine cIf_pos (by simp [noHL, noH, noH_encRs]) ⟨⟨rs, rfl, rfl, hrs⟩, rfl, cIf_pos (by simp [noHL, noH, noH_encRs]) ⟨⟨ss, rfl, rfl, hss⟩, rfl, ?_⟩⟩
  show RW _ _ _ _ (cd PP 87 [1, 1]) _ _ _ _
  rw [q87_11, q87_110]
  refine RW.seq (RW.seq (RW.mask' [2, 3, 4, 5, 6, 7] (env' := [X, X, .ptr 0 0, .ptr 1 0, .ptr 2 0, .ptr 3 0, .ptr 4 0, .ptr 5 0] ++ List.replicate 36 X) (by kernel_rfl) (RW.wl (RW.of_wpC o87 k87 rfl ?_))))
  refine (v87c (encRs rs) (encRs ss) (encD (rankL rs)) (encD (rankL ss)) rs.length ss.length rs.length ss.length _).mpr ⟨trivial, ?_⟩
  show RW _ _ _ _ (cd PP 87 [1, 1, 0, 1]) _ _ _ _
  rw [q87_1101, q87_11010]
  refine RW.block ?_
  have hr := run87 (rs := rs) (ss := ss)
  cases hx : csL.find? (isDiff rs ss) with
  | none =>
    have hcl : (diffV rs ss).two = zWit.two := by unfold diffV; rw [hx]; rfl
    rw [hcl]
    refine RW.range (C := Tryz.X87r) (hs := hs87 rs ss zPr zPr 0 0 false) (m := 0) o87r k87r (fun g l h => Tryz.gtpB g l h) rfl rfl (by kernel_rfl) (by kernel_rfl) rfl (SeqOk.congr (C := (yX6).pc) (D := Tryz.X87r.cx) rfl rfl sq127_6) (rd87 hrs hsh hss hsh2) (hs87_ok _ _ _ _ _ _ _) (by kernel_rfl) (by kernel_rfl) (hr.2 hx) ?_
    show RW _ _ _ _ (cd PP 87 [1, 1, 1]) _ _ _ _
    rw [q87_111, q87_1110]
    refine RW.seq (RW.cxpc (RW.region o87 k87 ?_))
    rw [← q87_1110]
    refine (v87z (encRs rs) (encRs ss) (encD (rankL rs)) (encD (rankL ss)) rs.length ss.length rs.length ss.length _).mpr ?_
    show RW _ _ _ _ (cd PP 87 [1, 1, 1, 1]) _ _ _ _
    rw [q87_1111]
    refine RW.ret ⟨fun v h => (by cases h), ?_⟩
    exact ret_wpC q87_1111 ((v87e (encRs rs) (encRs ss) (encD (rankL rs)) (encD (rankL ss)) rs.length ss.length rs.length ss.length zPr zPr 0 0 false (.agg (encW zPr zPr 0 0)) _ _).mpr rfl)
  | some x =>
    have hcl : (diffV rs ss).two = (Wit.mk x.1 x.2 (kdV rs x) (kdV ss x) true 0).two := by unfold diffV; rw [hx]; rfl
    rw [hcl]
    refine RW.range (C := Tryz.X87r) (hs := hs87 rs ss zPr zPr 0 0 false) (m := 0) o87r k87r (fun g l h => Tryz.gtpB g l h) rfl rfl (by kernel_rfl) (by kernel_rfl) rfl (SeqOk.congr (C := (yX6).pc) (D := Tryz.X87r.cx) rfl rfl sq127_6) (rd87 hrs hsh hss hsh2) (hs87_ok _ _ _ _ _ _ _) (by kernel_rfl) (by kernel_rfl) (hr.1 x hx) ?_
    exact ⟨fun v h => (by cases h), ret_wpC q87_1111 ((v87e (encRs rs) (encRs ss) (encD (rankL rs)) (encD (rankL ss)) rs.length ss.length rs.length ss.length x.1 x.2 (kdV rs x) (kdV ss x) true X _ _).mpr rfl)⟩
theorem on2_eq (f : List Rul → List Rul → Wit) (rs ss : List Rul) : on2 f (encRs rs) (encRs ss) = f rs ss := by
  unfold on2
  rw [onEnc_eq encRs_inj, onEnc_eq encRs_inj]
theorem ct87 : Ct Tryz.B.c0 87 R87 where
  body := ⟨_, _, Tryz.func87, rfl⟩
  ok := fun args D r hR hD => by
    unfold R87 at hR
    split at hR <;> cases hR
    obtain ⟨⟨rs, rfl, rfl, hrs, hsh⟩, ss, rfl, rfl, hss, hsh2⟩ := hD
    refine ⟨by simp [noHL, noH, noH_encRs], ?_⟩
    rw [show scrubL 0 [AV.agg [.vs (encRs rs) rs.length .none], AV.agg [.vs (encRs ss) ss.length .none]] = [AV.agg [.vs (encRs rs) rs.length .none], AV.agg [.vs (encRs ss) ss.length .none]] by simp [scrubL, scrub, sc_encRs, Tok.scrub], on2_eq]
    have := CallOk.of_RW (C := Tryz.X87) (g := 87) (args := [AV.agg [.vs (encRs rs) rs.length .none], AV.agg [.vs (encRs ss) ss.length .none]]) (fn := Tryz.f87) (c := cd PP 87 []) k87 Tryz.func87 (by kernel_rfl) (RW.congr (C := Tryz.X87.pc) (D := Tryz.X87.cx) rfl rfl (w87 hrs hsh hss hsh2))
    exact fun G w us h1 h2 h3 => this G w us h1 h2 h3
end
theorem c88 : Cts Tryz.B [(54, RPl yP), (83, R83), (86, R86)] := (((Cts.nil _).cons ct86).cons ct83).cons ct54
section
attribute [local irreducible] csL caseAt
variable {rs ss : List Rul} (hrs : okRs rs) (hss : okRs ss) {Q : CR → Prop}
include hrs hss
theorem l88 : ∀ (d i : Nat), 129600 - i = d → i ≤ 129600 → Q (foundW ((csL.drop i).find? (isDiff rs ss)) (kdV rs) (kdV ss)).two →
    WLoop (Tryz.X88 yP) (cd PP 88 [1, 1, 0, 1, 0, 0]) ([X, X, .ptr 0 0, .ptr 1 0, .ptr 2 0, X, .vs yP 120 .none, I i] ++ List.replicate 42 X) ⟨[some (.cells [.vs (encRs rs) rs.length .none] 25), some (.cells [.vs (encRs ss) ss.length .none] 25), some (.cells (encW zPr zPr 0 0) 61)], [], []⟩ (kBlock 0 (kSeq (Tryz.X88 yP) (cd PP 88 [1, 1, 1]) (kRet (Tryz.X88 yP) 88 Q))) := by
  intro d
  induction d with
  | zero =>
    intro i hd hi hQ
    have hi' : i = 129600 := by omega
    subst hi'
    rw [List.drop_eq_nil_of_le (by rw [csL_len]; omega)] at hQ
    refine WLoop_unroll (C := Tryz.X88 yP) (wcx_ones Tryz.bok c88) (wcx_ok Tryz.bok c88) ?_
    rw [v88l]
    have hc1 : decide (((129600 : Nat) : Int) < (129600 : Int)) = false := decide_eq_false (by omega)
    rw [hc1, cIf_false]
    exact hQ
  | succ d ih =>
    intro i hd hi hQ
    have hlt : i < 129600 := by omega
    have hc := csL_drop hlt
    rw [hc, List.find?_cons] at hQ
    refine WLoop_unroll (C := Tryz.X88 yP) (wcx_ones Tryz.bok c88) (wcx_ok Tryz.bok c88) ?_
    rw [v88l, Int.toNat_natCast, dvR_eq, dvR_eq, ← decV_1 hrs, ← decV_2 hrs, ← decV_1 hss, ← decV_2 hss, kind_wrap, kind_wrap]
    have hc1 : decide ((i : Int) < (129600 : Int)) = true := decide_eq_true (by omega)
    rw [hc1, cIf_true]
    refine ⟨⟨rfl, rfl, by omega, by omega⟩, ⟨⟨rs, rfl, rfl, hrs⟩, ⟨(caseAt i).1, rfl⟩, (caseAt i).2, rfl⟩, ⟨⟨ss, rfl, rfl, hss⟩, ⟨(caseAt i).1, rfl⟩, (caseAt i).2, rfl⟩, cIf_intro (fun h => ?_) (fun h => ?_)⟩
    · rw [show isDiff rs ss (caseAt i) = true from h] at hQ
      have hQ2 : Q (Wit.mk (caseAt i).1 (caseAt i).2 (kdV rs (caseAt i)) (kdV ss (caseAt i)) true 0).two := hQ
      generalize caseAt i = x at hQ2 ⊢
      exact hQ2
    · rw [show isDiff rs ss (caseAt i) = false from h] at hQ
      rw [wrap_id (x := (i : Int) + 1) (by omega) (by omega)]
      exact cIf_pos (by simp [noHL, noH, noHL_append, noHL_rep, noH_encPs]) (cIf_pos (by simp [okBlk, noHB, noHL, noH, noH_encRs, encW]) (ih (i + 1) (by omega) (by omega) hQ))
end
theorem ct88 : Ct Tryz.B.c0 88 R87 := Ct.of_wp (l := [(54, RPl yP), (83, R83), (86, R86)]) (lm := lm88) (tp := []) (ct := []) (sm := [(3, 3)]) Tryz.bok c88 ⟨_, _, Tryz.func88, rfl⟩ fun args D r hR hD => by
  unfold R87 at hR
  split at hR <;> cases hR
  obtain ⟨⟨rs, rfl, rfl, hrs, hsh⟩, ss, rfl, rfl, hss, hsh2⟩ := hD
  refine ⟨by simp [noHL, noH, noH_encRs], ?_⟩
  rw [show scrubL 0 [AV.agg [.vs (encRs rs) rs.length .none], AV.agg [.vs (encRs ss) ss.length .none]] = [AV.agg [.vs (encRs rs) rs.length .none], AV.agg [.vs (encRs ss) ss.length .none]] by simp [scrubL, scrub, sc_encRs, Tok.scrub], on2_eq]
  show wpF (Tryz.X88 yP) 88 _ _
  rw [v88]
  exact ⟨trivial, cIf_pos (by simp [noHL, noH, noHL_append, noHL_rep, noH_encPs]) (cIf_pos (by simp [okBlk, noHB, noHL, noH, noH_encRs, encW]) (l88 hrs hss 129600 0 (by omega) (by omega) rfl))⟩
/-! Same. -/
section
attribute [local irreducible] csL diffV chk
theorem same_fin {rs ss : List Rul} (hw : wfRs rs) (hw2 : wfRs ss) {Q : CR → Prop} (hQ : Q (sameV rs ss).ret) :
    ((∃ (rs_1 : List Rul), encRs rs = encRs rs_1 ∧ rs.length = rs_1.length ∧ wfRs rs_1) ∧ cIf (chk rs != (0 : Int)) (Q (errW (chk rs)).ret) ((∃ (rs_1 : List Rul), encRs ss = encRs rs_1 ∧ ss.length = rs_1.length ∧ wfRs rs_1) ∧ cIf (chk ss != (0 : Int)) (Q (errW (chk ss)).ret) ((okShR (encRs rs) rs.length ∧ okShR (encRs ss) ss.length) ∧ Q { diffV rs ss with f := !(diffV rs ss).f, e := 0 : Wit }.ret))) := by
  unfold sameV at hQ
  refine ⟨⟨rs, rfl, rfl, hw⟩, cIf_intro (fun h => ?_) (fun h => ⟨⟨ss, rfl, rfl, hw2⟩, cIf_intro (fun h2 => ?_) (fun h2 => ?_)⟩)⟩
  · rw [if_neg (by simpa using h)] at hQ; exact hQ
  · rw [if_pos (by simpa using h), if_neg (by simpa using h2)] at hQ; exact hQ
  · have h : chk rs = 0 := by simpa using h
    have h2 : chk ss = 0 := by simpa using h2
    rw [if_pos h, if_pos h2] at hQ
    obtain ⟨a1, a2, _⟩ := chk_ok hw h
    obtain ⟨b1, b2, _⟩ := chk_ok hw2 h2
    exact ⟨⟨⟨rs, rfl, rfl, a1, a2⟩, ss, rfl, rfl, b1, b2⟩, hQ⟩
theorem ct45 : Ct Tryz.B.c0 45 R45 := Ct.of_wp (l := [(27, R27), (87, R87)]) (lm := []) (tp := []) (ct := []) (sm := []) Tryz.bok (((Cts.nil _).cons ct87).cons ct27') ⟨_, _, Tryz.func45, rfl⟩ fun args D r hR hD => by
  unfold R45 at hR
  split at hR <;> cases hR
  obtain ⟨⟨rs, rfl, rfl, hw⟩, ss, rfl, rfl, hw2⟩ := hD
  refine ⟨by simp [noHL, noH, noH_encRs], ?_⟩
  rw [show scrubL 0 [AV.agg [.vs (encRs rs) rs.length .none], AV.agg [.vs (encRs ss) ss.length .none]] = [AV.agg [.vs (encRs rs) rs.length .none], AV.agg [.vs (encRs ss) ss.length .none]] by simp [scrubL, scrub, sc_encRs, Tok.scrub], on2_eq]
  show wpF Tryz.X45 45 _ _
  rw [v45, on2_eq, onEnc_eq encRs_inj, onEnc_eq encRs_inj]
  exact same_fin (Q := fun r' => r' = (sameV rs ss).ret) hw hw2 rfl
theorem ct46 : Ct Tryz.B.c0 46 R45 := Ct.of_wp (l := [(70, R70), (88, R87)]) (lm := []) (tp := []) (ct := []) (sm := []) Tryz.bok (((Cts.nil _).cons ct88).cons ct70) ⟨_, _, Tryz.func46, rfl⟩ fun args D r hR hD => by
  unfold R45 at hR
  split at hR <;> cases hR
  obtain ⟨⟨rs, rfl, rfl, hw⟩, ss, rfl, rfl, hw2⟩ := hD
  refine ⟨by simp [noHL, noH, noH_encRs], ?_⟩
  rw [show scrubL 0 [AV.agg [.vs (encRs rs) rs.length .none], AV.agg [.vs (encRs ss) ss.length .none]] = [AV.agg [.vs (encRs rs) rs.length .none], AV.agg [.vs (encRs ss) ss.length .none]] by simp [scrubL, scrub, sc_encRs, Tok.scrub], on2_eq]
  show wpF Tryz.X46 46 _ _
  rw [v46, on2_eq, onEnc_eq encRs_inj, onEnc_eq encRs_inj]
  exact same_fin (Q := fun r' => r' = (sameV rs ss).ret) hw hw2 rfl
end
end Go.Proofs
