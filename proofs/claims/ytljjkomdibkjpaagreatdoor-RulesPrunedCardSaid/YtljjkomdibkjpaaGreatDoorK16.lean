/- Contracts of functions of the program and of the reference. -/
import Derived.Test.YtljjkomdibkjpaaGreatDoorK12
import Derived.Test.YtljjkomdibkjpaaGreatDoorE6
import Derived.Test.YtljjkomdibkjpaaGreatDoorK14
import Derived.Test.YtljjkomdibkjpaaGreatDoorK15
set_option linter.unusedVariables false
set_option linter.unusedSimpArgs false
set_option maxRecDepth 100000
set_option linter.unusedVariables false
namespace Go.Proofs
open Go Go.Ev
-- elP
noncomputable def Tryz.X127_6 (pl:List AV):WCx:=Tryz.B.wcxP 6 [(38,RPl pl)]
theorem w94 (pl:List AV) (y:Nat) (h0 h1 h2 h3 h4 h5:Option HB) (k:Kont):wpC (Tryz.X127_6 pl) (cd PP 127 [0]) ([.fn (.yield y) [] []]++List.replicate 57 X) ⟨[h0,h1,h2,h3,h4,h5],[],[]⟩ k =
 (k EX.normal ([AV.fn (Fn.yield y) [] [],X,AV.ptr 6 0,X,X,X,X,X,X,X,X,X,AV.agg [I 0,I 1],AV.agg [I 0,I 0],AV.agg [I 1,I 0],AV.agg [I 0,I 1,I 0,I 0,I 1,I 0]]++List.replicate 42 X) (St.mk [h0,h1,h2,h3,h4,h5,some (HB.cells [I 0,I 1,I 0,I 0,I 1,I 0] 172)] [] [6])):=by kernel_rfl
theorem w93 (pl:List AV) (y:Nat) (h0 h1 h2 h3 h4 h5:Option HB) (k:Kont):wpC (Tryz.X127_6 pl) (cd PP 127 [1,0]) ([.fn (.yield y) [] [],X,.ptr 6 0]++List.replicate 55 X) ⟨[h0,h1,h2,h3,h4,h5,some (.cells [I 0,I 1,I 0,I 0,I 1,I 0] 172)],[],[]⟩ k =
 (True∧k EX.normal ([AV.fn (Fn.yield y) [] [],X,AV.ptr 6 0,AV.vs pl 120 Tok.none,X,X,X,X,X,X,X,X,X,X,X,X,AV.vs pl 120 Tok.none]++List.replicate 41 X) (St.mk [h0,h1,h2,h3,h4,h5,some (HB.cells [I 0,I 1,I 0,I 0,I 1,I 0] 172)] [] [])):=by kernel_rfl
theorem w92 (pl:List AV) (y:Nat) (h0 h1 h2 h3 h4 h5:Option HB) (k:Kont):wpC (Tryz.X127_6 pl) (cd PP 127 [1,1,0]) ([.fn (.yield y) [] [],X,.ptr 6 0,.vs pl 120 .none]++List.replicate 54 X) ⟨[h0,h1,h2,h3,h4,h5,some (.cells [I 0,I 1,I 0,I 0,I 1,I 0] 172)],[],[]⟩ k =
 (k EX.normal ([AV.fn (Fn.yield y) [] [],X,AV.ptr 6 0,AV.vs pl 120 Tok.none,X,X,X,X,X,X,X,X,X,X,X,X,X,AV.vs pl 120 Tok.none,I 120,I 0]++List.replicate 38 X) (St.mk [h0,h1,h2,h3,h4,h5,some (HB.cells [I 0,I 1,I 0,I 0,I 1,I 0] 172)] [] [])):=by kernel_rfl
theorem w5n (pl:List AV) (y:Nat) (h0 h1 h2 h3 h4 h5:Option HB) (i:Int) (k:Kont):wpC (Tryz.X127_6 pl) (cd PP 127 [1,1,1,0,0,0]) ([.fn (.yield y) [] [],X,.ptr 6 0,.vs pl 120 .none,X,X,X,X,X,X,X,X,X,X,X,X,X,.vs pl 120 .none,I 120,I i]++List.replicate 38 X) ⟨[h0,h1,h2,h3,h4,h5,some (.cells [I 0,I 1,I 0,I 0,I 1,I 0] 172)],[],[]⟩ k =
 (k EX.normal ([AV.fn (Fn.yield y) [] [],X,AV.ptr 6 0,AV.vs pl 120 Tok.none,X,X,X,X,X,X,X,X,X,X,X,X,X,AV.vs pl 120 Tok.none,I 120,I i,Bo (decide (i < (120:Int)))]++List.replicate 37 X) (St.mk [h0,h1,h2,h3,h4,h5,some (HB.cells [I 0,I 1,I 0,I 0,I 1,I 0] 172)] [] [])):=by kernel_rfl
theorem w91 (pl:List AV) (y:Nat) (h0 h1 h2 h3 h4 h5:Option HB) (i:Int) (k:Kont):wpC (Tryz.X127_6 pl) (cd PP 127 [1,1,1,0,0,1,1,0,0,0]) ([.fn (.yield y) [] [],X,.ptr 6 0,.vs pl 120 .none,X,X,X,X,X,X,X,X,X,X,X,X,X,.vs pl 120 .none,I 120,I i]++List.replicate 38 X) ⟨[h0,h1,h2,h3,h4,h5,some (.cells [I 0,I 1,I 0,I 0,I 1,I 0] 172)],[],[]⟩ k =
 (cIf (decide ((0:Int) ≤ i)) (cIf (decide (i.toNat < 120)) (cIf (decide (840 = pl.length)) (cIf (decide (7 ≤ (List.drop (i.toNat * 7) pl).length)) (cIf (like zP (el (List.drop (i.toNat * 7) pl) 0 7)) (k EX.normal ([AV.fn (Fn.yield y) [] [],X,AV.ptr 6 0,AV.vs pl 120 Tok.none,X,AV.ptr 7 0,X,X,X,X,X,X,X,X,X,X,X,AV.vs pl 120 Tok.none,I 120,I i,X,AV.vp (List.drop (i.toNat * 7) pl),AV.agg (elP (el (List.drop (i.toNat * 7) pl) 0 7))]++List.replicate 35 X) (St.mk [h0,h1,h2,h3,h4,h5,some (HB.cells [I 0,I 1,I 0,I 0,I 1,I 0] 172),some (HB.cells (elP (el (List.drop (i.toNat * 7) pl) 0 7)) 40)] [] [7])) False) False) False) False) False):=by kernel_rfl
theorem w90 (pl:List AV) (y:Nat) (h0 h1 h2 h3 h4 h5:Option HB) (i:Int) (a:Prf) (k:Kont):wpC (Tryz.X127_6 pl) (cd PP 127 [1,1,1,0,0,1,1,0,0,1,0]) ([.fn (.yield y) [] [],X,.ptr 6 0,.vs pl 120 .none,X,.ptr 7 0,X,X,X,X,X,X,X,X,X,X,X,.vs pl 120 .none,I 120,I i]++List.replicate 38 X) ⟨[h0,h1,h2,h3,h4,h5,some (.cells [I 0,I 1,I 0,I 0,I 1,I 0] 172),some (.cells (z0a a) 40)],[],[]⟩ k =
 (k EX.normal ([AV.fn (Fn.yield y) [] [],X,AV.ptr 6 0,AV.vs pl 120 Tok.none,X,AV.ptr 7 0,X,X,X,X,X,X,X,X,X,X,X,AV.vs pl 120 Tok.none,I 120,I i,X,X,X,AV.vs pl 120 Tok.none,I 120,I 0]++List.replicate 32 X) (St.mk [h0,h1,h2,h3,h4,h5,some (HB.cells [I 0,I 1,I 0,I 0,I 1,I 0] 172),some (HB.cells (z0a a) 40)] [] [])):=by kernel_rfl
theorem w5m (pl:List AV) (y:Nat) (h0 h1 h2 h3 h4 h5:Option HB) (i j:Int) (a:Prf) (k:Kont):wpC (Tryz.X127_6 pl) (cd PP 127 [1,1,1,0,0,1,1,0,0,1,1,0,0,0]) ([.fn (.yield y) [] [],X,.ptr 6 0,.vs pl 120 .none,X,.ptr 7 0,X,X,X,X,X,X,X,X,X,X,X,.vs pl 120 .none,I 120,I i,X,X,X,.vs pl 120 .none,I 120,I j]++List.replicate 32 X) ⟨[h0,h1,h2,h3,h4,h5,some (.cells [I 0,I 1,I 0,I 0,I 1,I 0] 172),some (.cells (z0a a) 40)],[],[]⟩ k =
 (k EX.normal ([AV.fn (Fn.yield y) [] [],X,AV.ptr 6 0,AV.vs pl 120 Tok.none,X,AV.ptr 7 0,X,X,X,X,X,X,X,X,X,X,X,AV.vs pl 120 Tok.none,I 120,I i,X,X,X,AV.vs pl 120 Tok.none,I 120,I j,Bo (decide (j < (120:Int)))]++List.replicate 31 X) (St.mk [h0,h1,h2,h3,h4,h5,some (HB.cells [I 0,I 1,I 0,I 0,I 1,I 0] 172),some (HB.cells (z0a a) 40)] [] [])):=by kernel_rfl
theorem w9z (pl:List AV) (y:Nat) (h0 h1 h2 h3 h4 h5:Option HB) (i j:Int) (a:Prf) (k:Kont):wpC (Tryz.X127_6 pl) (cd PP 127 [1,1,1,0,0,1,1,0,0,1,1,0,0,1,1,0,0,0]) ([.fn (.yield y) [] [],X,.ptr 6 0,.vs pl 120 .none,X,.ptr 7 0,X,X,X,X,X,X,X,X,X,X,X,.vs pl 120 .none,I 120,I i,X,X,X,.vs pl 120 .none,I 120,I j]++List.replicate 32 X) ⟨[h0,h1,h2,h3,h4,h5,some (.cells [I 0,I 1,I 0,I 0,I 1,I 0] 172),some (.cells (z0a a) 40)],[],[]⟩ k =
 (cIf (decide ((0:Int) ≤ j)) (cIf (decide (j.toNat < 120)) (cIf (decide (840 = pl.length)) (cIf (decide (7 ≤ (List.drop (j.toNat * 7) pl).length)) (cIf (like zP (el (List.drop (j.toNat * 7) pl) 0 7)) (k EX.normal ([AV.fn (Fn.yield y) [] [],X,AV.ptr 6 0,AV.vs pl 120 Tok.none,X,AV.ptr 7 0,X,AV.ptr 8 0,X,X,X,X,X,X,X,X,X,AV.vs pl 120 Tok.none,I 120,I i,X,X,X,AV.vs pl 120 Tok.none,I 120,I j,X,AV.vp (List.drop (j.toNat * 7) pl),AV.agg (elP (el (List.drop (j.toNat * 7) pl) 0 7))]++List.replicate 29 X) (St.mk [h0,h1,h2,h3,h4,h5,some (HB.cells [I 0,I 1,I 0,I 0,I 1,I 0] 172),some (HB.cells (z0a a) 40),some (HB.cells (elP (el (List.drop (j.toNat * 7) pl) 0 7)) 40)] [] [8])) False) False) False) False) False):=by kernel_rfl
theorem w9y (pl:List AV) (y:Nat) (h0 h1 h2 h3 h4 h5:Option HB) (i j:Int) (a b:Prf) (k:Kont):wpC (Tryz.X127_6 pl) (cd PP 127 [1,1,1,0,0,1,1,0,0,1,1,0,0,1,1,0,0,1,0]) ([.fn (.yield y) [] [],X,.ptr 6 0,.vs pl 120 .none,X,.ptr 7 0,X,.ptr 8 0,X,X,X,X,X,X,X,X,X,.vs pl 120 .none,I 120,I i,X,X,X,.vs pl 120 .none,I 120,I j]++List.replicate 32 X) ⟨[h0,h1,h2,h3,h4,h5,some (.cells [I 0,I 1,I 0,I 0,I 1,I 0] 172),some (.cells (z0a a) 40),some (.cells (z0a b) 40)],[],[]⟩ k =
 (k EX.normal ([AV.fn (Fn.yield y) [] [],X,AV.ptr 6 0,AV.vs pl 120 Tok.none,X,AV.ptr 7 0,X,AV.ptr 8 0,X,X,X,X,X,X,X,X,X,AV.vs pl 120 Tok.none,I 120,I i,X,X,X,AV.vs pl 120 Tok.none,I 120,I j,X,X,X,AV.agg [I 0,I 1,I 0,I 0,I 1,I 0],I 0]++List.replicate 27 X) (St.mk [h0,h1,h2,h3,h4,h5,some (HB.cells [I 0,I 1,I 0,I 0,I 1,I 0] 172),some (HB.cells (z0a a) 40),some (HB.cells (z0a b) 40)] [] [])):=by kernel_rfl
theorem w5l (pl:List AV) (y:Nat) (h0 h1 h2 h3 h4 h5:Option HB) (i j c:Int) (a b:Prf) (k:Kont):wpC (Tryz.X127_6 pl) (cd PP 127 [1,1,1,0,0,1,1,0,0,1,1,0,0,1,1,0,0,1,1,0,0,0]) ([.fn (.yield y) [] [],X,.ptr 6 0,.vs pl 120 .none,X,.ptr 7 0,X,.ptr 8 0,X,X,X,X,X,X,X,X,X,.vs pl 120 .none,I 120,I i,X,X,X,.vs pl 120 .none,I 120,I j,X,X,X,.agg [I 0,I 1,I 0,I 0,I 1,I 0],I c]++List.replicate 27 X) ⟨[h0,h1,h2,h3,h4,h5,some (.cells [I 0,I 1,I 0,I 0,I 1,I 0] 172),some (.cells (z0a a) 40),some (.cells (z0a b) 40)],[],[]⟩ k =
 (k EX.normal ([AV.fn (Fn.yield y) [] [],X,AV.ptr 6 0,AV.vs pl 120 Tok.none,X,AV.ptr 7 0,X,AV.ptr 8 0,X,X,X,X,X,X,X,X,X,AV.vs pl 120 Tok.none,I 120,I i,X,X,X,AV.vs pl 120 Tok.none,I 120,I j,X,X,X,AV.agg [I 0,I 1,I 0,I 0,I 1,I 0],I c,Bo (decide (c < (3:Int)))]++List.replicate 26 X) (St.mk [h0,h1,h2,h3,h4,h5,some (HB.cells [I 0,I 1,I 0,I 0,I 1,I 0] 172),some (HB.cells (z0a a) 40),some (HB.cells (z0a b) 40)] [] [])):=by kernel_rfl
theorem w42 (pl:List AV) (y:Nat) (h0 h1 h2 h3 h4 h5:Option HB) (i j:Int) (a b:Prf) (k:Kont):wpC (Tryz.X127_6 pl) (cd PP 127 [1,1,1,0,0,1,1,0,0,1,1,0,0,1,1,0,0,1,1,0,0,1,1,0,0,0]) ([.fn (.yield y) [] [],X,.ptr 6 0,.vs pl 120 .none,X,.ptr 7 0,X,.ptr 8 0,X,X,X,X,X,X,X,X,X,.vs pl 120 .none,I 120,I i,X,X,X,.vs pl 120 .none,I 120,I j,X,X,X,.agg [I 0,I 1,I 0,I 0,I 1,I 0],I 0]++List.replicate 27 X) ⟨[h0,h1,h2,h3,h4,h5,some (.cells [I 0,I 1,I 0,I 0,I 1,I 0] 172),some (.cells (z0a a) 40),some (.cells (z0a b) 40)],[],[]⟩ k =
 (k EX.normal ([AV.fn (Fn.yield y) [] [],X,AV.ptr 6 0,AV.vs pl 120 Tok.none,X,AV.ptr 7 0,X,AV.ptr 8 0,X,AV.ptr 9 0,X,X,X,X,X,X,X,AV.vs pl 120 Tok.none,I 120,I i,X,X,X,AV.vs pl 120 Tok.none,I 120,I j,X,X,X,AV.agg [I 0,I 1,I 0,I 0,I 1,I 0],I 0,X,AV.agg [I 0,I 1]]++List.replicate 25 X) (St.mk [h0,h1,h2,h3,h4,h5,some (HB.cells [I 0,I 1,I 0,I 0,I 1,I 0] 172),some (HB.cells (z0a a) 40),some (HB.cells (z0a b) 40),some (HB.cells [I 0,I 1] 171)] [] [9])):=by kernel_rfl
theorem w40 (pl:List AV) (y:Nat) (h0 h1 h2 h3 h4 h5:Option HB) (i j:Int) (a b:Prf) (k:Kont):wpC (Tryz.X127_6 pl) (cd PP 127 [1,1,1,0,0,1,1,0,0,1,1,0,0,1,1,0,0,1,1,0,0,1,1,0,0,0]) ([.fn (.yield y) [] [],X,.ptr 6 0,.vs pl 120 .none,X,.ptr 7 0,X,.ptr 8 0,X,X,X,X,X,X,X,X,X,.vs pl 120 .none,I 120,I i,X,X,X,.vs pl 120 .none,I 120,I j,X,X,X,.agg [I 0,I 1,I 0,I 0,I 1,I 0],I 1]++List.replicate 27 X) ⟨[h0,h1,h2,h3,h4,h5,some (.cells [I 0,I 1,I 0,I 0,I 1,I 0] 172),some (.cells (z0a a) 40),some (.cells (z0a b) 40)],[],[]⟩ k =
 (k EX.normal ([AV.fn (Fn.yield y) [] [],X,AV.ptr 6 0,AV.vs pl 120 Tok.none,X,AV.ptr 7 0,X,AV.ptr 8 0,X,AV.ptr 9 0,X,X,X,X,X,X,X,AV.vs pl 120 Tok.none,I 120,I i,X,X,X,AV.vs pl 120 Tok.none,I 120,I j,X,X,X,AV.agg [I 0,I 1,I 0,I 0,I 1,I 0],I 1,X,AV.agg [I 0,I 0]]++List.replicate 25 X) (St.mk [h0,h1,h2,h3,h4,h5,some (HB.cells [I 0,I 1,I 0,I 0,I 1,I 0] 172),some (HB.cells (z0a a) 40),some (HB.cells (z0a b) 40),some (HB.cells [I 0,I 0] 171)] [] [9])):=by kernel_rfl
theorem w4z (pl:List AV) (y:Nat) (h0 h1 h2 h3 h4 h5:Option HB) (i j:Int) (a b:Prf) (k:Kont):wpC (Tryz.X127_6 pl) (cd PP 127 [1,1,1,0,0,1,1,0,0,1,1,0,0,1,1,0,0,1,1,0,0,1,1,0,0,0]) ([.fn (.yield y) [] [],X,.ptr 6 0,.vs pl 120 .none,X,.ptr 7 0,X,.ptr 8 0,X,X,X,X,X,X,X,X,X,.vs pl 120 .none,I 120,I i,X,X,X,.vs pl 120 .none,I 120,I j,X,X,X,.agg [I 0,I 1,I 0,I 0,I 1,I 0],I 2]++List.replicate 27 X) ⟨[h0,h1,h2,h3,h4,h5,some (.cells [I 0,I 1,I 0,I 0,I 1,I 0] 172),some (.cells (z0a a) 40),some (.cells (z0a b) 40)],[],[]⟩ k =
 (k EX.normal ([AV.fn (Fn.yield y) [] [],X,AV.ptr 6 0,AV.vs pl 120 Tok.none,X,AV.ptr 7 0,X,AV.ptr 8 0,X,AV.ptr 9 0,X,X,X,X,X,X,X,AV.vs pl 120 Tok.none,I 120,I i,X,X,X,AV.vs pl 120 Tok.none,I 120,I j,X,X,X,AV.agg [I 0,I 1,I 0,I 0,I 1,I 0],I 2,X,AV.agg [I 1,I 0]]++List.replicate 25 X) (St.mk [h0,h1,h2,h3,h4,h5,some (HB.cells [I 0,I 1,I 0,I 0,I 1,I 0] 172),some (HB.cells (z0a a) 40),some (HB.cells (z0a b) 40),some (HB.cells [I 1,I 0] 171)] [] [9])):=by kernel_rfl
theorem w8w (pl:List AV) (y:Nat) (h0 h1 h2 h3 h4 h5:Option HB) (i j c c0 c1:Int) (a b:Prf) (k:Kont):wpC (Tryz.X127_6 pl) (cd PP 127 [1,1,1,0,0,1,1,0,0,1,1,0,0,1,1,0,0,1,1,0,0,1,1,0,0,1,0]) ([.fn (.yield y) [] [],X,.ptr 6 0,.vs pl 120 .none,X,.ptr 7 0,X,.ptr 8 0,X,.ptr 9 0,X,X,X,X,X,X,X,.vs pl 120 .none,I 120,I i,X,X,X,.vs pl 120 .none,I 120,I j,X,X,X,.agg [I 0,I 1,I 0,I 0,I 1,I 0],I c]++List.replicate 27 X) ⟨[h0,h1,h2,h3,h4,h5,some (.cells [I 0,I 1,I 0,I 0,I 1,I 0] 172),some (.cells (z0a a) 40),some (.cells (z0a b) 40),some (.cells [I c0,I c1] 171)],[],[]⟩ k =
 (k EX.normal ([AV.fn (Fn.yield y) [] [],X,AV.ptr 6 0,AV.vs pl 120 Tok.none,X,AV.ptr 7 0,X,AV.ptr 8 0,X,AV.ptr 9 0,X,X,X,X,X,X,X,AV.vs pl 120 Tok.none,I 120,I i,X,X,X,AV.vs pl 120 Tok.none,I 120,I j,X,X,X,AV.agg [I 0,I 1,I 0,I 0,I 1,I 0],I c,X,X,AV.agg [I 0,I 1,I 0,I 0,I 1,I 0],I 0]++List.replicate 23 X) (St.mk [h0,h1,h2,h3,h4,h5,some (HB.cells [I 0,I 1,I 0,I 0,I 1,I 0] 172),some (HB.cells (z0a a) 40),some (HB.cells (z0a b) 40),some (HB.cells [I c0,I c1] 171)] [] [])):=by kernel_rfl
theorem w2x (pl:List AV) (y:Nat) (h0 h1 h2 h3 h4 h5:Option HB) (i j c t c0 c1:Int) (a b:Prf) (k:Kont):wpC (Tryz.X127_6 pl) (cd PP 127 [1,1,1,0,0,1,1,0,0,1,1,0,0,1,1,0,0,1,1,0,0,1,1,0,0,1,1,0,0,0]) ([.fn (.yield y) [] [],X,.ptr 6 0,.vs pl 120 .none,X,.ptr 7 0,X,.ptr 8 0,X,.ptr 9 0,X,X,X,X,X,X,X,.vs pl 120 .none,I 120,I i,X,X,X,.vs pl 120 .none,I 120,I j,X,X,X,.agg [I 0,I 1,I 0,I 0,I 1,I 0],I c,X,X,.agg [I 0,I 1,I 0,I 0,I 1,I 0],I t]++List.replicate 23 X) ⟨[h0,h1,h2,h3,h4,h5,some (.cells [I 0,I 1,I 0,I 0,I 1,I 0] 172),some (.cells (z0a a) 40),some (.cells (z0a b) 40),some (.cells [I c0,I c1] 171)],[],[]⟩ k =
 (k EX.normal ([AV.fn (Fn.yield y) [] [],X,AV.ptr 6 0,AV.vs pl 120 Tok.none,X,AV.ptr 7 0,X,AV.ptr 8 0,X,AV.ptr 9 0,X,X,X,X,X,X,X,AV.vs pl 120 Tok.none,I 120,I i,X,X,X,AV.vs pl 120 Tok.none,I 120,I j,X,X,X,AV.agg [I 0,I 1,I 0,I 0,I 1,I 0],I c,X,X,AV.agg [I 0,I 1,I 0,I 0,I 1,I 0],I t,Bo (decide (t < (3:Int)))]++List.replicate 22 X) (St.mk [h0,h1,h2,h3,h4,h5,some (HB.cells [I 0,I 1,I 0,I 0,I 1,I 0] 172),some (HB.cells (z0a a) 40),some (HB.cells (z0a b) 40),some (HB.cells [I c0,I c1] 171)] [] [])):=by kernel_rfl
theorem w4y (pl:List AV) (y:Nat) (h0 h1 h2 h3 h4 h5:Option HB) (i j c c0 c1:Int) (a b:Prf) (k:Kont):wpC (Tryz.X127_6 pl) (cd PP 127 [1,1,1,0,0,1,1,0,0,1,1,0,0,1,1,0,0,1,1,0,0,1,1,0,0,1,1,0,0,1,1,0,0,0]) ([.fn (.yield y) [] [],X,.ptr 6 0,.vs pl 120 .none,X,.ptr 7 0,X,.ptr 8 0,X,.ptr 9 0,X,X,X,X,X,X,X,.vs pl 120 .none,I 120,I i,X,X,X,.vs pl 120 .none,I 120,I j,X,X,X,.agg [I 0,I 1,I 0,I 0,I 1,I 0],I c,X,X,.agg [I 0,I 1,I 0,I 0,I 1,I 0],I 0]++List.replicate 23 X) ⟨[h0,h1,h2,h3,h4,h5,some (.cells [I 0,I 1,I 0,I 0,I 1,I 0] 172),some (.cells (z0a a) 40),some (.cells (z0a b) 40),some (.cells [I c0,I c1] 171)],[],[]⟩ k =
 (k EX.normal ([AV.fn (Fn.yield y) [] [],X,AV.ptr 6 0,AV.vs pl 120 Tok.none,X,AV.ptr 7 0,X,AV.ptr 8 0,X,AV.ptr 9 0,X,AV.ptr 10 0,X,X,X,X,X,AV.vs pl 120 Tok.none,I 120,I i,X,X,X,AV.vs pl 120 Tok.none,I 120,I j,X,X,X,AV.agg [I 0,I 1,I 0,I 0,I 1,I 0],I c,X,X,AV.agg [I 0,I 1,I 0,I 0,I 1,I 0],I 0,X,AV.agg [I 0,I 1]]++List.replicate 21 X) (St.mk [h0,h1,h2,h3,h4,h5,some (HB.cells [I 0,I 1,I 0,I 0,I 1,I 0] 172),some (HB.cells (z0a a) 40),some (HB.cells (z0a b) 40),some (HB.cells [I c0,I c1] 171),some (HB.cells [I 0,I 1] 171)] [] [10])):=by kernel_rfl
theorem w4x (pl:List AV) (y:Nat) (h0 h1 h2 h3 h4 h5:Option HB) (i j c c0 c1:Int) (a b:Prf) (k:Kont):wpC (Tryz.X127_6 pl) (cd PP 127 [1,1,1,0,0,1,1,0,0,1,1,0,0,1,1,0,0,1,1,0,0,1,1,0,0,1,1,0,0,1,1,0,0,0]) ([.fn (.yield y) [] [],X,.ptr 6 0,.vs pl 120 .none,X,.ptr 7 0,X,.ptr 8 0,X,.ptr 9 0,X,X,X,X,X,X,X,.vs pl 120 .none,I 120,I i,X,X,X,.vs pl 120 .none,I 120,I j,X,X,X,.agg [I 0,I 1,I 0,I 0,I 1,I 0],I c,X,X,.agg [I 0,I 1,I 0,I 0,I 1,I 0],I 1]++List.replicate 23 X) ⟨[h0,h1,h2,h3,h4,h5,some (.cells [I 0,I 1,I 0,I 0,I 1,I 0] 172),some (.cells (z0a a) 40),some (.cells (z0a b) 40),some (.cells [I c0,I c1] 171)],[],[]⟩ k =
 (k EX.normal ([AV.fn (Fn.yield y) [] [],X,AV.ptr 6 0,AV.vs pl 120 Tok.none,X,AV.ptr 7 0,X,AV.ptr 8 0,X,AV.ptr 9 0,X,AV.ptr 10 0,X,X,X,X,X,AV.vs pl 120 Tok.none,I 120,I i,X,X,X,AV.vs pl 120 Tok.none,I 120,I j,X,X,X,AV.agg [I 0,I 1,I 0,I 0,I 1,I 0],I c,X,X,AV.agg [I 0,I 1,I 0,I 0,I 1,I 0],I 1,X,AV.agg [I 0,I 0]]++List.replicate 21 X) (St.mk [h0,h1,h2,h3,h4,h5,some (HB.cells [I 0,I 1,I 0,I 0,I 1,I 0] 172),some (HB.cells (z0a a) 40),some (HB.cells (z0a b) 40),some (HB.cells [I c0,I c1] 171),some (HB.cells [I 0,I 0] 171)] [] [10])):=by kernel_rfl
theorem w4w (pl:List AV) (y:Nat) (h0 h1 h2 h3 h4 h5:Option HB) (i j c c0 c1:Int) (a b:Prf) (k:Kont):wpC (Tryz.X127_6 pl) (cd PP 127 [1,1,1,0,0,1,1,0,0,1,1,0,0,1,1,0,0,1,1,0,0,1,1,0,0,1,1,0,0,1,1,0,0,0]) ([.fn (.yield y) [] [],X,.ptr 6 0,.vs pl 120 .none,X,.ptr 7 0,X,.ptr 8 0,X,.ptr 9 0,X,X,X,X,X,X,X,.vs pl 120 .none,I 120,I i,X,X,X,.vs pl 120 .none,I 120,I j,X,X,X,.agg [I 0,I 1,I 0,I 0,I 1,I 0],I c,X,X,.agg [I 0,I 1,I 0,I 0,I 1,I 0],I 2]++List.replicate 23 X) ⟨[h0,h1,h2,h3,h4,h5,some (.cells [I 0,I 1,I 0,I 0,I 1,I 0] 172),some (.cells (z0a a) 40),some (.cells (z0a b) 40),some (.cells [I c0,I c1] 171)],[],[]⟩ k =
 (k EX.normal ([AV.fn (Fn.yield y) [] [],X,AV.ptr 6 0,AV.vs pl 120 Tok.none,X,AV.ptr 7 0,X,AV.ptr 8 0,X,AV.ptr 9 0,X,AV.ptr 10 0,X,X,X,X,X,AV.vs pl 120 Tok.none,I 120,I i,X,X,X,AV.vs pl 120 Tok.none,I 120,I j,X,X,X,AV.agg [I 0,I 1,I 0,I 0,I 1,I 0],I c,X,X,AV.agg [I 0,I 1,I 0,I 0,I 1,I 0],I 2,X,AV.agg [I 1,I 0]]++List.replicate 21 X) (St.mk [h0,h1,h2,h3,h4,h5,some (HB.cells [I 0,I 1,I 0,I 0,I 1,I 0] 172),some (HB.cells (z0a a) 40),some (HB.cells (z0a b) 40),some (HB.cells [I c0,I c1] 171),some (HB.cells [I 1,I 0] 171)] [] [10])):=by kernel_rfl
theorem w8v (pl:List AV) (y:Nat) (h0 h1 h2 h3 h4 h5:Option HB) (i j c t c0 c1 u0 u1:Int) (a b:Prf) (k:Kont):wpC (Tryz.X127_6 pl) (cd PP 127 [1,1,1,0,0,1,1,0,0,1,1,0,0,1,1,0,0,1,1,0,0,1,1,0,0,1,1,0,0,1,1,0,0,1,0]) ([.fn (.yield y) [] [],X,.ptr 6 0,.vs pl 120 .none,X,.ptr 7 0,X,.ptr 8 0,X,.ptr 9 0,X,.ptr 10 0,X,X,X,X,X,.vs pl 120 .none,I 120,I i,X,X,X,.vs pl 120 .none,I 120,I j,X,X,X,.agg [I 0,I 1,I 0,I 0,I 1,I 0],I c,X,X,.agg [I 0,I 1,I 0,I 0,I 1,I 0],I t]++List.replicate 23 X) ⟨[h0,h1,h2,h3,h4,h5,some (.cells [I 0,I 1,I 0,I 0,I 1,I 0] 172),some (.cells (z0a a) 40),some (.cells (z0a b) 40),some (.cells [I c0,I c1] 171),some (.cells [I u0,I u1] 171)],[],[]⟩ k =
 (k EX.normal ([AV.fn (Fn.yield y) [] [],X,AV.ptr 6 0,AV.vs pl 120 Tok.none,X,AV.ptr 7 0,X,AV.ptr 8 0,X,AV.ptr 9 0,X,AV.ptr 10 0,X,X,X,X,X,AV.vs pl 120 Tok.none,I 120,I i,X,X,X,AV.vs pl 120 Tok.none,I 120,I j,X,X,X,AV.agg [I 0,I 1,I 0,I 0,I 1,I 0],I c,X,X,AV.agg [I 0,I 1,I 0,I 0,I 1,I 0],I t,X,X,AV.ptr 9 0,I c0,AV.ptr 9 1,I c1,AV.ptr 10 0,I u0,AV.ptr 10 1,I u1,AV.ptr 7 5,AV.ptr 8 5,AV.ptr 7 6,AV.ptr 8 6]++List.replicate 9 X) (St.mk [h0,h1,h2,h3,h4,h5,some (HB.cells [I 0,I 1,I 0,I 0,I 1,I 0] 172),some (HB.cells [I a.cl,I a.vi,Bo a.ho,Bo a.de,Bo a.mo,I c0,I u0] 40),some (HB.cells [I b.cl,I b.vi,Bo b.ho,Bo b.de,Bo b.mo,I c1,I u1] 40),some (HB.cells [I c0,I c1] 171),some (HB.cells [I u0,I u1] 171)] [] [8,7])):=by kernel_rfl
theorem w8u (pl:List AV) (y:Nat) (h0 h1 h2 h3 h4 h5:Option HB) (i j c t c0 c1:Int) (a b:Prf) (k:Kont):wpC (Tryz.X127_6 pl) (cd PP 127 [1,1,1,0,0,1,1,0,0,1,1,0,0,1,1,0,0,1,1,0,0,1,1,0,0,1,1,0,0,1,1,1]) ([.fn (.yield y) [] [],X,.ptr 6 0,.vs pl 120 .none,X,.ptr 7 0,X,.ptr 8 0,X,.ptr 9 0,X,X,X,X,X,X,X,.vs pl 120 .none,I 120,I i,X,X,X,.vs pl 120 .none,I 120,I j,X,X,X,.agg [I 0,I 1,I 0,I 0,I 1,I 0],I c,X,X,.agg [I 0,I 1,I 0,I 0,I 1,I 0],I t]++List.replicate 23 X) ⟨[h0,h1,h2,h3,h4,h5,some (.cells [I 0,I 1,I 0,I 0,I 1,I 0] 172),some (.cells (z0a a) 40),some (.cells (z0a b) 40),some (.cells [I c0,I c1] 171)],[],[]⟩ k =
 (k EX.normal [AV.fn (Fn.yield y) [] [],X,AV.ptr 6 0,AV.vs pl 120 Tok.none,X,AV.ptr 7 0,X,AV.ptr 8 0,X,AV.ptr 9 0,X,X,X,X,X,X,X,AV.vs pl 120 Tok.none,I 120,I i,X,X,X,AV.vs pl 120 Tok.none,I 120,I j,X,X,X,AV.agg [I 0,I 1,I 0,I 0,I 1,I 0],I c,X,X,AV.agg [I 0,I 1,I 0,I 0,I 1,I 0],I (IntKind.i64.wrap (t + (1:Int))),X,X,X,X,X,X,X,X,X,X,X,X,X,X,X,X,X,X,X,I (IntKind.i64.wrap (t + (1:Int))),X,X,X] (St.mk [h0,h1,h2,h3,h4,h5,some (HB.cells [I 0,I 1,I 0,I 0,I 1,I 0] 172),some (HB.cells (z0a a) 40),some (HB.cells (z0a b) 40),some (HB.cells [I c0,I c1] 171)] [] [])):=by kernel_rfl
theorem w8t (pl:List AV) (y:Nat) (h0 h1 h2 h3 h4 h5:Option HB) (i j c:Int) (a b:Prf) (k:Kont):wpC (Tryz.X127_6 pl) (cd PP 127 [1,1,1,0,0,1,1,0,0,1,1,0,0,1,1,0,0,1,1,0,0,1,1,1]) ([.fn (.yield y) [] [],X,.ptr 6 0,.vs pl 120 .none,X,.ptr 7 0,X,.ptr 8 0,X,X,X,X,X,X,X,X,X,.vs pl 120 .none,I 120,I i,X,X,X,.vs pl 120 .none,I 120,I j,X,X,X,.agg [I 0,I 1,I 0,I 0,I 1,I 0],I c]++List.replicate 27 X) ⟨[h0,h1,h2,h3,h4,h5,some (.cells [I 0,I 1,I 0,I 0,I 1,I 0] 172),some (.cells (z0a a) 40),some (.cells (z0a b) 40)],[],[]⟩ k =
 (k EX.normal [AV.fn (Fn.yield y) [] [],X,AV.ptr 6 0,AV.vs pl 120 Tok.none,X,AV.ptr 7 0,X,AV.ptr 8 0,X,X,X,X,X,X,X,X,X,AV.vs pl 120 Tok.none,I 120,I i,X,X,X,AV.vs pl 120 Tok.none,I 120,I j,X,X,X,AV.agg [I 0,I 1,I 0,I 0,I 1,I 0],I (IntKind.i64.wrap (c + (1:Int))),X,X,X,X,X,X,X,X,X,X,X,X,X,X,X,X,X,X,X,X,X,X,X,X,I (IntKind.i64.wrap (c + (1:Int))),X,X] (St.mk [h0,h1,h2,h3,h4,h5,some (HB.cells [I 0,I 1,I 0,I 0,I 1,I 0] 172),some (HB.cells (z0a a) 40),some (HB.cells (z0a b) 40)] [] [])):=by kernel_rfl
theorem w8s (pl:List AV) (y:Nat) (h0 h1 h2 h3 h4 h5:Option HB) (i j:Int) (a:Prf) (k:Kont):wpC (Tryz.X127_6 pl) (cd PP 127 [1,1,1,0,0,1,1,0,0,1,1,0,0,1,1,1]) ([.fn (.yield y) [] [],X,.ptr 6 0,.vs pl 120 .none,X,.ptr 7 0,X,X,X,X,X,X,X,X,X,X,X,.vs pl 120 .none,I 120,I i,X,X,X,.vs pl 120 .none,I 120,I j]++List.replicate 32 X) ⟨[h0,h1,h2,h3,h4,h5,some (.cells [I 0,I 1,I 0,I 0,I 1,I 0] 172),some (.cells (z0a a) 40)],[],[]⟩ k =
 (k EX.normal [AV.fn (Fn.yield y) [] [],X,AV.ptr 6 0,AV.vs pl 120 Tok.none,X,AV.ptr 7 0,X,X,X,X,X,X,X,X,X,X,X,AV.vs pl 120 Tok.none,I 120,I i,X,X,X,AV.vs pl 120 Tok.none,I 120,I (IntKind.i64.wrap (j + (1:Int))),X,X,X,X,X,X,X,X,X,X,X,X,X,X,X,X,X,X,X,X,X,X,X,X,X,X,X,X,X,X,I (IntKind.i64.wrap (j + (1:Int))),X] (St.mk [h0,h1,h2,h3,h4,h5,some (HB.cells [I 0,I 1,I 0,I 0,I 1,I 0] 172),some (HB.cells (z0a a) 40)] [] [])):=by kernel_rfl
theorem w8r (pl:List AV) (y:Nat) (h0 h1 h2 h3 h4 h5:Option HB) (i:Int) (k:Kont):wpC (Tryz.X127_6 pl) (cd PP 127 [1,1,1,0,0,1,1,1]) ([.fn (.yield y) [] [],X,.ptr 6 0,.vs pl 120 .none,X,X,X,X,X,X,X,X,X,X,X,X,X,.vs pl 120 .none,I 120,I i]++List.replicate 38 X) ⟨[h0,h1,h2,h3,h4,h5,some (.cells [I 0,I 1,I 0,I 0,I 1,I 0] 172)],[],[]⟩ k =
 (k EX.normal [AV.fn (Fn.yield y) [] [],X,AV.ptr 6 0,AV.vs pl 120 Tok.none,X,X,X,X,X,X,X,X,X,X,X,X,X,AV.vs pl 120 Tok.none,I 120,I (IntKind.i64.wrap (i + (1:Int))),X,X,X,X,X,X,X,X,X,X,X,X,X,X,X,X,X,X,X,X,X,X,X,X,X,X,X,X,X,X,X,X,X,X,X,X,X,I (IntKind.i64.wrap (i + (1:Int)))] (St.mk [h0,h1,h2,h3,h4,h5,some (HB.cells [I 0,I 1,I 0,I 0,I 1,I 0] 172)] [] [])):=by kernel_rfl
end Go.Proofs
set_option maxRecDepth 100000
set_option linter.unusedVariables false
namespace Go.Proofs
open Go Go.Ev
section
noncomputable abbrev yX6:WCx:=Tryz.X127_6 yP
theorem yc6:Cts Tryz.B [(38,RPl yP)]:=(Cts.nil _).cons w2m
theorem yo6:(yX6).Ones:=z00 Tryz.bok yc6
theorem yk6:CxOk (yX6).cx:=z1c Tryz.bok yc6
abbrev x9m (y:Nat) (i:Int):Env:=([.fn (.yield y) [] [],X,.ptr 6 0,.vs yP 120 .none,X,X,X,X,X,X,X,X,X,X,X,X,X,.vs yP 120 .none,I 120,I i]++List.replicate 38 X)
abbrev x9l (y:Nat) (i j:Int):Env:=([.fn (.yield y) [] [],X,.ptr 6 0,.vs yP 120 .none,X,.ptr 7 0,X,X,X,X,X,X,X,X,X,X,X,.vs yP 120 .none,I 120,I i,X,X,X,.vs yP 120 .none,I 120,I j]++List.replicate 32 X)
abbrev x5g (y:Nat) (i j c:Int):Env:=([.fn (.yield y) [] [],X,.ptr 6 0,.vs yP 120 .none,X,.ptr 7 0,X,.ptr 8 0,X,X,X,X,X,X,X,X,X,.vs yP 120 .none,I 120,I i,X,X,X,.vs yP 120 .none,I 120,I j,X,X,X,.agg [I 0,I 1,I 0,I 0,I 1,I 0],I c]++List.replicate 27 X)
abbrev x06 (y:Nat) (i j c t:Int):Env:=([.fn (.yield y) [] [],X,.ptr 6 0,.vs yP 120 .none,X,.ptr 7 0,X,.ptr 8 0,X,.ptr 9 0,X,X,X,X,X,X,X,.vs yP 120 .none,I 120,I i,X,X,X,.vs yP 120 .none,I 120,I j,X,X,X,.agg [I 0,I 1,I 0,I 0,I 1,I 0],I c,X,X,.agg [I 0,I 1,I 0,I 0,I 1,I 0],I t]++List.replicate 23 X)
abbrev w8q (y:Nat) (i:Int):Env:=([.fn (.yield y) [] [],X,.ptr 6 0,.vs yP 120 .none,X,.ptr 7 0,X,X,X,X,X,X,X,X,X,X,X,.vs yP 120 .none,I 120,I i]++List.replicate 38 X)
abbrev w8p (y:Nat) (i j:Int):Env:=([.fn (.yield y) [] [],X,.ptr 6 0,.vs yP 120 .none,X,.ptr 7 0,X,.ptr 8 0,X,X,X,X,X,X,X,X,X,.vs yP 120 .none,I 120,I i,X,X,X,.vs yP 120 .none,I 120,I j]++List.replicate 32 X)
abbrev w8o (y:Nat) (i j c:Int):Env:=([.fn (.yield y) [] [],X,.ptr 6 0,.vs yP 120 .none,X,.ptr 7 0,X,.ptr 8 0,X,.ptr 9 0,X,X,X,X,X,X,X,.vs yP 120 .none,I 120,I i,X,X,X,.vs yP 120 .none,I 120,I j,X,X,X,.agg [I 0,I 1,I 0,I 0,I 1,I 0],I c]++List.replicate 27 X)
abbrev w8n (y:Nat) (i j c t:Int):Env:=([.fn (.yield y) [] [],X,.ptr 6 0,.vs yP 120 .none,X,.ptr 7 0,X,.ptr 8 0,X,.ptr 9 0,X,.ptr 10 0,X,X,X,X,X,.vs yP 120 .none,I 120,I i,X,X,X,.vs yP 120 .none,I 120,I j,X,X,X,.agg [I 0,I 1,I 0,I 0,I 1,I 0],I c,X,X,.agg [I 0,I 1,I 0,I 0,I 1,I 0],I t]++List.replicate 23 X)
abbrev w17 (h0 h1 h2 h3 h4 h5:Option HB):St:=⟨[h0,h1,h2,h3,h4,h5,some (.cells [I 0,I 1,I 0,I 0,I 1,I 0] 172)],[],[]⟩
abbrev w15 (h0 h1 h2 h3 h4 h5:Option HB) (a:Prf):St:=⟨[h0,h1,h2,h3,h4,h5,some (.cells [I 0,I 1,I 0,I 0,I 1,I 0] 172),some (.cells (z0a a) 40)],[],[]⟩
abbrev x9k (h0 h1 h2 h3 h4 h5:Option HB) (a b:Prf):St:=⟨[h0,h1,h2,h3,h4,h5,some (.cells [I 0,I 1,I 0,I 0,I 1,I 0] 172),some (.cells (z0a a) 40),some (.cells (z0a b) 40)],[],[]⟩
abbrev x9j (h0 h1 h2 h3 h4 h5:Option HB) (a b:Prf) (c0 c1:Int):St:=⟨[h0,h1,h2,h3,h4,h5,some (.cells [I 0,I 1,I 0,I 0,I 1,I 0] 172),some (.cells (z0a a) 40),some (.cells (z0a b) 40),some (.cells [I c0,I c1] 171)],[],[]⟩
abbrev w14 (h0 h1 h2 h3 h4 h5:Option HB) (a b:Prf) (c0 c1 u0 u1:Int):St:=⟨[h0,h1,h2,h3,h4,h5,some (.cells [I 0,I 1,I 0,I 0,I 1,I 0] 172),some (.cells (z0a a) 40),some (.cells (z0a b) 40),some (.cells [I c0,I c1] 171),some (.cells [I u0,I u1] 171)],[],[]⟩
theorem yh6 {hs:List (Option HB)} (h:HsOk 6 hs):∃ h0 h1 h2 h3 h4 h5:Option HB,hs = [h0,h1,h2,h3,h4,h5]:=by
 have h1:=h.len
 match hs,h1 with
 | [h0,h1,h2,h3,h4,h5],_=>exact ⟨h0,h1,h2,h3,h4,h5,rfl⟩
theorem yb6 {h0 h1 h2 h3 h4 h5:Option HB} (h:HsOk 6 [h0,h1,h2,h3,h4,h5]) {m:Nat} (hm:6 ≤ m) {l:List (Option HB)} (hl:l.all (okBlk m) = true):([h0,h1,h2,h3,h4,h5]++l).all (okBlk m) = true:=by
 rw [List.all_append,h.blk hm,hl]; rfl
theorem w8x (y:Nat) (Y:Yk) (h0 h1 h2 h3 h4 h5:Option HB) (i j c t c0 c1 u0 u1:Int) (a b:Prf) (k:KontR):y0z (yX6) Y y (opsOf (cd PP 127 [1,1,1,0,0,1,1,0,0,1,1,0,0,1,1,0,0,1,1,0,0,1,1,0,0,1,1,0,0,1,1,0,0,1,1,0])).toList (x06 y i j c t) (w14 h0 h1 h2 h3 h4 h5 a b c0 c1 u0 u1) ⟨none,0⟩ k =
  (y = y∧Y [.agg (z0a a),.agg (z0a b)] (w14 h0 h1 h2 h3 h4 h5 a b c0 c1 u0 u1) ⟨none,0⟩ fun r S' z'=>k .normal ([.fn (.yield y) [] [],X,.ptr 6 0,.vs yP 120 .none,X,.ptr 7 0,X,.ptr 8 0,X,.ptr 9 0,X,X,X,X,X,X,X,.vs yP 120 .none,I 120,I i,X,X,X,.vs yP 120 .none,I 120,I j,X,X,X,.agg [I 0,I 1,I 0,I 0,I 1,I 0],I c,X,X,.agg [I 0,I 1,I 0,I 0,I 1,I 0],I t,X,X,X,X,X,X,X,X,X,X,X,X,X,X,.fn (.yield y) [] [],.agg (z0a a),.agg (z0a b),.bool r,.bool (!r)]++List.replicate 4 X) S' z'):=by kernel_rfl
theorem w82 {y:Nat} {i j c:Int} {t:Nat} (ht:t < 3) {c0 c1:Int} {a b:Prf} {h0 h1 h2 h3 h4 h5:Option HB} {k:Kont}
  (h:k .normal ([.fn (.yield y) [] [],X,.ptr 6 0,.vs yP 120 .none,X,.ptr 7 0,X,.ptr 8 0,X,.ptr 9 0,X,.ptr 10 0,X,X,X,X,X,.vs yP 120 .none,I 120,I i,X,X,X,.vs yP 120 .none,I 120,I j,X,X,X,.agg [I 0,I 1,I 0,I 0,I 1,I 0],I c,X,X,.agg [I 0,I 1,I 0,I 0,I 1,I 0],I (t:Int),X,.agg [I (wy t).1,I (wy t).2]]++List.replicate 21 X) ⟨[h0,h1,h2,h3,h4,h5,some (.cells [I 0,I 1,I 0,I 0,I 1,I 0] 172),some (.cells (z0a a) 40),some (.cells (z0a b) 40),some (.cells [I c0,I c1] 171),some (.cells [I (wy t).1,I (wy t).2] 171)],[],[10]⟩):wpC (yX6) (cd PP 127 [1,1,1,0,0,1,1,0,0,1,1,0,0,1,1,0,0,1,1,0,0,1,1,0,0,1,1,0,0,1,1,0,0,0]) (x06 y i j c (t:Int)) (x9j h0 h1 h2 h3 h4 h5 a b c0 c1) k:=by
 match t,ht,h with
 | 0,_,h=>exact (w4y yP y h0 h1 h2 h3 h4 h5 i j c c0 c1 a b k).mpr h
 | 1,_,h=>exact (w4x yP y h0 h1 h2 h3 h4 h5 i j c c0 c1 a b k).mpr h
 | 2,_,h=>exact (w4w yP y h0 h1 h2 h3 h4 h5 i j c c0 c1 a b k).mpr h
theorem w83 {y:Nat} {i j:Int} {t:Nat} (ht:t < 3) {a b:Prf} {h0 h1 h2 h3 h4 h5:Option HB} {k:Kont}
  (h:k .normal ([.fn (.yield y) [] [],X,.ptr 6 0,.vs yP 120 .none,X,.ptr 7 0,X,.ptr 8 0,X,.ptr 9 0,X,X,X,X,X,X,X,.vs yP 120 .none,I 120,I i,X,X,X,.vs yP 120 .none,I 120,I j,X,X,X,.agg [I 0,I 1,I 0,I 0,I 1,I 0],I (t:Int),X,.agg [I (wy t).1,I (wy t).2]]++List.replicate 25 X) ⟨[h0,h1,h2,h3,h4,h5,some (.cells [I 0,I 1,I 0,I 0,I 1,I 0] 172),some (.cells (z0a a) 40),some (.cells (z0a b) 40),some (.cells [I (wy t).1,I (wy t).2] 171)],[],[9]⟩):wpC (yX6) (cd PP 127 [1,1,1,0,0,1,1,0,0,1,1,0,0,1,1,0,0,1,1,0,0,1,1,0,0,0]) (x5g y i j (t:Int)) (x9k h0 h1 h2 h3 h4 h5 a b) k:=by
 match t,ht,h with
 | 0,_,h=>exact (w42 yP y h0 h1 h2 h3 h4 h5 i j a b k).mpr h
 | 1,_,h=>exact (w40 yP y h0 h1 h2 h3 h4 h5 i j a b k).mpr h
 | 2,_,h=>exact (w4z yP y h0 h1 h2 h3 h4 h5 i j a b k).mpr h
section
variable {Rd:Rnd} {y:Nat} {jE:Option Code} {hsE:List (Option HB)} {k:KontR} (hstop:∀ jc e s,s.hs.take 6 = hsE→jE = some jc→k .ret e s ⟨some jc,0⟩)
include hstop
theorem w9b (a b:Prf) (cc:Int × Int) (i j c:Int) (rest:List (List AV))
  (hend:∀ (x1 x2 x3 x4 t:Int) (r:Bool) (g0 g1 g2 g3 g4 g5:Option HB),HsOk 6 [g0,g1,g2,g3,g4,g5]→z43 6 Rd rest [g0,g1,g2,g3,g4,g5] jE hsE→k (.exit 6) ([.fn (.yield y) [] [],X,.ptr 6 0,.vs yP 120 .none,X,.ptr 7 0,X,.ptr 8 0,X,.ptr 9 0,X,X,X,X,X,X,X,.vs yP 120 .none,I 120,I i,X,X,X,.vs yP 120 .none,I 120,I j,X,X,X,.agg [I 0,I 1,I 0,I 0,I 1,I 0],I c,X,X,.agg [I 0,I 1,I 0,I 0,I 1,I 0],I t,Bo r]++List.replicate 22 X) (x9j g0 g1 g2 g3 g4 g5 (pw a x1 x2) (pw b x3 x4) cc.1 cc.2) ⟨none,0⟩) :
  ∀ (d t:Nat) (x1 x2 x3 x4:Int) (h0 h1 h2 h3 h4 h5:Option HB),3 - t = d→t ≤ 3→HsOk 6 [h0,h1,h2,h3,h4,h5]→z43 6 Rd ((wys.drop t).map (itm a b cc)++rest) [h0,h1,h2,h3,h4,h5] jE hsE →
  LR (yX6).pc 6 (some y) (Yw 6 Rd) (d + 1) (cd PP 127 [1,1,1,0,0,1,1,0,0,1,1,0,0,1,1,0,0,1,1,0,0,1,1,0,0,1,1,0,0]) (x06 y i j c (t:Int)) (x9j h0 h1 h2 h3 h4 h5 (pw a x1 x2) (pw b x3 x4) cc.1 cc.2) ⟨none,0⟩ k:=by
 intro d
 induction d with
 | zero =>
  intro t x1 x2 x3 x4 h0 h1 h2 h3 h4 h5 hd ht hh hrun
  have ht':t = 3:=by omega
  subst ht'
  refine LR.step ?_
  rw [z2d]
  refine RW.seq (RW.of_wpC yo6 yk6 rfl ?_)
  rw [w2x]
  show RW (yX6).pc 6 (some y) (Yw 6 Rd) (cd PP 127 [1,1,1,0,0,1,1,0,0,1,1,0,0,1,1,0,0,1,1,0,0,1,1,0,0,1,1,0,0,1]) _ _ _ _
  rw [z2a,z15,z14,z5b]
  exact RW.seq (RW.cond (t:=false) rfl (RW.exit (hend x1 x2 x3 x4 _ _ h0 h1 h2 h3 h4 h5 hh hrun)))
 | succ d ih =>
  intro t x1 x2 x3 x4 h0 h1 h2 h3 h4 h5 hd ht hh hrun
  have hlt:t < 3:=by omega
  rw [y4w hlt] at hrun
  obtain ⟨j1,hs1,hR,hh1,hrest⟩:=hrun
  refine LR.step ?_
  rw [z2d]
  refine RW.seq (RW.of_wpC yo6 yk6 rfl ?_)
  rw [w2x]
  show RW (yX6).pc 6 (some y) (Yw 6 Rd) (cd PP 127 [1,1,1,0,0,1,1,0,0,1,1,0,0,1,1,0,0,1,1,0,0,1,1,0,0,1,1,0,0,1]) _ _ _ _
  rw [z2a,z15,z14]
  refine RW.seq (RW.cond (t:=true) (congrArg AV.bool (decide_eq_true (by omega))) (RW.skip ?_))
  show RW (yX6).pc 6 (some y) (Yw 6 Rd) (cd PP 127 [1,1,1,0,0,1,1,0,0,1,1,0,0,1,1,0,0,1,1,0,0,1,1,0,0,1,1,0,0,1,1]) _ _ _ _
  rw [z5f,z5a,z4t]
  refine RW.seq (RW.block (RW.seq (RW.mask' [0,2,3,5,7,9,17,18,19,23,24,25,29,30,33,34] (env':=x06 y i j c (t:Int)) (by kernel_rfl) (RW.of_wpC yo6 yk6 rfl ?_))))
  refine w82 (by omega) ?_
  show RW (yX6).pc 6 (some y) (Yw 6 Rd) (cd PP 127 [1,1,1,0,0,1,1,0,0,1,1,0,0,1,1,0,0,1,1,0,0,1,1,0,0,1,1,0,0,1,1,0,0,1]) _ _ _ _
  rw [z4n]
  refine RW.seq (RW.mask' [0,2,3,5,7,9,11,17,18,19,23,24,25,29,30,33,34] (env':=w8n y i j c (t:Int)) (by kernel_rfl) (RW.wl (RW.of_wpC yo6 yk6 rfl ?_)))
  rw [w8v]
  show RW (yX6).pc 6 (some y) (Yw 6 Rd) (cd PP 127 [1,1,1,0,0,1,1,0,0,1,1,0,0,1,1,0,0,1,1,0,0,1,1,0,0,1,1,0,0,1,1,0,0,1,1]) _ _ _ _
  rw [z4f]
  refine RW.seq (RW.mask' [0,2,3,5,7,9,17,18,19,23,24,25,29,30,33,34] (env':=x06 y i j c (t:Int)) (by kernel_rfl) (RW.wl ?_))
  rw [z4a]
  refine RW.regionY yo6 yk6 ?_
  rw [show (St.mk [h0,h1,h2,h3,h4,h5,some (HB.cells [I 0,I 1,I 0,I 0,I 1,I 0] 172),some (HB.cells [I (pw a x1 x2).cl,I (pw a x1 x2).vi,Bo (pw a x1 x2).ho,Bo (pw a x1 x2).de,Bo (pw a x1 x2).mo,I cc.1,I (wy t).1] 40),some (HB.cells [I (pw b x3 x4).cl,I (pw b x3 x4).vi,Bo (pw b x3 x4).ho,Bo (pw b x3 x4).de,Bo (pw b x3 x4).mo,I cc.2,I (wy t).2] 40),some (HB.cells [I cc.1,I cc.2] 171),some (HB.cells [I (wy t).1,I (wy t).2] 171)] [] []) = w14 h0 h1 h2 h3 h4 h5 (pw a cc.1 (wy t).1) (pw b cc.2 (wy t).2) cc.1 cc.2 (wy t).1 (wy t).2 from rfl,w8x]
  refine ⟨rfl,rfl,by simp [noHL,noH,z04],by simp [z0e,scrub,z2u],by simp,hh,j1,hs1,hR,hh1,?_⟩
  obtain ⟨g0,g1,g2,g3,g4,g5,rfl⟩:=yh6 hh1
  show RW (yX6).pc 6 (some y) (Yw 6 Rd) (cd PP 127 [1,1,1,0,0,1,1,0,0,1,1,0,0,1,1,0,0,1,1,0,0,1,1,0,0,1,1,0,0,1,1,0,0,1,1,1]) _ _ _ _
  rw [z3z]
  cases j1 with
  | some jc =>
   obtain ⟨e1,e2⟩:=hrest
   refine RW.cond (t:=true) rfl ?_
   rw [if_pos rfl,z3s]
   exact RW.ret (hstop jc _ _ (by rw [e2]; rfl) e1)
  | none =>
   refine RW.cond (t:=false) rfl ?_
   rw [if_neg (by simp),z3r]
   refine RW.skip ?_
   show RW (yX6).pc 6 (some y) (Yw 6 Rd) (cd PP 127 [1,1,1,0,0,1,1,0,0,1,1,0,0,1,1,0,0,1,1,0,0,1,1,0,0,1,1,0,0,1,1,1]) _ _ _ _
   refine RW.mask' [0,2,3,5,7,9,17,18,19,23,24,25,29,30,33,34] (env':=x06 y i j c (t:Int)) (by kernel_rfl) ?_
   refine RW.keep 10 (by omega) (by simp [noHL,noH,z2f,z2e,z5s]) (yb6 hh1 (m:=10) (by omega) (by simp [okBlk,noHB,noHL,noH]; exact ⟨rfl,rfl⟩)) ?_
   show RW (yX6).pc 6 (some y) (Yw 6 Rd) _ _ (x9j g0 g1 g2 g3 g4 g5 (pw a cc.1 (wy t).1) (pw b cc.2 (wy t).2) cc.1 cc.2) _ _
   refine RW.of_wpC yo6 yk6 rfl ?_
   rw [w8u]
   show LR (yX6).pc 6 (some y) (Yw 6 Rd) _ _ _ _ _ _
   rw [z09 (x:=(t:Int) + 1) (by omega) (by omega)]
   exact LR.mask' [0,2,3,5,7,9,17,18,19,23,24,25,29,30,33,34] (env':=x06 y i j c ((t + 1:Nat):Int)) (by kernel_rfl) (ih (t + 1) _ _ _ _ g0 g1 g2 g3 g4 g5 (by omega) (by omega) hh1 hrest)
theorem w9c (a b:Prf) (i j:Int) (rest:List (List AV))
  (hend:∀ (x1 x2 x3 x4 t:Int) (r:Bool) (g0 g1 g2 g3 g4 g5:Option HB),HsOk 6 [g0,g1,g2,g3,g4,g5]→z43 6 Rd rest [g0,g1,g2,g3,g4,g5] jE hsE→k (.exit 4) ([.fn (.yield y) [] [],X,.ptr 6 0,.vs yP 120 .none,X,.ptr 7 0,X,.ptr 8 0,X,X,X,X,X,X,X,X,X,.vs yP 120 .none,I 120,I i,X,X,X,.vs yP 120 .none,I 120,I j,X,X,X,.agg [I 0,I 1,I 0,I 0,I 1,I 0],I t,Bo r]++List.replicate 26 X) (x9k g0 g1 g2 g3 g4 g5 (pw a x1 x2) (pw b x3 x4)) ⟨none,0⟩) :
  ∀ (d t:Nat) (x1 x2 x3 x4:Int) (h0 h1 h2 h3 h4 h5:Option HB),3 - t = d→t ≤ 3→HsOk 6 [h0,h1,h2,h3,h4,h5]→z43 6 Rd ((wys.drop t).flatMap (itT a b)++rest) [h0,h1,h2,h3,h4,h5] jE hsE →
  LR (yX6).pc 6 (some y) (Yw 6 Rd) (d + 1) (cd PP 127 [1,1,1,0,0,1,1,0,0,1,1,0,0,1,1,0,0,1,1,0,0]) (x5g y i j (t:Int)) (x9k h0 h1 h2 h3 h4 h5 (pw a x1 x2) (pw b x3 x4)) ⟨none,0⟩ k:=by
 intro d
 induction d with
 | zero =>
  intro t x1 x2 x3 x4 h0 h1 h2 h3 h4 h5 hd ht hh hrun
  have ht':t = 3:=by omega
  subst ht'
  refine LR.step ?_
  rw [z3p]
  refine RW.seq (RW.of_wpC yo6 yk6 rfl ?_)
  rw [w5l]
  show RW (yX6).pc 6 (some y) (Yw 6 Rd) (cd PP 127 [1,1,1,0,0,1,1,0,0,1,1,0,0,1,1,0,0,1,1,0,0,1]) _ _ _ _
  rw [z3l,z3e,z2z,z6w]
  exact RW.seq (RW.cond (t:=false) rfl (RW.exit (hend x1 x2 x3 x4 _ _ h0 h1 h2 h3 h4 h5 hh hrun)))
 | succ d ih =>
  intro t x1 x2 x3 x4 h0 h1 h2 h3 h4 h5 hd ht hh hrun
  have hlt:t < 3:=by omega
  rw [y4w hlt,List.flatMap_cons,List.append_assoc] at hrun
  refine LR.step ?_
  rw [z3p]
  refine RW.seq (RW.of_wpC yo6 yk6 rfl ?_)
  rw [w5l]
  show RW (yX6).pc 6 (some y) (Yw 6 Rd) (cd PP 127 [1,1,1,0,0,1,1,0,0,1,1,0,0,1,1,0,0,1,1,0,0,1]) _ _ _ _
  rw [z3l,z3e,z2z]
  refine RW.seq (RW.cond (t:=true) (congrArg AV.bool (decide_eq_true (by omega))) (RW.skip ?_))
  show RW (yX6).pc 6 (some y) (Yw 6 Rd) (cd PP 127 [1,1,1,0,0,1,1,0,0,1,1,0,0,1,1,0,0,1,1,0,0,1,1]) _ _ _ _
  rw [z7b,z6v,z6i]
  refine RW.seq (RW.block (RW.seq (RW.mask' [0,2,3,5,7,17,18,19,23,24,25,29,30] (env':=x5g y i j (t:Int)) (by kernel_rfl) (RW.of_wpC yo6 yk6 rfl ?_))))
  refine w83 hlt ?_
  show RW (yX6).pc 6 (some y) (Yw 6 Rd) (cd PP 127 [1,1,1,0,0,1,1,0,0,1,1,0,0,1,1,0,0,1,1,0,0,1,1,0,0,1]) _ _ _ _
  rw [z6c]
  refine RW.seq (RW.mask' [0,2,3,5,7,9,17,18,19,23,24,25,29,30] (env':=w8o y i j (t:Int)) (by kernel_rfl) (RW.wl (RW.of_wpC yo6 yk6 rfl ?_)))
  rw [w8w]
  show RW (yX6).pc 6 (some y) (Yw 6 Rd) (cd PP 127 [1,1,1,0,0,1,1,0,0,1,1,0,0,1,1,0,0,1,1,0,0,1,1,0,0,1,1]) _ _ _ _
  rw [z52,z5t]
  refine RW.block (RW.loop (m:=4) ?_)
  refine w9b (Rd:=Rd) (y:=y) (jE:=jE) (hsE:=hsE) ?hst a b (wy t) i j (t:Int) ((wys.drop (t + 1)).flatMap (itT a b)++rest) ?hen 3 0 x1 x2 x3 x4 h0 h1 h2 h3 h4 h5 (by omega) (by omega) hh hrun
  case hst=>exact fun jc e s h1 h2=>hstop jc e s h1 h2
  intro x1 x2 x3 x4 t' r g0 g1 g2 g3 g4 g5 hh2 hr2
  show RW (yX6).pc 6 (some y) (Yw 6 Rd) (cd PP 127 [1,1,1,0,0,1,1,0,0,1,1,0,0,1,1,0,0,1,1,0,0,1,1,1]) _ _ _ _
  refine RW.mask' [0,2,3,5,7,17,18,19,23,24,25,29,30] (env':=x5g y i j (t:Int)) (by kernel_rfl) ?_
  refine RW.keep 9 (by omega) (by simp [noHL,noH,z2f,z2e,z5s]) (yb6 hh2 (m:=9) (by omega) (by simp [okBlk,noHB,noHL,noH]; exact ⟨rfl,rfl⟩)) ?_
  show RW (yX6).pc 6 (some y) (Yw 6 Rd) _ _ (x9k g0 g1 g2 g3 g4 g5 (pw a x1 x2) (pw b x3 x4)) _ _
  refine RW.of_wpC yo6 yk6 rfl ?_
  rw [w8t]
  show LR (yX6).pc 6 (some y) (Yw 6 Rd) _ _ _ _ _ _
  rw [z09 (x:=(t:Int) + 1) (by omega) (by omega)]
  exact LR.mask' [0,2,3,5,7,17,18,19,23,24,25,29,30] (env':=x5g y i j ((t + 1:Nat):Int)) (by kernel_rfl) (ih (t + 1) _ _ _ _ g0 g1 g2 g3 g4 g5 (by omega) (by omega) hh2 hr2)
theorem w9d (a:Prf) (i:Int) (rest:List (List AV))
  (hend:∀ (x1 x2 t:Int) (r:Bool) (g0 g1 g2 g3 g4 g5:Option HB),HsOk 6 [g0,g1,g2,g3,g4,g5]→z43 6 Rd rest [g0,g1,g2,g3,g4,g5] jE hsE→k (.exit 2) ([.fn (.yield y) [] [],X,.ptr 6 0,.vs yP 120 .none,X,.ptr 7 0,X,X,X,X,X,X,X,X,X,X,X,.vs yP 120 .none,I 120,I i,X,X,X,.vs yP 120 .none,I 120,I t,Bo r]++List.replicate 31 X) (w15 g0 g1 g2 g3 g4 g5 (pw a x1 x2)) ⟨none,0⟩) :
  ∀ (d t:Nat) (x1 x2:Int) (h0 h1 h2 h3 h4 h5:Option HB),120 - t = d→t ≤ 120→HsOk 6 [h0,h1,h2,h3,h4,h5]→z43 6 Rd ((profL.drop t).flatMap (itC a)++rest) [h0,h1,h2,h3,h4,h5] jE hsE →
  LR (yX6).pc 6 (some y) (Yw 6 Rd) (d + 1) (cd PP 127 [1,1,1,0,0,1,1,0,0,1,1,0,0]) (x9l y i (t:Int)) (w15 h0 h1 h2 h3 h4 h5 (pw a x1 x2)) ⟨none,0⟩ k:=by
 intro d
 induction d with
 | zero =>
  intro t x1 x2 h0 h1 h2 h3 h4 h5 hd ht hh hrun
  have ht':t = 120:=by omega
  subst ht'
  rw [List.drop_eq_nil_of_le (by rw [z71]; omega)] at hrun
  refine LR.step ?_
  rw [z6s]
  refine RW.seq (RW.of_wpC yo6 yk6 rfl ?_)
  rw [w5m]
  show RW (yX6).pc 6 (some y) (Yw 6 Rd) (cd PP 127 [1,1,1,0,0,1,1,0,0,1,1,0,0,1]) _ _ _ _
  rw [z6d,z5x,z5m,z9c]
  exact RW.seq (RW.cond (t:=false) rfl (RW.exit (hend x1 x2 _ _ h0 h1 h2 h3 h4 h5 hh hrun)))
 | succ d ih =>
  intro t x1 x2 h0 h1 h2 h3 h4 h5 hd ht hh hrun
  have hlt:t < 120:=by omega
  obtain ⟨b,hb⟩:=y55 hlt
  rw [y3a hb,List.flatMap_cons,List.append_assoc] at hrun
  refine LR.step ?_
  rw [z6s]
  refine RW.seq (RW.of_wpC yo6 yk6 rfl ?_)
  rw [w5m]
  show RW (yX6).pc 6 (some y) (Yw 6 Rd) (cd PP 127 [1,1,1,0,0,1,1,0,0,1,1,0,0,1]) _ _ _ _
  rw [z6d,z5x,z5m]
  refine RW.seq (RW.cond (t:=true) (congrArg AV.bool (decide_eq_true (by omega))) (RW.skip ?_))
  show RW (yX6).pc 6 (some y) (Yw 6 Rd) (cd PP 127 [1,1,1,0,0,1,1,0,0,1,1,0,0,1,1]) _ _ _ _
  rw [z9w,z9b,z81]
  refine RW.seq (RW.block (RW.seq (RW.mask' [0,2,3,5,17,18,19,23,24,25] (env':=x9l y i (t:Int)) (by kernel_rfl) (RW.of_wpC yo6 yk6 rfl ?_))))
  rw [w9z,y4f hb,y8f]
  refine z0b (z0z _) (z0b (row_in hlt) (z0b (decide_eq_true y2i) (z0b (decide_eq_true (y4g hlt)) (z0b (y09 b) ?_))))
  show RW (yX6).pc 6 (some y) (Yw 6 Rd) (cd PP 127 [1,1,1,0,0,1,1,0,0,1,1,0,0,1,1,0,0,1]) _ _ _ _
  rw [z8m]
  refine RW.seq (RW.mask' [0,2,3,5,7,17,18,19,23,24,25] (env':=w8p y i (t:Int)) (by kernel_rfl) (RW.wl (RW.of_wpC yo6 yk6 rfl ?_)))
  rw [w9y]
  show RW (yX6).pc 6 (some y) (Yw 6 Rd) (cd PP 127 [1,1,1,0,0,1,1,0,0,1,1,0,0,1,1,0,0,1,1]) _ _ _ _
  rw [z8a,z7w]
  refine RW.block (RW.loop (m:=4) ?_)
  refine w9c (Rd:=Rd) (y:=y) (jE:=jE) (hsE:=hsE) ?hst a b i (t:Int) ((profL.drop (t + 1)).flatMap (itC a)++rest) ?hen 3 0 x1 x2 b.cr b.le h0 h1 h2 h3 h4 h5 (by omega) (by omega) hh hrun
  case hst=>exact fun jc e s h1 h2=>hstop jc e s h1 h2
  intro x1 x2 x3 x4 t' r g0 g1 g2 g3 g4 g5 hh2 hr2
  show RW (yX6).pc 6 (some y) (Yw 6 Rd) (cd PP 127 [1,1,1,0,0,1,1,0,0,1,1,0,0,1,1,1]) _ _ _ _
  refine RW.mask' [0,2,3,5,17,18,19,23,24,25] (env':=x9l y i (t:Int)) (by kernel_rfl) ?_
  refine RW.keep 8 (by omega) (by simp [noHL,noH,z2f,z2e,z5s]) (yb6 hh2 (m:=8) (by omega) (by simp [okBlk,noHB,noHL,noH]; exact rfl)) ?_
  show RW (yX6).pc 6 (some y) (Yw 6 Rd) _ _ (w15 g0 g1 g2 g3 g4 g5 (pw a x1 x2)) _ _
  refine RW.of_wpC yo6 yk6 rfl ?_
  rw [w8s]
  show LR (yX6).pc 6 (some y) (Yw 6 Rd) _ _ _ _ _ _
  rw [z09 (x:=(t:Int) + 1) (by omega) (by omega)]
  exact LR.mask' [0,2,3,5,17,18,19,23,24,25] (env':=x9l y i ((t + 1:Nat):Int)) (by kernel_rfl) (ih (t + 1) _ _ g0 g1 g2 g3 g4 g5 (by omega) (by omega) hh2 hr2)
theorem w9e (hend:∀ (t:Int) (r:Bool) (g0 g1 g2 g3 g4 g5:Option HB),jE = none→hsE = [g0,g1,g2,g3,g4,g5]→k (.exit 0) ([.fn (.yield y) [] [],X,.ptr 6 0,.vs yP 120 .none,X,X,X,X,X,X,X,X,X,X,X,X,X,.vs yP 120 .none,I 120,I t,Bo r]++List.replicate 37 X) (w17 g0 g1 g2 g3 g4 g5) ⟨none,0⟩) :
  ∀ (d t:Nat) (h0 h1 h2 h3 h4 h5:Option HB),120 - t = d→t ≤ 120→HsOk 6 [h0,h1,h2,h3,h4,h5]→z43 6 Rd ((profL.drop t).flatMap itB) [h0,h1,h2,h3,h4,h5] jE hsE →
  LR (yX6).pc 6 (some y) (Yw 6 Rd) (d + 1) (cd PP 127 [1,1,1,0,0]) (x9m y (t:Int)) (w17 h0 h1 h2 h3 h4 h5) ⟨none,0⟩ k:=by
 intro d
 induction d with
 | zero =>
  intro t h0 h1 h2 h3 h4 h5 hd ht hh hrun
  have ht':t = 120:=by omega
  subst ht'
  rw [List.drop_eq_nil_of_le (by rw [z71]; omega)] at hrun
  refine LR.step ?_
  rw [y1n]
  refine RW.seq (RW.of_wpC yo6 yk6 rfl ?_)
  rw [w5n]
  show RW (yX6).pc 6 (some y) (Yw 6 Rd) (cd PP 127 [1,1,1,0,0,1]) _ _ _ _
  rw [y0w,z90,z89,y4y]
  exact RW.seq (RW.cond (t:=false) rfl (RW.exit (hend _ _ h0 h1 h2 h3 h4 h5 hrun.1 hrun.2)))
 | succ d ih =>
  intro t h0 h1 h2 h3 h4 h5 hd ht hh hrun
  have hlt:t < 120:=by omega
  obtain ⟨a,ha⟩:=y55 hlt
  rw [y3a ha,List.flatMap_cons] at hrun
  refine LR.step ?_
  rw [y1n]
  refine RW.seq (RW.of_wpC yo6 yk6 rfl ?_)
  rw [w5n]
  show RW (yX6).pc 6 (some y) (Yw 6 Rd) (cd PP 127 [1,1,1,0,0,1]) _ _ _ _
  rw [y0w,z90,z89]
  refine RW.seq (RW.cond (t:=true) (congrArg AV.bool (decide_eq_true (by omega))) (RW.skip ?_))
  show RW (yX6).pc 6 (some y) (Yw 6 Rd) (cd PP 127 [1,1,1,0,0,1,1]) _ _ _ _
  rw [y5n,y4x,y3d]
  refine RW.seq (RW.block (RW.seq (RW.mask' [0,2,3,17,18,19] (env':=x9m y (t:Int)) (by kernel_rfl) (RW.of_wpC yo6 yk6 rfl ?_))))
  rw [w91,y4f ha,y8f]
  refine z0b (z0z _) (z0b (row_in hlt) (z0b (decide_eq_true y2i) (z0b (decide_eq_true (y4g hlt)) (z0b (y09 a) ?_))))
  show RW (yX6).pc 6 (some y) (Yw 6 Rd) (cd PP 127 [1,1,1,0,0,1,1,0,0,1]) _ _ _ _
  rw [y2f]
  refine RW.seq (RW.mask' [0,2,3,5,17,18,19] (env':=w8q y (t:Int)) (by kernel_rfl) (RW.wl (RW.of_wpC yo6 yk6 rfl ?_)))
  rw [w90]
  show RW (yX6).pc 6 (some y) (Yw 6 Rd) (cd PP 127 [1,1,1,0,0,1,1,0,0,1,1]) _ _ _ _
  rw [y1p,y01]
  refine RW.block (RW.loop (m:=121) ?_)
  refine w9d (Rd:=Rd) (y:=y) (jE:=jE) (hsE:=hsE) ?hst a (t:Int) ((profL.drop (t + 1)).flatMap itB) ?hen 120 0 a.cr a.le h0 h1 h2 h3 h4 h5 (by omega) (by omega) hh hrun
  case hst=>exact fun jc e s h1 h2=>hstop jc e s h1 h2
  intro x1 x2 t' r g0 g1 g2 g3 g4 g5 hh2 hr2
  show RW (yX6).pc 6 (some y) (Yw 6 Rd) (cd PP 127 [1,1,1,0,0,1,1,1]) _ _ _ _
  refine RW.mask' [0,2,3,17,18,19] (env':=x9m y (t:Int)) (by kernel_rfl) ?_
  refine RW.keep 7 (by omega) (by simp [noHL,noH,z2f,z2e,z5s]) (yb6 hh2 (m:=7) (by omega) (by simp [okBlk,noHB,noHL,noH])) ?_
  show RW (yX6).pc 6 (some y) (Yw 6 Rd) _ _ (w17 g0 g1 g2 g3 g4 g5) _ _
  refine RW.of_wpC yo6 yk6 rfl ?_
  rw [w8r]
  show LR (yX6).pc 6 (some y) (Yw 6 Rd) _ _ _ _ _ _
  rw [z09 (x:=(t:Int) + 1) (by omega) (by omega)]
  exact LR.mask' [0,2,3,17,18,19] (env':=x9m y ((t + 1:Nat):Int)) (by kernel_rfl) (ih (t + 1) g0 g1 g2 g3 g4 g5 (by omega) (by omega) hh2 hr2)
end
theorem w5v (Rd:Rnd) (hs:List (Option HB)) (j:Option Code) (hs':List (Option HB)) (y:Nat) (hh:HsOk 6 hs) (hrun:z43 6 Rd itsL hs j hs') :
  RW (yX6).pc 6 (some y) (Yw 6 Rd) (cd PP 127 []) ([.fn (.yield y) [] []]++List.replicate 57 X) ⟨hs,[],[]⟩ ⟨none,0⟩ (x76 6 hs' j):=by
 obtain ⟨h0,h1,h2,h3,h4,h5,rfl⟩:=yh6 hh
 rw [x9p]
 refine RW.seq (RW.of_wpC yo6 yk6 rfl ?_)
 rw [w94]
 show RW (yX6).pc 6 (some y) (Yw 6 Rd) (cd PP 127 [1]) _ _ _ _
 rw [x5w]
 refine RW.seq (RW.mask' [0,2] (env':=([.fn (.yield y) [] [],X,.ptr 6 0]++List.replicate 55 X)) (by kernel_rfl) (RW.wl (RW.of_wpC yo6 yk6 rfl ?_)))
 rw [w93]
 refine ⟨trivial,?_⟩
 show RW (yX6).pc 6 (some y) (Yw 6 Rd) (cd PP 127 [1,1]) _ _ _ _
 rw [x3a]
 refine RW.seq (RW.mask' [0,2,3] (env':=([.fn (.yield y) [] [],X,.ptr 6 0,.vs yP 120 .none]++List.replicate 54 X)) (by kernel_rfl) (RW.of_wpC yo6 yk6 rfl ?_))
 rw [w92]
 show RW (yX6).pc 6 (some y) (Yw 6 Rd) (cd PP 127 [1,1,1]) _ _ _ _
 rw [x08,y9d]
 refine RW.block (RW.loop (m:=121) ?_)
 refine w9e (Rd:=Rd) (y:=y) (jE:=j) (hsE:=hs') (fun jc e s h1 h2=>⟨.inr rfl,h2.symm,rfl,h1⟩) (fun t r g0 g1 g2 g3 g4 g5 h1 h2=>?_) 120 0 h0 h1 h2 h3 h4 h5 (by omega) (by omega) hh hrun
 exact ⟨.inl rfl,h1.symm,rfl,h2.symm⟩
theorem x8k:SeqOk (yX6).pc 6 127 [] [] itsL :=
 SeqOk.of_RW (fn:=Tryz.f127) (c:=cd PP 127 []) (fun g fn c h1 h2=>Tryz.bok.codes g fn c h1 h2) Tryz.func127 (by kernel_rfl) (by kernel_rfl) (by kernel_rfl) fun Rd hs j hs' l h0 hrun=>w5v Rd hs j hs' l h0 hrun
end
end Go.Proofs
set_option maxRecDepth 100000
set_option linter.unusedVariables false
-- elP
namespace Go.Proofs
open Go Go.Ev
def kdV (rs:List Rul) (x:Prf × Prf):Int:=z01 (z2c rs x.1 x.2).1 (z2c rs x.1 x.2).2
def z96 (rs ss:List Rul) (x:Prf × Prf):Bool:=kdV rs x != kdV ss x
def z2b (rs ss:List Rul):Wit:=y3y (csL.find? (z96 rs ss)) (kdV rs) (kdV ss)
noncomputable def on2 (f:List Rul→List Rul→Wit) (l m:List AV):Wit:=z0g z0c (fun rs=>z0g z0c (fun ss=>f rs ss) zWit m) zWit l
def y4h (l:List AV) (len:Nat):Prop:=∃ rs,l = z0c rs∧len = rs.length∧z1j rs∧∀ x ∈ rs,shT x.t = true
noncomputable def R87:Spc:=fun args=>match args with
 | [.agg [.vs l len .none],.agg [.vs m lm .none]]=>some (y4h l len∧y4h m lm,.ret (.tup [.agg (z1r (on2 z2b l m).p (on2 z2b l m).q (on2 z2b l m).a (on2 z2b l m).b),Bo (on2 z2b l m).f]))
 | _=>none
def z3d (rs ss:List Rul):Wit:=if chk rs = 0 then (if chk ss = 0 then { z2b rs ss with f:=!(z2b rs ss).f,e:=0 } else y8k (chk ss)) else y8k (chk rs)
noncomputable def R45:Spc:=fun args=>match args with
 | [.agg [.vs l len .none],.agg [.vs m lm .none]]=>some ((∃ rs,l = z0c rs∧len = rs.length∧z1h rs)∧∃ ss,m = z0c ss∧lm = ss.length∧z1h ss,(on2 z3d l m).ret)
 | _=>none
noncomputable def Tryz.X87:WCx:=Tryz.B.wcx [(79,R79),(85,R85)]
noncomputable def Tryz.X87r:WCx:=Tryz.B.wcxP 6 [(78,R78)]
noncomputable def Tryz.X45:WCx:=Tryz.B.wcx [(27,R27),(87,R87)]
theorem v0l (l m:List AV) (len lm:Nat) (k:Kont):wpC Tryz.X87 (cd PP 87 [0]) ([.agg [.vs l len .none],.agg [.vs m lm .none]]++List.replicate 42 X) ⟨[],[],[]⟩ k =
 (k EX.normal ([AV.agg [AV.vs l len Tok.none],AV.agg [AV.vs m lm Tok.none],AV.ptr 0 0,AV.ptr 1 0,AV.ptr 2 0,AV.ptr 3 0]++List.replicate 38 X) (St.mk [some (HB.cells [AV.vs l len Tok.none] 25),some (HB.cells [AV.vs m lm Tok.none] 25),some (HB.cells [I 0,I 0,Bo false,Bo false,Bo false,I 0,I 0,I 0,I 0,Bo false,Bo false,Bo false,I 0,I 0,I 0,I 0] 61),some (HB.cells [Bo false] 4)] [] [])):=by kernel_rfl
theorem v0k (l m:List AV) (len lm:Nat) (k:Kont):wpC Tryz.X87 (cd PP 87 [1,0]) ([X,X,.ptr 0 0,.ptr 1 0,.ptr 2 0,.ptr 3 0]++List.replicate 38 X) ⟨[some (.cells [.vs l len .none] 25),some (.cells [.vs m lm .none] 25),some (.cells (z1r zPr zPr 0 0) 61),some (.cells [Bo false] 4)],[],[]⟩ k =
 (cIf (noHL [some (HB.cells [AV.vs l len Tok.none] 25),some (HB.cells [AV.vs m lm Tok.none] 25),some (HB.cells [I 0,I 0,Bo false,Bo false,Bo false,I 0,I 0,I 0,I 0,Bo false,Bo false,Bo false,I 0,I 0,I 0,I 0] 61),some (HB.cells [Bo false] 4)].length ([]++[AV.agg [AV.vs l len Tok.none]]++[])) ((∃ (rs:List Rul),l = z0c rs∧len = rs.length∧z1j rs)∧St.mk [some (HB.cells [AV.vs l len Tok.none] 25),some (HB.cells [AV.vs m lm Tok.none] 25),some (HB.cells [I 0,I 0,Bo false,Bo false,Bo false,I 0,I 0,I 0,I 0,Bo false,Bo false,Bo false,I 0,I 0,I 0,I 0] 61),some (HB.cells [Bo false] 4)] [] [] = St.mk [some (HB.cells [AV.vs l len Tok.none] 25),some (HB.cells [AV.vs m lm Tok.none] 25),some (HB.cells [I 0,I 0,Bo false,Bo false,Bo false,I 0,I 0,I 0,I 0,Bo false,Bo false,Bo false,I 0,I 0,I 0,I 0] 61),some (HB.cells [Bo false] 4)] [] []∧cIf (noHL [some (HB.cells [AV.vs l len Tok.none] 25),some (HB.cells [AV.vs m lm Tok.none] 25),some (HB.cells [I 0,I 0,Bo false,Bo false,Bo false,I 0,I 0,I 0,I 0,Bo false,Bo false,Bo false,I 0,I 0,I 0,I 0] 61),some (HB.cells [Bo false] 4)].length ([]++[AV.agg [AV.vs m lm Tok.none]]++[])) ((∃ (rs:List Rul),m = z0c rs∧lm = rs.length∧z1j rs)∧St.mk [some (HB.cells [AV.vs l len Tok.none] 25),some (HB.cells [AV.vs m lm Tok.none] 25),some (HB.cells [I 0,I 0,Bo false,Bo false,Bo false,I 0,I 0,I 0,I 0,Bo false,Bo false,Bo false,I 0,I 0,I 0,I 0] 61),some (HB.cells [Bo false] 4)] [] [] = St.mk [some (HB.cells [AV.vs l len Tok.none] 25),some (HB.cells [AV.vs m lm Tok.none] 25),some (HB.cells [I 0,I 0,Bo false,Bo false,Bo false,I 0,I 0,I 0,I 0,Bo false,Bo false,Bo false,I 0,I 0,I 0,I 0] 61),some (HB.cells [Bo false] 4)] [] []∧k EX.normal ([X,X,AV.ptr 0 0,AV.ptr 1 0,AV.ptr 2 0,AV.ptr 3 0,AV.ptr 4 0,AV.ptr 5 0,X,X,X,X,AV.agg [AV.vs l len Tok.none],AV.vs (encD (z0g z0c z05 [] l)) len Tok.none,AV.agg [AV.vs m lm Tok.none],AV.vs (encD (z0g z0c z05 [] m)) lm Tok.none]++List.replicate 28 X) (St.mk [some (HB.cells [AV.vs l len Tok.none] 25),some (HB.cells [AV.vs m lm Tok.none] 25),some (HB.cells [I 0,I 0,Bo false,Bo false,Bo false,I 0,I 0,I 0,I 0,Bo false,Bo false,Bo false,I 0,I 0,I 0,I 0] 61),some (HB.cells [Bo false] 4),some (HB.cells [AV.vs (encD (z0g z0c z05 [] l)) len Tok.none] 49),some (HB.cells [AV.vs (encD (z0g z0c z05 [] m)) lm Tok.none] 49)] [] [5,4])) False) False):=by kernel_rfl
theorem v0j (l m cs ds:List AV) (len lm n n2:Nat) (k:Kont):wpC Tryz.X87 (cd PP 87 [1,1,0,0]) ([X,X,.ptr 0 0,.ptr 1 0,.ptr 2 0,.ptr 3 0,.ptr 4 0,.ptr 5 0]++List.replicate 36 X) ⟨[some (.cells [.vs l len .none] 25),some (.cells [.vs m lm .none] 25),some (.cells (z1r zPr zPr 0 0) 61),some (.cells [Bo false] 4),some (.cells [.vs cs n .none] 49),some (.cells [.vs ds n2 .none] 49)],[],[]⟩ k =
 (True∧k EX.normal ([X,X,AV.ptr 0 0,AV.ptr 1 0,AV.ptr 2 0,AV.ptr 3 0,AV.ptr 4 0,AV.ptr 5 0,X,X,X,X,X,X,X,X,AV.fn (Fn.func 127) [] []]++List.replicate 27 X) (St.mk [some (HB.cells [AV.vs l len Tok.none] 25),some (HB.cells [AV.vs m lm Tok.none] 25),some (HB.cells [I 0,I 0,Bo false,Bo false,Bo false,I 0,I 0,I 0,I 0,Bo false,Bo false,Bo false,I 0,I 0,I 0,I 0] 61),some (HB.cells [Bo false] 4),some (HB.cells [AV.vs cs n Tok.none] 49),some (HB.cells [AV.vs ds n2 Tok.none] 49)] [] [])):=by kernel_rfl
theorem v0i (l m cs ds:List AV) (len lm n n2:Nat) (p q:Prf) (k:Kont):wpC Tryz.X87r (cd PP 87 [1,1,0,1,0,0]) ([X,X,.ptr 0 0,.ptr 1 0,.ptr 2 0,.ptr 3 0,.ptr 4 0,.ptr 5 0,X,X,X,X,X,X,X,X,.fn (.func 127) [] [],.agg (z0a p),.agg (z0a q)]++List.replicate 25 X) ⟨[some (.cells [.vs l len .none] 25),some (.cells [.vs m lm .none] 25),some (.cells (z1r zPr zPr 0 0) 61),some (.cells [Bo false] 4),some (.cells [.vs cs n .none] 49),some (.cells [.vs ds n2 .none] 49)],[],[]⟩ k =
 (k EX.normal ([X,X,AV.ptr 0 0,AV.ptr 1 0,AV.ptr 2 0,AV.ptr 3 0,AV.ptr 4 0,AV.ptr 5 0,AV.ptr 6 0,AV.ptr 7 0,X,X,X,X,X,X,AV.fn (Fn.func 127) [] [],AV.agg (z0a p),AV.agg (z0a q)]++List.replicate 25 X) (St.mk [some (HB.cells [AV.vs l len Tok.none] 25),some (HB.cells [AV.vs m lm Tok.none] 25),some (HB.cells [I 0,I 0,Bo false,Bo false,Bo false,I 0,I 0,I 0,I 0,Bo false,Bo false,Bo false,I 0,I 0,I 0,I 0] 61),some (HB.cells [Bo false] 4),some (HB.cells [AV.vs cs n Tok.none] 49),some (HB.cells [AV.vs ds n2 Tok.none] 49),some (HB.cells (z0a p) 40),some (HB.cells (z0a q) 40)] [] [7,6])):=by kernel_rfl
theorem v0h (l m cs ds:List AV) (len lm n n2:Nat) (p q:Prf) (k:Kont):wpC Tryz.X87r (cd PP 87 [1,1,0,1,0,1]) ([X,X,.ptr 0 0,.ptr 1 0,.ptr 2 0,.ptr 3 0,.ptr 4 0,.ptr 5 0,.ptr 6 0,.ptr 7 0,X,X,X,X,X,X,.fn (.func 127) [] [],.agg (z0a p),.agg (z0a q)]++List.replicate 25 X) ⟨[some (.cells [.vs l len .none] 25),some (.cells [.vs m lm .none] 25),some (.cells (z1r zPr zPr 0 0) 61),some (.cells [Bo false] 4),some (.cells [.vs cs n .none] 49),some (.cells [.vs ds n2 .none] 49),some (.cells (z0a p) 40),some (.cells (z0a q) 40)],[],[7,6]⟩ k =
 (cIf (noHL [some (HB.cells [AV.vs l len Tok.none] 25),some (HB.cells [AV.vs m lm Tok.none] 25),some (HB.cells [I 0,I 0,Bo false,Bo false,Bo false,I 0,I 0,I 0,I 0,Bo false,Bo false,Bo false,I 0,I 0,I 0,I 0] 61),some (HB.cells [Bo false] 4),some (HB.cells [AV.vs cs n Tok.none] 49),some (HB.cells [AV.vs ds n2 Tok.none] 49),some (HB.cells (z0a p) 40),some (HB.cells (z0a q) 40)].length ([]++[AV.agg [AV.vs l len Tok.none],AV.vs cs n Tok.none,AV.agg (z0a p),AV.agg (z0a q),AV.raw RV.nilFunc]++[])) (((∃ (rs:List Rul),∃ (ord:List Nat),l = z0c rs∧len = rs.length∧z1j rs∧(∀ (x:Rul),x ∈ rs→shT x.t = true)∧cs = encD ord∧n = ord.length∧ord.length ≤ 24∧∀ (x:Nat),x ∈ ord→x < rs.length)∧(∃ (p_1:Prf),(z0a p) = z0a p_1)∧∃ (q_1:Prf),(z0a q) = z0a q_1)∧St.mk [some (HB.cells [AV.vs l len Tok.none] 25),some (HB.cells [AV.vs m lm Tok.none] 25),some (HB.cells [I 0,I 0,Bo false,Bo false,Bo false,I 0,I 0,I 0,I 0,Bo false,Bo false,Bo false,I 0,I 0,I 0,I 0] 61),some (HB.cells [Bo false] 4),some (HB.cells [AV.vs cs n Tok.none] 49),some (HB.cells [AV.vs ds n2 Tok.none] 49),some (HB.cells (z0a p) 40),some (HB.cells (z0a q) 40)] [] [7,6] = St.mk [some (HB.cells [AV.vs l len Tok.none] 25),some (HB.cells [AV.vs m lm Tok.none] 25),some (HB.cells [I 0,I 0,Bo false,Bo false,Bo false,I 0,I 0,I 0,I 0,Bo false,Bo false,Bo false,I 0,I 0,I 0,I 0] 61),some (HB.cells [Bo false] 4),some (HB.cells [AV.vs cs n Tok.none] 49),some (HB.cells [AV.vs ds n2 Tok.none] 49),some (HB.cells (z0a p) 40),some (HB.cells (z0a q) 40)] [] [7,6]∧cIf (noHL [some (HB.cells [AV.vs l len Tok.none] 25),some (HB.cells [AV.vs m lm Tok.none] 25),some (HB.cells [I 0,I 0,Bo false,Bo false,Bo false,I 0,I 0,I 0,I 0,Bo false,Bo false,Bo false,I 0,I 0,I 0,I 0] 61),some (HB.cells [Bo false] 4),some (HB.cells [AV.vs cs n Tok.none] 49),some (HB.cells [AV.vs ds n2 Tok.none] 49),some (HB.cells (z0a p) 40),some (HB.cells (z0a q) 40)].length ([]++[AV.agg [AV.vs m lm Tok.none],AV.vs ds n2 Tok.none,AV.agg (z0a p),AV.agg (z0a q),AV.raw RV.nilFunc]++[])) (((∃ (rs:List Rul),∃ (ord:List Nat),m = z0c rs∧lm = rs.length∧z1j rs∧(∀ (x:Rul),x ∈ rs→shT x.t = true)∧ds = encD ord∧n2 = ord.length∧ord.length ≤ 24∧∀ (x:Nat),x ∈ ord→x < rs.length)∧(∃ (p_1:Prf),(z0a p) = z0a p_1)∧∃ (q_1:Prf),(z0a q) = z0a q_1)∧St.mk [some (HB.cells [AV.vs l len Tok.none] 25),some (HB.cells [AV.vs m lm Tok.none] 25),some (HB.cells [I 0,I 0,Bo false,Bo false,Bo false,I 0,I 0,I 0,I 0,Bo false,Bo false,Bo false,I 0,I 0,I 0,I 0] 61),some (HB.cells [Bo false] 4),some (HB.cells [AV.vs cs n Tok.none] 49),some (HB.cells [AV.vs ds n2 Tok.none] 49),some (HB.cells (z0a p) 40),some (HB.cells (z0a q) 40)] [] [7,6] = St.mk [some (HB.cells [AV.vs l len Tok.none] 25),some (HB.cells [AV.vs m lm Tok.none] 25),some (HB.cells [I 0,I 0,Bo false,Bo false,Bo false,I 0,I 0,I 0,I 0,Bo false,Bo false,Bo false,I 0,I 0,I 0,I 0] 61),some (HB.cells [Bo false] 4),some (HB.cells [AV.vs cs n Tok.none] 49),some (HB.cells [AV.vs ds n2 Tok.none] 49),some (HB.cells (z0a p) 40),some (HB.cells (z0a q) 40)] [] [7,6]∧cIf (z01 (dvP l cs (z0a p) (z0a q)).fst (dvP l cs (z0a p) (z0a q)).snd != z01 (dvP m ds (z0a p) (z0a q)).fst (dvP m ds (z0a p) (z0a q)).snd) (k EX.ret [X,X,AV.ptr 0 0,AV.ptr 1 0,AV.ptr 2 0,AV.ptr 3 0,AV.ptr 4 0,AV.ptr 5 0,AV.ptr 6 0,AV.ptr 7 0,AV.ptr 8 0,AV.ptr 9 0,X,X,X,X,AV.fn (Fn.func 127) [] [],AV.agg (z0a p),AV.agg (z0a q),AV.agg [AV.vs l len Tok.none],AV.vs cs n Tok.none,AV.agg (z0a p),AV.agg (z0a q),AV.agg [AV.int IntKind.u8 (z01 (dvP l cs (z0a p) (z0a q)).fst (dvP l cs (z0a p) (z0a q)).snd),AV.int IntKind.i64 (dvP l cs (z0a p) (z0a q)).fst,AV.int IntKind.i64 (dvP l cs (z0a p) (z0a q)).snd],AV.agg [AV.vs m lm Tok.none],AV.vs ds n2 Tok.none,AV.agg (z0a p),AV.agg (z0a q),AV.agg [AV.int IntKind.u8 (z01 (dvP m ds (z0a p) (z0a q)).fst (dvP m ds (z0a p) (z0a q)).snd),AV.int IntKind.i64 (dvP m ds (z0a p) (z0a q)).fst,AV.int IntKind.i64 (dvP m ds (z0a p) (z0a q)).snd],AV.ptr 8 0,AV.int IntKind.u8 (z01 (dvP l cs (z0a p) (z0a q)).fst (dvP l cs (z0a p) (z0a q)).snd),AV.ptr 9 0,AV.int IntKind.u8 (z01 (dvP m ds (z0a p) (z0a q)).fst (dvP m ds (z0a p) (z0a q)).snd),AV.bool (z01 (dvP l cs (z0a p) (z0a q)).fst (dvP l cs (z0a p) (z0a q)).snd != z01 (dvP m ds (z0a p) (z0a q)).fst (dvP m ds (z0a p) (z0a q)).snd),AV.agg (z0a p),AV.agg (z0a q),AV.ptr 8 0,AV.int IntKind.u8 (z01 (dvP l cs (z0a p) (z0a q)).fst (dvP l cs (z0a p) (z0a q)).snd),AV.int IntKind.i64 (IntKind.i64.wrap (z01 (dvP l cs (z0a p) (z0a q)).fst (dvP l cs (z0a p) (z0a q)).snd)),AV.ptr 9 0,AV.int IntKind.u8 (z01 (dvP m ds (z0a p) (z0a q)).fst (dvP m ds (z0a p) (z0a q)).snd),AV.int IntKind.i64 (IntKind.i64.wrap (z01 (dvP m ds (z0a p) (z0a q)).fst (dvP m ds (z0a p) (z0a q)).snd)),AV.agg [I p.cl,I p.vi,Bo p.ho,Bo p.de,Bo p.mo,I p.cr,I p.le,I q.cl,I q.vi,Bo q.ho,Bo q.de,Bo q.mo,I q.cr,I q.le,AV.int IntKind.i64 (IntKind.i64.wrap (z01 (dvP l cs (z0a p) (z0a q)).fst (dvP l cs (z0a p) (z0a q)).snd)),AV.int IntKind.i64 (IntKind.i64.wrap (z01 (dvP m ds (z0a p) (z0a q)).fst (dvP m ds (z0a p) (z0a q)).snd))],X] (St.mk [some (HB.cells [AV.vs l len Tok.none] 25),some (HB.cells [AV.vs m lm Tok.none] 25),some (HB.cells [I p.cl,I p.vi,Bo p.ho,Bo p.de,Bo p.mo,I p.cr,I p.le,I q.cl,I q.vi,Bo q.ho,Bo q.de,Bo q.mo,I q.cr,I q.le,AV.int IntKind.i64 (IntKind.i64.wrap (z01 (dvP l cs (z0a p) (z0a q)).fst (dvP l cs (z0a p) (z0a q)).snd)),AV.int IntKind.i64 (IntKind.i64.wrap (z01 (dvP m ds (z0a p) (z0a q)).fst (dvP m ds (z0a p) (z0a q)).snd))] 61),some (HB.cells [Bo true] 4),some (HB.cells [AV.vs cs n Tok.none] 49),some (HB.cells [AV.vs ds n2 Tok.none] 49),some (HB.cells (z0a p) 40),some (HB.cells (z0a q) 40),some (HB.cells [AV.int IntKind.u8 (z01 (dvP l cs (z0a p) (z0a q)).fst (dvP l cs (z0a p) (z0a q)).snd),AV.int IntKind.i64 (dvP l cs (z0a p) (z0a q)).fst,AV.int IntKind.i64 (dvP l cs (z0a p) (z0a q)).snd] 42),some (HB.cells [AV.int IntKind.u8 (z01 (dvP m ds (z0a p) (z0a q)).fst (dvP m ds (z0a p) (z0a q)).snd),AV.int IntKind.i64 (dvP m ds (z0a p) (z0a q)).fst,AV.int IntKind.i64 (dvP m ds (z0a p) (z0a q)).snd] 42)] [] [3,2,9,8,7,6])) (k EX.normal ([X,X,AV.ptr 0 0,AV.ptr 1 0,AV.ptr 2 0,AV.ptr 3 0,AV.ptr 4 0,AV.ptr 5 0,AV.ptr 6 0,AV.ptr 7 0,AV.ptr 8 0,AV.ptr 9 0,X,X,X,X,AV.fn (Fn.func 127) [] [],AV.agg (z0a p),AV.agg (z0a q),AV.agg [AV.vs l len Tok.none],AV.vs cs n Tok.none,AV.agg (z0a p),AV.agg (z0a q),AV.agg [AV.int IntKind.u8 (z01 (dvP l cs (z0a p) (z0a q)).fst (dvP l cs (z0a p) (z0a q)).snd),AV.int IntKind.i64 (dvP l cs (z0a p) (z0a q)).fst,AV.int IntKind.i64 (dvP l cs (z0a p) (z0a q)).snd],AV.agg [AV.vs m lm Tok.none],AV.vs ds n2 Tok.none,AV.agg (z0a p),AV.agg (z0a q),AV.agg [AV.int IntKind.u8 (z01 (dvP m ds (z0a p) (z0a q)).fst (dvP m ds (z0a p) (z0a q)).snd),AV.int IntKind.i64 (dvP m ds (z0a p) (z0a q)).fst,AV.int IntKind.i64 (dvP m ds (z0a p) (z0a q)).snd],AV.ptr 8 0,AV.int IntKind.u8 (z01 (dvP l cs (z0a p) (z0a q)).fst (dvP l cs (z0a p) (z0a q)).snd),AV.ptr 9 0,AV.int IntKind.u8 (z01 (dvP m ds (z0a p) (z0a q)).fst (dvP m ds (z0a p) (z0a q)).snd),AV.bool (z01 (dvP l cs (z0a p) (z0a q)).fst (dvP l cs (z0a p) (z0a q)).snd != z01 (dvP m ds (z0a p) (z0a q)).fst (dvP m ds (z0a p) (z0a q)).snd)]++List.replicate 10 X) (St.mk [some (HB.cells [AV.vs l len Tok.none] 25),some (HB.cells [AV.vs m lm Tok.none] 25),some (HB.cells [I 0,I 0,Bo false,Bo false,Bo false,I 0,I 0,I 0,I 0,Bo false,Bo false,Bo false,I 0,I 0,I 0,I 0] 61),some (HB.cells [Bo false] 4),some (HB.cells [AV.vs cs n Tok.none] 49),some (HB.cells [AV.vs ds n2 Tok.none] 49),some (HB.cells (z0a p) 40),some (HB.cells (z0a q) 40),some (HB.cells [AV.int IntKind.u8 (z01 (dvP l cs (z0a p) (z0a q)).fst (dvP l cs (z0a p) (z0a q)).snd),AV.int IntKind.i64 (dvP l cs (z0a p) (z0a q)).fst,AV.int IntKind.i64 (dvP l cs (z0a p) (z0a q)).snd] 42),some (HB.cells [AV.int IntKind.u8 (z01 (dvP m ds (z0a p) (z0a q)).fst (dvP m ds (z0a p) (z0a q)).snd),AV.int IntKind.i64 (dvP m ds (z0a p) (z0a q)).fst,AV.int IntKind.i64 (dvP m ds (z0a p) (z0a q)).snd] 42)] [] [9,8,7,6]))) False) False):=by kernel_rfl
theorem v0g (l m cs ds:List AV) (len lm n n2:Nat) (k:Kont):wpC Tryz.X87 (cd PP 87 [1,1,1,0]) ([X,X,.ptr 0 0,.ptr 1 0,.ptr 2 0,.ptr 3 0,.ptr 4 0,.ptr 5 0,X,X,X,X,X,X,X,X,.fn (.func 127) [] []]++List.replicate 27 X) ⟨[some (.cells [.vs l len .none] 25),some (.cells [.vs m lm .none] 25),some (.cells (z1r zPr zPr 0 0) 61),some (.cells [Bo false] 4),some (.cells [.vs cs n .none] 49),some (.cells [.vs ds n2 .none] 49)],[],[]⟩ k =
 (k EX.normal [X,X,AV.ptr 0 0,AV.ptr 1 0,AV.ptr 2 0,AV.ptr 3 0,AV.ptr 4 0,AV.ptr 5 0,X,X,X,X,X,X,X,X,AV.fn (Fn.func 127) [] [],X,X,X,X,X,X,X,X,X,X,X,X,X,X,X,X,X,X,X,X,X,X,X,X,X,X,AV.agg [I 0,I 0,Bo false,Bo false,Bo false,I 0,I 0,I 0,I 0,Bo false,Bo false,Bo false,I 0,I 0,I 0,I 0]] (St.mk [some (HB.cells [AV.vs l len Tok.none] 25),some (HB.cells [AV.vs m lm Tok.none] 25),some (HB.cells [I 0,I 0,Bo false,Bo false,Bo false,I 0,I 0,I 0,I 0,Bo false,Bo false,Bo false,I 0,I 0,I 0,I 0] 61),some (HB.cells [Bo false] 4),some (HB.cells [AV.vs cs n Tok.none] 49),some (HB.cells [AV.vs ds n2 Tok.none] 49)] [] [3,2])):=by kernel_rfl
theorem w5w (l m cs ds:List AV) (len lm n n2:Nat) (p q:Prf) (a b:Int) (f:Bool) (u:AV) (ws:List Nat) (Q:CR→Prop):wpC Tryz.X87 (cd PP 87 [1,1,1,1]) ([X,X,.ptr 0 0,.ptr 1 0,.ptr 2 0,.ptr 3 0,.ptr 4 0,.ptr 5 0,X,X,X,X,X,X,X,X,.fn (.func 127) [] []]++List.replicate 26 X++[u]) ⟨[some (.cells [.vs l len .none] 25),some (.cells [.vs m lm .none] 25),some (.cells (z1r p q a b) 61),some (.cells [Bo f] 4),some (.cells [.vs cs n .none] 49),some (.cells [.vs ds n2 .none] 49)],[],ws⟩ (z0f Tryz.X87 87 Q) =
 (Q (CR.ret (AV.tup [AV.agg [I p.cl,I p.vi,Bo p.ho,Bo p.de,Bo p.mo,I p.cr,I p.le,I q.cl,I q.vi,Bo q.ho,Bo q.de,Bo q.mo,I q.cr,I q.le,I a,I b],Bo f]))):=by kernel_rfl
theorem v45 (l m:List AV) (len lm:Nat) (Q:CR→Prop):wpF Tryz.X45 45 [.agg [.vs l len .none],.agg [.vs m lm .none]] Q =
 ((∃ (rs:List Rul),l = z0c rs∧len = rs.length∧z1h rs)∧cIf (z0g z0c chk (0:Int) l != (0:Int)) (Q (CR.ret (AV.tup [AV.agg [I 0,I 0,Bo false,Bo false,Bo false,I 0,I 0,I 0,I 0,Bo false,Bo false,Bo false,I 0,I 0,I 0,I 0],Bo false,I (z0g z0c chk (0:Int) l)]))) ((∃ (rs:List Rul),m = z0c rs∧lm = rs.length∧z1h rs)∧cIf (z0g z0c chk (0:Int) m != (0:Int)) (Q (CR.ret (AV.tup [AV.agg [I 0,I 0,Bo false,Bo false,Bo false,I 0,I 0,I 0,I 0,Bo false,Bo false,Bo false,I 0,I 0,I 0,I 0],Bo false,I (z0g z0c chk (0:Int) m)]))) ((y4h l len∧y4h m lm)∧Q (CR.ret (AV.tup [AV.agg [I (on2 z2b l m).p.cl,I (on2 z2b l m).p.vi,Bo (on2 z2b l m).p.ho,Bo (on2 z2b l m).p.de,Bo (on2 z2b l m).p.mo,I (on2 z2b l m).p.cr,I (on2 z2b l m).p.le,I (on2 z2b l m).q.cl,I (on2 z2b l m).q.vi,Bo (on2 z2b l m).q.ho,Bo (on2 z2b l m).q.de,Bo (on2 z2b l m).q.mo,I (on2 z2b l m).q.cr,I (on2 z2b l m).q.le,I (on2 z2b l m).a,I (on2 z2b l m).b],Bo !(on2 z2b l m).f,I 0]))))):=by kernel_rfl
end Go.Proofs
set_option maxRecDepth 100000
set_option linter.unusedVariables false
namespace Go.Proofs
open Go Go.Ev
theorem w00:cd PP 87 [1,1,0,1,0] = .rangeFunc (.tmp 16) #[17,18] (cd PP 87 [1,1,0,1,0,0]) (cd PP 87 [1,1,0,1,0,1]):=by kernel_rfl
theorem w2a:cd PP 87 [1,1,0,1] = .block 0 (cd PP 87 [1,1,0,1,0]):=by kernel_rfl
theorem w46:cd PP 87 [1,1,0] = .seq (cd PP 87 [1,1,0,0]) (cd PP 87 [1,1,0,1]):=by kernel_rfl
theorem x5v:cd PP 87 [1,1,1,0] = .region 8 (opsOf (cd PP 87 [1,1,1,0])) false:=by kernel_rfl
theorem x07:cd PP 87 [1,1,1,1] = .ret:=by kernel_rfl
theorem w45:cd PP 87 [1,1,1] = .seq (cd PP 87 [1,1,1,0]) (cd PP 87 [1,1,1,1]):=by kernel_rfl
theorem w7i:cd PP 87 [1,1] = .seq (cd PP 87 [1,1,0]) (cd PP 87 [1,1,1]):=by kernel_rfl
theorem w85:cd PP 87 [1] = .seq (cd PP 87 [1,0]) (cd PP 87 [1,1]):=by kernel_rfl
theorem v0r:cd PP 87 [] = .seq (cd PP 87 [0]) (cd PP 87 [1]):=by kernel_rfl
theorem x8v (v w:Int):0 ≤ z01 v w∧z01 v w ≤ 3:=by unfold z01; repeat' split <;> omega
theorem x1k (v w:Int):IntKind.i64.wrap (z01 v w) = z01 v w:=z09 (by have:=x8v v w; omega) (by have:=x8v v w; omega)
def y4z (rs ss:List Rul) (p q:Prf) (a b:Int) (f:Bool):List (Option HB):=[some (.cells [.vs (z0c rs) rs.length .none] 25),some (.cells [.vs (z0c ss) ss.length .none] 25),some (.cells (z1r p q a b) 61),some (.cells [Bo f] 4),some (.cells [.vs (encD (z05 rs)) rs.length .none] 49),some (.cells [.vs (encD (z05 ss)) ss.length .none] 49)]
theorem y1z (rs ss:List Rul) (p q:Prf) (a b:Int) (f:Bool):HsOk 6 (y4z rs ss p q a b f) where
 len:=rfl
 ok:=by simp [y4z,z1i,noHB,noHL,noH,z0t,z1t,z1r]
 st:=by simp [y4z,z06,z0e,scrub,Tok.scrub,z1f,z2x,z1r]
def w2r (rs ss:List Rul):Rnd:=fun it hs j hs'=>∃ x:Prf × Prf,it = itmP x∧hs = y4z rs ss zPr zPr 0 0 false∧((z96 rs ss x = false∧j = none∧hs' = y4z rs ss zPr zPr 0 0 false) ∨ (z96 rs ss x = true∧j = some .ret∧hs' = y4z rs ss x.1 x.2 (kdV rs x) (kdV ss x) true))
abbrev e87:Env:=[X,X,.ptr 0 0,.ptr 1 0,.ptr 2 0,.ptr 3 0,.ptr 4 0,.ptr 5 0,X,X,X,X,X,X,X,X,.fn (.func 127) [] []]++List.replicate 27 X
theorem w8b:Cts Tryz.B [(78,R78)]:=(Cts.nil _).cons x9x
theorem w7m:Tryz.X87r.Ones:=z00 Tryz.bok w8b
theorem w7u:CxOk Tryz.X87r.cx:=z1c Tryz.bok w8b
section
attribute [local irreducible] wpC wpF
theorem w7g {rs ss:List Rul} (hrs:z1j rs) (hsh:∀ x ∈ rs,shT x.t = true) (hss:z1j ss) (hsh2:∀ x ∈ ss,shT x.t = true):y4u Tryz.X87r #[17,18] (cd PP 87 [1,1,0,1,0,0]) (cd PP 87 [1,1,0,1,0,1]) e87 (w2r rs ss):=by
 rintro it hs j hs' ⟨x,rfl,rfl,h⟩ _
 refine ⟨rfl,?_⟩
 rw [show setPs e87 (#[17,18]:Array Tmp).toList (itmP x) = ([X,X,.ptr 0 0,.ptr 1 0,.ptr 2 0,.ptr 3 0,.ptr 4 0,.ptr 5 0,X,X,X,X,X,X,X,X,.fn (.func 127) [] [],.agg (z0a x.1),.agg (z0a x.2)]++List.replicate 25 X) by kernel_rfl]
 refine (v0i (z0c rs) (z0c ss) (encD (z05 rs)) (encD (z05 ss)) rs.length ss.length rs.length ss.length x.1 x.2 _).mpr ⟨rfl,?_⟩
 refine (v0h (z0c rs) (z0c ss) (encD (z05 rs)) (encD (z05 ss)) rs.length ss.length rs.length ss.length x.1 x.2 _).mpr ?_
 rw [x3g,x3g,x1k,x1k]
 refine z0b (by simp [noHL,noH,z0t,z1t,z04]) ⟨d78 hrs hsh _ _,rfl,z0b (by simp [noHL,noH,z0t,z1t,z04]) ⟨d78 hss hsh2 _ _,rfl,z0h (fun hc=>?_) (fun hc=>?_)⟩⟩
 ·have hg:z96 rs ss x = true:=hc
  rcases h with ⟨h1,_⟩ | ⟨_,rfl,rfl⟩
  ·rw [hg] at h1; cases h1
  ·exact ⟨fun v h=>(by cases h),rfl,(y1z rs ss x.1 x.2 (kdV rs x) (kdV ss x) true).okBlk,(y1z rs ss x.1 x.2 (kdV rs x) (kdV ss x) true).st⟩
 ·have hg:z96 rs ss x = false:=hc
  rcases h with ⟨_,rfl,rfl⟩ | ⟨h1,_⟩
  ·exact ⟨fun v h=>(by cases h),rfl,(y1z rs ss zPr zPr 0 0 false).okBlk,(y1z rs ss zPr zPr 0 0 false).st⟩
  ·rw [hg] at h1; cases h1
theorem w80 {rs ss:List Rul}:(∀ x,csL.find? (z96 rs ss) = some x→z43 6 (w2r rs ss) itsL (y4z rs ss zPr zPr 0 0 false) (some .ret) (y4z rs ss x.1 x.2 (kdV rs x) (kdV ss x) true))∧(csL.find? (z96 rs ss) = none→z43 6 (w2r rs ss) itsL (y4z rs ss zPr zPr 0 0 false) none (y4z rs ss zPr zPr 0 0 false)):=by
 rw [x1m]
 exact y9 (z96 rs ss) (y1z _ _ _ _ _ _ _) (fun x=>y1z _ _ _ _ _ _ _) (fun x hx=>⟨x,rfl,rfl,.inl ⟨hx,rfl,rfl⟩⟩) (fun x hx=>⟨x,rfl,rfl,.inr ⟨hx,rfl,rfl⟩⟩) csL
theorem c87:Cts Tryz.B [(79,R79),(85,R85)]:=((Cts.nil _).cons w1r).cons x6r
theorem o87:Tryz.X87.Ones:=z0y Tryz.bok c87
theorem k87:CxOk Tryz.X87.cx:=z1e Tryz.bok c87
def Wit.two (w:Wit):CR:=.ret (.tup [.agg (z1r w.p w.q w.a w.b),Bo w.f])
theorem w87 {rs ss:List Rul} (hrs:z1j rs) (hsh:∀ x ∈ rs,shT x.t = true) (hss:z1j ss) (hsh2:∀ x ∈ ss,shT x.t = true):RW Tryz.X87.pc 0 none noY (cd PP 87 []) ([.agg [.vs (z0c rs) rs.length .none],.agg [.vs (z0c ss) ss.length .none]]++List.replicate 42 X) St.nil ⟨none,0⟩ (x0q Tryz.X87 87 (z2b rs ss).two):=by
 rw [v0r]
 refine RW.seq (RW.of_wpC o87 k87 rfl ?_)
 refine (v0l (z0c rs) (z0c ss) rs.length ss.length _).mpr ?_
 show RW _ _ _ _ (cd PP 87 [1]) _ _ _ _
 rw [w85]
 refine RW.seq (RW.mask' [2,3,4,5] (env':=[X,X,.ptr 0 0,.ptr 1 0,.ptr 2 0,.ptr 3 0]++List.replicate 38 X) (by kernel_rfl) (RW.of_wpC o87 k87 rfl ?_))
 refine (v0k (z0c rs) (z0c ss) rs.length ss.length _).mpr ?_
 rw [z0j z0u,z0j z0u]
 refine z0b (by simp [noHL,noH,z0t]) ⟨⟨rs,rfl,rfl,hrs⟩,rfl,z0b (by simp [noHL,noH,z0t]) ⟨⟨ss,rfl,rfl,hss⟩,rfl,?_⟩⟩
 show RW _ _ _ _ (cd PP 87 [1,1]) _ _ _ _
 rw [w7i,w46]
 refine RW.seq (RW.seq (RW.mask' [2,3,4,5,6,7] (env':=[X,X,.ptr 0 0,.ptr 1 0,.ptr 2 0,.ptr 3 0,.ptr 4 0,.ptr 5 0]++List.replicate 36 X) (by kernel_rfl) (RW.wl (RW.of_wpC o87 k87 rfl ?_))))
 refine (v0j (z0c rs) (z0c ss) (encD (z05 rs)) (encD (z05 ss)) rs.length ss.length rs.length ss.length _).mpr ⟨trivial,?_⟩
 show RW _ _ _ _ (cd PP 87 [1,1,0,1]) _ _ _ _
 rw [w2a,w00]
 refine RW.block ?_
 have hr:=w80 (rs:=rs) (ss:=ss)
 cases hx:csL.find? (z96 rs ss) with
 | none =>
  have hcl:(z2b rs ss).two = zWit.two:=by unfold z2b; rw [hx]; rfl
  rw [hcl]
  refine RW.range (C:=Tryz.X87r) (hs:=y4z rs ss zPr zPr 0 0 false) (m:=0) w7m w7u (fun g l h=>Tryz.gtpB g l h) rfl rfl (by kernel_rfl) (by kernel_rfl) rfl (SeqOk.congr (C:=(yX6).pc) (D:=Tryz.X87r.cx) rfl rfl x8k) (w7g hrs hsh hss hsh2) (y1z _ _ _ _ _ _ _) (by kernel_rfl) (by kernel_rfl) (hr.2 hx) ?_
  show RW _ _ _ _ (cd PP 87 [1,1,1]) _ _ _ _
  rw [w45,x5v]
  refine RW.seq (RW.cxpc (RW.region o87 k87 ?_))
  rw [← x5v]
  refine (v0g (z0c rs) (z0c ss) (encD (z05 rs)) (encD (z05 ss)) rs.length ss.length rs.length ss.length _).mpr ?_
  show RW _ _ _ _ (cd PP 87 [1,1,1,1]) _ _ _ _
  rw [x07]
  refine RW.ret ⟨fun v h=>(by cases h),?_⟩
  exact y66 x07 ((w5w (z0c rs) (z0c ss) (encD (z05 rs)) (encD (z05 ss)) rs.length ss.length rs.length ss.length zPr zPr 0 0 false (.agg (z1r zPr zPr 0 0)) _ _).mpr rfl)
 | some x =>
  have hcl:(z2b rs ss).two = (Wit.mk x.1 x.2 (kdV rs x) (kdV ss x) true 0).two:=by unfold z2b; rw [hx]; rfl
  rw [hcl]
  refine RW.range (C:=Tryz.X87r) (hs:=y4z rs ss zPr zPr 0 0 false) (m:=0) w7m w7u (fun g l h=>Tryz.gtpB g l h) rfl rfl (by kernel_rfl) (by kernel_rfl) rfl (SeqOk.congr (C:=(yX6).pc) (D:=Tryz.X87r.cx) rfl rfl x8k) (w7g hrs hsh hss hsh2) (y1z _ _ _ _ _ _ _) (by kernel_rfl) (by kernel_rfl) (hr.1 x hx) ?_
  exact ⟨fun v h=>(by cases h),y66 x07 ((w5w (z0c rs) (z0c ss) (encD (z05 rs)) (encD (z05 ss)) rs.length ss.length rs.length ss.length x.1 x.2 (kdV rs x) (kdV ss x) true X _ _).mpr rfl)⟩
theorem x37 (f:List Rul→List Rul→Wit) (rs ss:List Rul):on2 f (z0c rs) (z0c ss) = f rs ss:=by
 unfold on2
 rw [z0j z0u,z0j z0u]
theorem v1h:Ct Tryz.B.c0 87 R87 where
 body:=⟨_,_,Tryz.func87,rfl⟩
 ok:=fun args D r hR hD=>by
  unfold R87 at hR
  split at hR <;> cases hR
  obtain ⟨⟨rs,rfl,rfl,hrs,hsh⟩,ss,rfl,rfl,hss,hsh2⟩:=hD
  refine ⟨by simp [noHL,noH,z0t],?_⟩
  rw [show z0e 0 [AV.agg [.vs (z0c rs) rs.length .none],AV.agg [.vs (z0c ss) ss.length .none]] = [AV.agg [.vs (z0c rs) rs.length .none],AV.agg [.vs (z0c ss) ss.length .none]] by simp [z0e,scrub,z1f,Tok.scrub],x37]
  have:=CallOk.of_RW (C:=Tryz.X87) (g:=87) (args:=[AV.agg [.vs (z0c rs) rs.length .none],AV.agg [.vs (z0c ss) ss.length .none]]) (fn:=Tryz.f87) (c:=cd PP 87 []) k87 Tryz.func87 (by kernel_rfl) (RW.congr (C:=Tryz.X87.pc) (D:=Tryz.X87.cx) rfl rfl (w87 hrs hsh hss hsh2))
  exact fun G w us h1 h2 h3=>this G w us h1 h2 h3
end
section
attribute [local irreducible] csL z2i
variable {rs ss:List Rul} (hrs:z1j rs) (hss:z1j ss) {Q:CR→Prop}
include hrs hss
end
section
attribute [local irreducible] csL z2b chk
theorem w18 {rs ss:List Rul} (hw:z1h rs) (hw2:z1h ss) {Q:CR→Prop} (hQ:Q (z3d rs ss).ret) :
  ((∃ (rs_1:List Rul),z0c rs = z0c rs_1∧rs.length = rs_1.length∧z1h rs_1)∧cIf (chk rs != (0:Int)) (Q (y8k (chk rs)).ret) ((∃ (rs_1:List Rul),z0c ss = z0c rs_1∧ss.length = rs_1.length∧z1h rs_1)∧cIf (chk ss != (0:Int)) (Q (y8k (chk ss)).ret) ((y4h (z0c rs) rs.length∧y4h (z0c ss) ss.length)∧Q { z2b rs ss with f:=!(z2b rs ss).f,e:=0:Wit }.ret))):=by
 unfold z3d at hQ
 refine ⟨⟨rs,rfl,rfl,hw⟩,z0h (fun h=>?_) (fun h=>⟨⟨ss,rfl,rfl,hw2⟩,z0h (fun h2=>?_) (fun h2=>?_)⟩)⟩
 ·rw [if_neg (by simpa using h)] at hQ; exact hQ
 ·rw [if_pos (by simpa using h),if_neg (by simpa using h2)] at hQ; exact hQ
 ·have h:chk rs = 0:=by simpa using h
  have h2:chk ss = 0:=by simpa using h2
  rw [if_pos h,if_pos h2] at hQ
  obtain ⟨a1,a2,_⟩:=z8x hw h
  obtain ⟨b1,b2,_⟩:=z8x hw2 h2
  exact ⟨⟨⟨rs,rfl,rfl,a1,a2⟩,ss,rfl,rfl,b1,b2⟩,hQ⟩
theorem v1k:Ct Tryz.B.c0 45 R45:=Ct.of_wp (l:=[(27,R27),(87,R87)]) (lm:=[]) (tp:=[]) (ct:=[]) (sm:=[]) Tryz.bok (((Cts.nil _).cons v1h).cons x47) ⟨_,_,Tryz.func45,rfl⟩ fun args D r hR hD=>by
 unfold R45 at hR
 split at hR <;> cases hR
 obtain ⟨⟨rs,rfl,rfl,hw⟩,ss,rfl,rfl,hw2⟩:=hD
 refine ⟨by simp [noHL,noH,z0t],?_⟩
 rw [show z0e 0 [AV.agg [.vs (z0c rs) rs.length .none],AV.agg [.vs (z0c ss) ss.length .none]] = [AV.agg [.vs (z0c rs) rs.length .none],AV.agg [.vs (z0c ss) ss.length .none]] by simp [z0e,scrub,z1f,Tok.scrub],x37]
 show wpF Tryz.X45 45 _ _
 rw [v45,x37,z0j z0u,z0j z0u]
 exact w18 (Q:=fun r'=>r' = (z3d rs ss).ret) hw hw2 rfl
end
end Go.Proofs
