/- Contracts of functions of the program and of the reference. -/
import Derived.Test.YtljjkomdibkjpaaGreatDoorK1
set_option linter.unusedVariables false
set_option linter.unusedSimpArgs false
/-! VC4 -/
set_option maxRecDepth 100000
set_option linter.unusedVariables false
namespace Go.Proofs
open Go Go.Ev
def nodeBx (op attr : Int) (len : Nat) (mk lo od nu pl sd : Bool) : Bool :=
  if op = 1 then decide (attr = 0) && pl && decide (len = 0)
  else if op = 2 ∨ op = 3 then (lo || od) && pl && decide (len = 0)
  else if op = 4 then (lo || od || mk) && pl && decide (len = 0)
  else if op = 5 then (lo || mk) && sd && nu && decide (len = 0)
  else if op = 6 then lo && sd && nu && decide (len = 0)
  else if op = 7 then decide (attr = 0) && pl && decide (len = 1)
  else if op = 8 ∨ op = 9 then decide (attr = 0) && pl && decide (2 ≤ len)
  else false
/-- The node of a test is as it may be. -/
def nodeB (op attr side n : Int) (len : Nat) : Bool :=
  nodeBx op attr len (decide (3 ≤ attr) && decide (attr ≤ 5)) (decide (attr = 1) || decide (attr = 2)) (decide (attr = 6) || decide (attr = 7)) (valI attr n) (decide (side = 0) && decide (n = 0)) (decide (side = 1) || decide (side = 2))
mutual
def shT : Tst → Bool
  | .mk op attr side n of => nodeB op attr side n of.length && shTs of
def shTs : List Tst → Bool
  | [] => true
  | t :: l => shT t && shTs l
end
noncomputable def R114 : Spc := fun args => match args with
  | [.agg l] => some (∃ t, l = encT t ∧ wfT t, rB (onEnc encT shT false l))
  | _ => none
def lm114 : List (Nat × List Nat) := [(6, [1, 3, 4, 5, 6, 7]), (7, [1, 3, 4, 5, 6, 7, 8]), (25, [1, 9]), (26, [1, 9, 10]), (29, [9])]
noncomputable def Tryz.X114 (m : Nat) : WCx := Tryz.B.wcx [(114, R114.below m), (116, R116), (152, R152), (153, R153), (154, R154)] lm114 [] [6, 7, 25]
theorem v114 (m : Nat) (op attr side n : Int) (l : List AV) (len : Nat) (Q : CR → Prop) : wpF (Tryz.X114 m) 114 [.agg [U op, U attr, U side, I n, .vs l len .none]] Q =
  (True ∧ True ∧ True ∧ True ∧ cIf (side == (0 : Int)) (WCut (Tryz.X114 m) (cd (Tryz.X114 m).P 114 [1, 1, 1, 1, 1, 1]) ([X, AV.ptr 0 0, X, Bo (decide ((3 : Int) ≤ attr) && decide (attr ≤ (5 : Int))), Bo (decide (attr = (1 : Int)) || decide (attr = (2 : Int))), Bo (decide (attr = (6 : Int)) || decide (attr = (7 : Int))), Bo (valI attr n), Bo (n == (0 : Int))] ++ List.replicate 162 X) (St.mk [some (HB.cells [U op, U attr, U side, I n, AV.vs l len Tok.none] 71)] [] []) (kRet (Tryz.X114 m) 114 Q)) (WCut (Tryz.X114 m) (cd (Tryz.X114 m).P 114 [1, 1, 1, 1, 1, 1]) ([X, AV.ptr 0 0, X, Bo (decide ((3 : Int) ≤ attr) && decide (attr ≤ (5 : Int))), Bo (decide (attr = (1 : Int)) || decide (attr = (2 : Int))), Bo (decide (attr = (6 : Int)) || decide (attr = (7 : Int))), Bo (valI attr n), Bo false] ++ List.replicate 162 X) (St.mk [some (HB.cells [U op, U attr, U side, I n, AV.vs l len Tok.none] 71)] [] []) (kRet (Tryz.X114 m) 114 Q))) := by kernel_rfl
theorem v114a (m : Nat) (op attr side n : Int) (l : List AV) (len : Nat) (mk lo od nu pl : Bool) (Q : CR → Prop) : wpC (Tryz.X114 m) (cd PP 114 [1,1,1,1,1,1]) ([X, .ptr 0 0, X, Bo mk, Bo lo, Bo od, Bo nu, Bo pl] ++ List.replicate 162 X) ⟨[some (.cells [U op, U attr, U side, I n, .vs l len .none] 71)], [], []⟩ (kRet (Tryz.X114 m) 114 Q) =
  (cIf (side == (1 : Int)) (WCut (Tryz.X114 m) (cd PP 114 [1, 1, 1, 1, 1, 1, 1]) ([X, AV.ptr 0 0, X, Bo mk, Bo lo, Bo od, Bo nu, Bo pl, Bo true] ++ List.replicate 161 X) (St.mk [some (HB.cells [U op, U attr, U side, I n, AV.vs l len Tok.none] 71)] [] []) (kRet (Tryz.X114 m) 114 Q)) (WCut (Tryz.X114 m) (cd PP 114 [1, 1, 1, 1, 1, 1, 1]) ([X, AV.ptr 0 0, X, Bo mk, Bo lo, Bo od, Bo nu, Bo pl, Bo (side == (2 : Int))] ++ List.replicate 161 X) (St.mk [some (HB.cells [U op, U attr, U side, I n, AV.vs l len Tok.none] 71)] [] []) (kRet (Tryz.X114 m) 114 Q))) := by kernel_rfl
theorem v114b (m : Nat) (op attr side n : Int) (l : List AV) (len : Nat) (mk lo od nu pl sd : Bool) (Q : CR → Prop) : wpC (Tryz.X114 m) (cd PP 114 [1,1,1,1,1,1,1]) ([X, .ptr 0 0, X, Bo mk, Bo lo, Bo od, Bo nu, Bo pl, Bo sd] ++ List.replicate 161 X) ⟨[some (.cells [U op, U attr, U side, I n, .vs l len .none] 71)], [], []⟩ (kRet (Tryz.X114 m) 114 Q) =
  (cIf (op == (1 : Int)) (cIf (attr == (0 : Int)) (cIf pl (WCut (Tryz.X114 m) (cd PP 114 [1, 1, 1, 1, 1, 1, 1, 1, 1]) ([X, AV.ptr 0 0, X, X, X, X, X, X, X, Bo ((↑len : Int) == (0 : Int))] ++ List.replicate 160 X) (St.mk [some (HB.cells [U op, U attr, U side, I n, AV.vs l len Tok.none] 71)] [] []) (kRet (Tryz.X114 m) 114 Q)) (WCut (Tryz.X114 m) (cd PP 114 [1, 1, 1, 1, 1, 1, 1, 1, 1]) ([X, AV.ptr 0 0, X, X, X, X, X, X, X, Bo false] ++ List.replicate 160 X) (St.mk [some (HB.cells [U op, U attr, U side, I n, AV.vs l len Tok.none] 71)] [] []) (kRet (Tryz.X114 m) 114 Q))) (WCut (Tryz.X114 m) (cd PP 114 [1, 1, 1, 1, 1, 1, 1, 1, 1]) ([X, AV.ptr 0 0, X, X, X, X, X, X, X, Bo false] ++ List.replicate 160 X) (St.mk [some (HB.cells [U op, U attr, U side, I n, AV.vs l len Tok.none] 71)] [] []) (kRet (Tryz.X114 m) 114 Q))) (cIf (op == (2 : Int)) (cIf (op == (2 : Int)) (cIf lo (cIf pl (WCut (Tryz.X114 m) (cd PP 114 [1, 1, 1, 1, 1, 1, 1, 1, 1]) ([X, AV.ptr 0 0, X, X, X, X, X, X, X, Bo ((↑len : Int) == (0 : Int))] ++ List.replicate 160 X) (St.mk [some (HB.cells [U op, U attr, U side, I n, AV.vs l len Tok.none] 71)] [] []) (kRet (Tryz.X114 m) 114 Q)) (WCut (Tryz.X114 m) (cd PP 114 [1, 1, 1, 1, 1, 1, 1, 1, 1]) ([X, AV.ptr 0 0, X, X, X, X, X, X, X, Bo false] ++ List.replicate 160 X) (St.mk [some (HB.cells [U op, U attr, U side, I n, AV.vs l len Tok.none] 71)] [] []) (kRet (Tryz.X114 m) 114 Q))) (cIf od (cIf pl (WCut (Tryz.X114 m) (cd PP 114 [1, 1, 1, 1, 1, 1, 1, 1, 1]) ([X, AV.ptr 0 0, X, X, X, X, X, X, X, Bo ((↑len : Int) == (0 : Int))] ++ List.replicate 160 X) (St.mk [some (HB.cells [U op, U attr, U side, I n, AV.vs l len Tok.none] 71)] [] []) (kRet (Tryz.X114 m) 114 Q)) (WCut (Tryz.X114 m) (cd PP 114 [1, 1, 1, 1, 1, 1, 1, 1, 1]) ([X, AV.ptr 0 0, X, X, X, X, X, X, X, Bo false] ++ List.replicate 160 X) (St.mk [some (HB.cells [U op, U attr, U side, I n, AV.vs l len Tok.none] 71)] [] []) (kRet (Tryz.X114 m) 114 Q))) (WCut (Tryz.X114 m) (cd PP 114 [1, 1, 1, 1, 1, 1, 1, 1, 1]) ([X, AV.ptr 0 0, X, X, X, X, X, X, X, Bo false] ++ List.replicate 160 X) (St.mk [some (HB.cells [U op, U attr, U side, I n, AV.vs l len Tok.none] 71)] [] []) (kRet (Tryz.X114 m) 114 Q)))) (cIf (op == (4 : Int)) (cIf lo (cIf pl (WCut (Tryz.X114 m) (cd PP 114 [1, 1, 1, 1, 1, 1, 1, 1, 1]) ([X, AV.ptr 0 0, X, X, X, X, X, X, X, Bo ((↑len : Int) == (0 : Int))] ++ List.replicate 160 X) (St.mk [some (HB.cells [U op, U attr, U side, I n, AV.vs l len Tok.none] 71)] [] []) (kRet (Tryz.X114 m) 114 Q)) (WCut (Tryz.X114 m) (cd PP 114 [1, 1, 1, 1, 1, 1, 1, 1, 1]) ([X, AV.ptr 0 0, X, X, X, X, X, X, X, Bo false] ++ List.replicate 160 X) (St.mk [some (HB.cells [U op, U attr, U side, I n, AV.vs l len Tok.none] 71)] [] []) (kRet (Tryz.X114 m) 114 Q))) (cIf od (cIf pl (WCut (Tryz.X114 m) (cd PP 114 [1, 1, 1, 1, 1, 1, 1, 1, 1]) ([X, AV.ptr 0 0, X, X, X, X, X, X, X, Bo ((↑len : Int) == (0 : Int))] ++ List.replicate 160 X) (St.mk [some (HB.cells [U op, U attr, U side, I n, AV.vs l len Tok.none] 71)] [] []) (kRet (Tryz.X114 m) 114 Q)) (WCut (Tryz.X114 m) (cd PP 114 [1, 1, 1, 1, 1, 1, 1, 1, 1]) ([X, AV.ptr 0 0, X, X, X, X, X, X, X, Bo false] ++ List.replicate 160 X) (St.mk [some (HB.cells [U op, U attr, U side, I n, AV.vs l len Tok.none] 71)] [] []) (kRet (Tryz.X114 m) 114 Q))) (cIf mk (cIf pl (WCut (Tryz.X114 m) (cd PP 114 [1, 1, 1, 1, 1, 1, 1, 1, 1]) ([X, AV.ptr 0 0, X, X, X, X, X, X, X, Bo ((↑len : Int) == (0 : Int))] ++ List.replicate 160 X) (St.mk [some (HB.cells [U op, U attr, U side, I n, AV.vs l len Tok.none] 71)] [] []) (kRet (Tryz.X114 m) 114 Q)) (WCut (Tryz.X114 m) (cd PP 114 [1, 1, 1, 1, 1, 1, 1, 1, 1]) ([X, AV.ptr 0 0, X, X, X, X, X, X, X, Bo false] ++ List.replicate 160 X) (St.mk [some (HB.cells [U op, U attr, U side, I n, AV.vs l len Tok.none] 71)] [] []) (kRet (Tryz.X114 m) 114 Q))) (WCut (Tryz.X114 m) (cd PP 114 [1, 1, 1, 1, 1, 1, 1, 1, 1]) ([X, AV.ptr 0 0, X, X, X, X, X, X, X, Bo false] ++ List.replicate 160 X) (St.mk [some (HB.cells [U op, U attr, U side, I n, AV.vs l len Tok.none] 71)] [] []) (kRet (Tryz.X114 m) 114 Q))))) (cIf (op == (5 : Int)) (cIf lo (cIf sd (cIf nu (WCut (Tryz.X114 m) (cd PP 114 [1, 1, 1, 1, 1, 1, 1, 1, 1]) ([X, AV.ptr 0 0, X, X, X, X, X, X, X, Bo ((↑len : Int) == (0 : Int))] ++ List.replicate 160 X) (St.mk [some (HB.cells [U op, U attr, U side, I n, AV.vs l len Tok.none] 71)] [] []) (kRet (Tryz.X114 m) 114 Q)) (WCut (Tryz.X114 m) (cd PP 114 [1, 1, 1, 1, 1, 1, 1, 1, 1]) ([X, AV.ptr 0 0, X, X, X, X, X, X, X, Bo false] ++ List.replicate 160 X) (St.mk [some (HB.cells [U op, U attr, U side, I n, AV.vs l len Tok.none] 71)] [] []) (kRet (Tryz.X114 m) 114 Q))) (WCut (Tryz.X114 m) (cd PP 114 [1, 1, 1, 1, 1, 1, 1, 1, 1]) ([X, AV.ptr 0 0, X, X, X, X, X, X, X, Bo false] ++ List.replicate 160 X) (St.mk [some (HB.cells [U op, U attr, U side, I n, AV.vs l len Tok.none] 71)] [] []) (kRet (Tryz.X114 m) 114 Q))) (cIf mk (cIf sd (cIf nu (WCut (Tryz.X114 m) (cd PP 114 [1, 1, 1, 1, 1, 1, 1, 1, 1]) ([X, AV.ptr 0 0, X, X, X, X, X, X, X, Bo ((↑len : Int) == (0 : Int))] ++ List.replicate 160 X) (St.mk [some (HB.cells [U op, U attr, U side, I n, AV.vs l len Tok.none] 71)] [] []) (kRet (Tryz.X114 m) 114 Q)) (WCut (Tryz.X114 m) (cd PP 114 [1, 1, 1, 1, 1, 1, 1, 1, 1]) ([X, AV.ptr 0 0, X, X, X, X, X, X, X, Bo false] ++ List.replicate 160 X) (St.mk [some (HB.cells [U op, U attr, U side, I n, AV.vs l len Tok.none] 71)] [] []) (kRet (Tryz.X114 m) 114 Q))) (WCut (Tryz.X114 m) (cd PP 114 [1, 1, 1, 1, 1, 1, 1, 1, 1]) ([X, AV.ptr 0 0, X, X, X, X, X, X, X, Bo false] ++ List.replicate 160 X) (St.mk [some (HB.cells [U op, U attr, U side, I n, AV.vs l len Tok.none] 71)] [] []) (kRet (Tryz.X114 m) 114 Q))) (WCut (Tryz.X114 m) (cd PP 114 [1, 1, 1, 1, 1, 1, 1, 1, 1]) ([X, AV.ptr 0 0, X, X, X, X, X, X, X, Bo false] ++ List.replicate 160 X) (St.mk [some (HB.cells [U op, U attr, U side, I n, AV.vs l len Tok.none] 71)] [] []) (kRet (Tryz.X114 m) 114 Q)))) (cIf (op == (6 : Int)) (cIf lo (cIf sd (cIf nu (WCut (Tryz.X114 m) (cd PP 114 [1, 1, 1, 1, 1, 1, 1, 1, 1]) ([X, AV.ptr 0 0, X, X, X, X, X, X, X, Bo ((↑len : Int) == (0 : Int))] ++ List.replicate 160 X) (St.mk [some (HB.cells [U op, U attr, U side, I n, AV.vs l len Tok.none] 71)] [] []) (kRet (Tryz.X114 m) 114 Q)) (WCut (Tryz.X114 m) (cd PP 114 [1, 1, 1, 1, 1, 1, 1, 1, 1]) ([X, AV.ptr 0 0, X, X, X, X, X, X, X, Bo false] ++ List.replicate 160 X) (St.mk [some (HB.cells [U op, U attr, U side, I n, AV.vs l len Tok.none] 71)] [] []) (kRet (Tryz.X114 m) 114 Q))) (WCut (Tryz.X114 m) (cd PP 114 [1, 1, 1, 1, 1, 1, 1, 1, 1]) ([X, AV.ptr 0 0, X, X, X, X, X, X, X, Bo false] ++ List.replicate 160 X) (St.mk [some (HB.cells [U op, U attr, U side, I n, AV.vs l len Tok.none] 71)] [] []) (kRet (Tryz.X114 m) 114 Q))) (WCut (Tryz.X114 m) (cd PP 114 [1, 1, 1, 1, 1, 1, 1, 1, 1]) ([X, AV.ptr 0 0, X, X, X, X, X, X, X, Bo false] ++ List.replicate 160 X) (St.mk [some (HB.cells [U op, U attr, U side, I n, AV.vs l len Tok.none] 71)] [] []) (kRet (Tryz.X114 m) 114 Q))) (cIf (op == (7 : Int)) (cIf (attr == (0 : Int)) (cIf pl (WCut (Tryz.X114 m) (cd PP 114 [1, 1, 1, 1, 1, 1, 1, 1, 1]) ([X, AV.ptr 0 0, X, X, X, X, X, X, X, Bo ((↑len : Int) == (1 : Int))] ++ List.replicate 160 X) (St.mk [some (HB.cells [U op, U attr, U side, I n, AV.vs l len Tok.none] 71)] [] []) (kRet (Tryz.X114 m) 114 Q)) (WCut (Tryz.X114 m) (cd PP 114 [1, 1, 1, 1, 1, 1, 1, 1, 1]) ([X, AV.ptr 0 0, X, X, X, X, X, X, X, Bo false] ++ List.replicate 160 X) (St.mk [some (HB.cells [U op, U attr, U side, I n, AV.vs l len Tok.none] 71)] [] []) (kRet (Tryz.X114 m) 114 Q))) (WCut (Tryz.X114 m) (cd PP 114 [1, 1, 1, 1, 1, 1, 1, 1, 1]) ([X, AV.ptr 0 0, X, X, X, X, X, X, X, Bo false] ++ List.replicate 160 X) (St.mk [some (HB.cells [U op, U attr, U side, I n, AV.vs l len Tok.none] 71)] [] []) (kRet (Tryz.X114 m) 114 Q))) (cIf (op == (8 : Int)) (cIf (op == (8 : Int)) (cIf (attr == (0 : Int)) (cIf pl (WCut (Tryz.X114 m) (cd PP 114 [1, 1, 1, 1, 1, 1, 1, 1, 1]) ([X, AV.ptr 0 0, X, X, X, X, X, X, X, Bo (decide ((↑len : Int) ≥ (2 : Int)))] ++ List.replicate 160 X) (St.mk [some (HB.cells [U op, U attr, U side, I n, AV.vs l len Tok.none] 71)] [] []) (kRet (Tryz.X114 m) 114 Q)) (WCut (Tryz.X114 m) (cd PP 114 [1, 1, 1, 1, 1, 1, 1, 1, 1]) ([X, AV.ptr 0 0, X, X, X, X, X, X, X, Bo false] ++ List.replicate 160 X) (St.mk [some (HB.cells [U op, U attr, U side, I n, AV.vs l len Tok.none] 71)] [] []) (kRet (Tryz.X114 m) 114 Q))) (WCut (Tryz.X114 m) (cd PP 114 [1, 1, 1, 1, 1, 1, 1, 1, 1]) ([X, AV.ptr 0 0, X, X, X, X, X, X, X, Bo false] ++ List.replicate 160 X) (St.mk [some (HB.cells [U op, U attr, U side, I n, AV.vs l len Tok.none] 71)] [] []) (kRet (Tryz.X114 m) 114 Q))) (WCut (Tryz.X114 m) (cd PP 114 [1, 1, 1, 1, 1, 1, 1, 1, 1]) ([X, AV.ptr 0 0, X, X, X, X, X, X, X, Bo false] ++ List.replicate 160 X) (St.mk [some (HB.cells [U op, U attr, U side, I n, AV.vs l len Tok.none] 71)] [] []) (kRet (Tryz.X114 m) 114 Q))) (cIf (op == (9 : Int)) (cIf (attr == (0 : Int)) (cIf pl (WCut (Tryz.X114 m) (cd PP 114 [1, 1, 1, 1, 1, 1, 1, 1, 1]) ([X, AV.ptr 0 0, X, X, X, X, X, X, X, Bo (decide ((↑len : Int) ≥ (2 : Int)))] ++ List.replicate 160 X) (St.mk [some (HB.cells [U op, U attr, U side, I n, AV.vs l len Tok.none] 71)] [] []) (kRet (Tryz.X114 m) 114 Q)) (WCut (Tryz.X114 m) (cd PP 114 [1, 1, 1, 1, 1, 1, 1, 1, 1]) ([X, AV.ptr 0 0, X, X, X, X, X, X, X, Bo false] ++ List.replicate 160 X) (St.mk [some (HB.cells [U op, U attr, U side, I n, AV.vs l len Tok.none] 71)] [] []) (kRet (Tryz.X114 m) 114 Q))) (WCut (Tryz.X114 m) (cd PP 114 [1, 1, 1, 1, 1, 1, 1, 1, 1]) ([X, AV.ptr 0 0, X, X, X, X, X, X, X, Bo false] ++ List.replicate 160 X) (St.mk [some (HB.cells [U op, U attr, U side, I n, AV.vs l len Tok.none] 71)] [] []) (kRet (Tryz.X114 m) 114 Q))) (WCut (Tryz.X114 m) (cd PP 114 [1, 1, 1, 1, 1, 1, 1, 1, 1]) ([X, AV.ptr 0 0, X, X, X, X, X, X, X, Bo false] ++ List.replicate 160 X) (St.mk [some (HB.cells [U op, U attr, U side, I n, AV.vs l len Tok.none] 71)] [] []) (kRet (Tryz.X114 m) 114 Q))))))))) (cIf (op == (3 : Int)) (cIf lo (cIf pl (WCut (Tryz.X114 m) (cd PP 114 [1, 1, 1, 1, 1, 1, 1, 1, 1]) ([X, AV.ptr 0 0, X, X, X, X, X, X, X, Bo ((↑len : Int) == (0 : Int))] ++ List.replicate 160 X) (St.mk [some (HB.cells [U op, U attr, U side, I n, AV.vs l len Tok.none] 71)] [] []) (kRet (Tryz.X114 m) 114 Q)) (WCut (Tryz.X114 m) (cd PP 114 [1, 1, 1, 1, 1, 1, 1, 1, 1]) ([X, AV.ptr 0 0, X, X, X, X, X, X, X, Bo false] ++ List.replicate 160 X) (St.mk [some (HB.cells [U op, U attr, U side, I n, AV.vs l len Tok.none] 71)] [] []) (kRet (Tryz.X114 m) 114 Q))) (cIf od (cIf pl (WCut (Tryz.X114 m) (cd PP 114 [1, 1, 1, 1, 1, 1, 1, 1, 1]) ([X, AV.ptr 0 0, X, X, X, X, X, X, X, Bo ((↑len : Int) == (0 : Int))] ++ List.replicate 160 X) (St.mk [some (HB.cells [U op, U attr, U side, I n, AV.vs l len Tok.none] 71)] [] []) (kRet (Tryz.X114 m) 114 Q)) (WCut (Tryz.X114 m) (cd PP 114 [1, 1, 1, 1, 1, 1, 1, 1, 1]) ([X, AV.ptr 0 0, X, X, X, X, X, X, X, Bo false] ++ List.replicate 160 X) (St.mk [some (HB.cells [U op, U attr, U side, I n, AV.vs l len Tok.none] 71)] [] []) (kRet (Tryz.X114 m) 114 Q))) (WCut (Tryz.X114 m) (cd PP 114 [1, 1, 1, 1, 1, 1, 1, 1, 1]) ([X, AV.ptr 0 0, X, X, X, X, X, X, X, Bo false] ++ List.replicate 160 X) (St.mk [some (HB.cells [U op, U attr, U side, I n, AV.vs l len Tok.none] 71)] [] []) (kRet (Tryz.X114 m) 114 Q)))) (cIf (op == (4 : Int)) (cIf lo (cIf pl (WCut (Tryz.X114 m) (cd PP 114 [1, 1, 1, 1, 1, 1, 1, 1, 1]) ([X, AV.ptr 0 0, X, X, X, X, X, X, X, Bo ((↑len : Int) == (0 : Int))] ++ List.replicate 160 X) (St.mk [some (HB.cells [U op, U attr, U side, I n, AV.vs l len Tok.none] 71)] [] []) (kRet (Tryz.X114 m) 114 Q)) (WCut (Tryz.X114 m) (cd PP 114 [1, 1, 1, 1, 1, 1, 1, 1, 1]) ([X, AV.ptr 0 0, X, X, X, X, X, X, X, Bo false] ++ List.replicate 160 X) (St.mk [some (HB.cells [U op, U attr, U side, I n, AV.vs l len Tok.none] 71)] [] []) (kRet (Tryz.X114 m) 114 Q))) (cIf od (cIf pl (WCut (Tryz.X114 m) (cd PP 114 [1, 1, 1, 1, 1, 1, 1, 1, 1]) ([X, AV.ptr 0 0, X, X, X, X, X, X, X, Bo ((↑len : Int) == (0 : Int))] ++ List.replicate 160 X) (St.mk [some (HB.cells [U op, U attr, U side, I n, AV.vs l len Tok.none] 71)] [] []) (kRet (Tryz.X114 m) 114 Q)) (WCut (Tryz.X114 m) (cd PP 114 [1, 1, 1, 1, 1, 1, 1, 1, 1]) ([X, AV.ptr 0 0, X, X, X, X, X, X, X, Bo false] ++ List.replicate 160 X) (St.mk [some (HB.cells [U op, U attr, U side, I n, AV.vs l len Tok.none] 71)] [] []) (kRet (Tryz.X114 m) 114 Q))) (cIf mk (cIf pl (WCut (Tryz.X114 m) (cd PP 114 [1, 1, 1, 1, 1, 1, 1, 1, 1]) ([X, AV.ptr 0 0, X, X, X, X, X, X, X, Bo ((↑len : Int) == (0 : Int))] ++ List.replicate 160 X) (St.mk [some (HB.cells [U op, U attr, U side, I n, AV.vs l len Tok.none] 71)] [] []) (kRet (Tryz.X114 m) 114 Q)) (WCut (Tryz.X114 m) (cd PP 114 [1, 1, 1, 1, 1, 1, 1, 1, 1]) ([X, AV.ptr 0 0, X, X, X, X, X, X, X, Bo false] ++ List.replicate 160 X) (St.mk [some (HB.cells [U op, U attr, U side, I n, AV.vs l len Tok.none] 71)] [] []) (kRet (Tryz.X114 m) 114 Q))) (WCut (Tryz.X114 m) (cd PP 114 [1, 1, 1, 1, 1, 1, 1, 1, 1]) ([X, AV.ptr 0 0, X, X, X, X, X, X, X, Bo false] ++ List.replicate 160 X) (St.mk [some (HB.cells [U op, U attr, U side, I n, AV.vs l len Tok.none] 71)] [] []) (kRet (Tryz.X114 m) 114 Q))))) (cIf (op == (5 : Int)) (cIf lo (cIf sd (cIf nu (WCut (Tryz.X114 m) (cd PP 114 [1, 1, 1, 1, 1, 1, 1, 1, 1]) ([X, AV.ptr 0 0, X, X, X, X, X, X, X, Bo ((↑len : Int) == (0 : Int))] ++ List.replicate 160 X) (St.mk [some (HB.cells [U op, U attr, U side, I n, AV.vs l len Tok.none] 71)] [] []) (kRet (Tryz.X114 m) 114 Q)) (WCut (Tryz.X114 m) (cd PP 114 [1, 1, 1, 1, 1, 1, 1, 1, 1]) ([X, AV.ptr 0 0, X, X, X, X, X, X, X, Bo false] ++ List.replicate 160 X) (St.mk [some (HB.cells [U op, U attr, U side, I n, AV.vs l len Tok.none] 71)] [] []) (kRet (Tryz.X114 m) 114 Q))) (WCut (Tryz.X114 m) (cd PP 114 [1, 1, 1, 1, 1, 1, 1, 1, 1]) ([X, AV.ptr 0 0, X, X, X, X, X, X, X, Bo false] ++ List.replicate 160 X) (St.mk [some (HB.cells [U op, U attr, U side, I n, AV.vs l len Tok.none] 71)] [] []) (kRet (Tryz.X114 m) 114 Q))) (cIf mk (cIf sd (cIf nu (WCut (Tryz.X114 m) (cd PP 114 [1, 1, 1, 1, 1, 1, 1, 1, 1]) ([X, AV.ptr 0 0, X, X, X, X, X, X, X, Bo ((↑len : Int) == (0 : Int))] ++ List.replicate 160 X) (St.mk [some (HB.cells [U op, U attr, U side, I n, AV.vs l len Tok.none] 71)] [] []) (kRet (Tryz.X114 m) 114 Q)) (WCut (Tryz.X114 m) (cd PP 114 [1, 1, 1, 1, 1, 1, 1, 1, 1]) ([X, AV.ptr 0 0, X, X, X, X, X, X, X, Bo false] ++ List.replicate 160 X) (St.mk [some (HB.cells [U op, U attr, U side, I n, AV.vs l len Tok.none] 71)] [] []) (kRet (Tryz.X114 m) 114 Q))) (WCut (Tryz.X114 m) (cd PP 114 [1, 1, 1, 1, 1, 1, 1, 1, 1]) ([X, AV.ptr 0 0, X, X, X, X, X, X, X, Bo false] ++ List.replicate 160 X) (St.mk [some (HB.cells [U op, U attr, U side, I n, AV.vs l len Tok.none] 71)] [] []) (kRet (Tryz.X114 m) 114 Q))) (WCut (Tryz.X114 m) (cd PP 114 [1, 1, 1, 1, 1, 1, 1, 1, 1]) ([X, AV.ptr 0 0, X, X, X, X, X, X, X, Bo false] ++ List.replicate 160 X) (St.mk [some (HB.cells [U op, U attr, U side, I n, AV.vs l len Tok.none] 71)] [] []) (kRet (Tryz.X114 m) 114 Q)))) (cIf (op == (6 : Int)) (cIf lo (cIf sd (cIf nu (WCut (Tryz.X114 m) (cd PP 114 [1, 1, 1, 1, 1, 1, 1, 1, 1]) ([X, AV.ptr 0 0, X, X, X, X, X, X, X, Bo ((↑len : Int) == (0 : Int))] ++ List.replicate 160 X) (St.mk [some (HB.cells [U op, U attr, U side, I n, AV.vs l len Tok.none] 71)] [] []) (kRet (Tryz.X114 m) 114 Q)) (WCut (Tryz.X114 m) (cd PP 114 [1, 1, 1, 1, 1, 1, 1, 1, 1]) ([X, AV.ptr 0 0, X, X, X, X, X, X, X, Bo false] ++ List.replicate 160 X) (St.mk [some (HB.cells [U op, U attr, U side, I n, AV.vs l len Tok.none] 71)] [] []) (kRet (Tryz.X114 m) 114 Q))) (WCut (Tryz.X114 m) (cd PP 114 [1, 1, 1, 1, 1, 1, 1, 1, 1]) ([X, AV.ptr 0 0, X, X, X, X, X, X, X, Bo false] ++ List.replicate 160 X) (St.mk [some (HB.cells [U op, U attr, U side, I n, AV.vs l len Tok.none] 71)] [] []) (kRet (Tryz.X114 m) 114 Q))) (WCut (Tryz.X114 m) (cd PP 114 [1, 1, 1, 1, 1, 1, 1, 1, 1]) ([X, AV.ptr 0 0, X, X, X, X, X, X, X, Bo false] ++ List.replicate 160 X) (St.mk [some (HB.cells [U op, U attr, U side, I n, AV.vs l len Tok.none] 71)] [] []) (kRet (Tryz.X114 m) 114 Q))) (cIf (op == (7 : Int)) (cIf (attr == (0 : Int)) (cIf pl (WCut (Tryz.X114 m) (cd PP 114 [1, 1, 1, 1, 1, 1, 1, 1, 1]) ([X, AV.ptr 0 0, X, X, X, X, X, X, X, Bo ((↑len : Int) == (1 : Int))] ++ List.replicate 160 X) (St.mk [some (HB.cells [U op, U attr, U side, I n, AV.vs l len Tok.none] 71)] [] []) (kRet (Tryz.X114 m) 114 Q)) (WCut (Tryz.X114 m) (cd PP 114 [1, 1, 1, 1, 1, 1, 1, 1, 1]) ([X, AV.ptr 0 0, X, X, X, X, X, X, X, Bo false] ++ List.replicate 160 X) (St.mk [some (HB.cells [U op, U attr, U side, I n, AV.vs l len Tok.none] 71)] [] []) (kRet (Tryz.X114 m) 114 Q))) (WCut (Tryz.X114 m) (cd PP 114 [1, 1, 1, 1, 1, 1, 1, 1, 1]) ([X, AV.ptr 0 0, X, X, X, X, X, X, X, Bo false] ++ List.replicate 160 X) (St.mk [some (HB.cells [U op, U attr, U side, I n, AV.vs l len Tok.none] 71)] [] []) (kRet (Tryz.X114 m) 114 Q))) (cIf (op == (8 : Int)) (cIf (op == (8 : Int)) (cIf (attr == (0 : Int)) (cIf pl (WCut (Tryz.X114 m) (cd PP 114 [1, 1, 1, 1, 1, 1, 1, 1, 1]) ([X, AV.ptr 0 0, X, X, X, X, X, X, X, Bo (decide ((↑len : Int) ≥ (2 : Int)))] ++ List.replicate 160 X) (St.mk [some (HB.cells [U op, U attr, U side, I n, AV.vs l len Tok.none] 71)] [] []) (kRet (Tryz.X114 m) 114 Q)) (WCut (Tryz.X114 m) (cd PP 114 [1, 1, 1, 1, 1, 1, 1, 1, 1]) ([X, AV.ptr 0 0, X, X, X, X, X, X, X, Bo false] ++ List.replicate 160 X) (St.mk [some (HB.cells [U op, U attr, U side, I n, AV.vs l len Tok.none] 71)] [] []) (kRet (Tryz.X114 m) 114 Q))) (WCut (Tryz.X114 m) (cd PP 114 [1, 1, 1, 1, 1, 1, 1, 1, 1]) ([X, AV.ptr 0 0, X, X, X, X, X, X, X, Bo false] ++ List.replicate 160 X) (St.mk [some (HB.cells [U op, U attr, U side, I n, AV.vs l len Tok.none] 71)] [] []) (kRet (Tryz.X114 m) 114 Q))) (WCut (Tryz.X114 m) (cd PP 114 [1, 1, 1, 1, 1, 1, 1, 1, 1]) ([X, AV.ptr 0 0, X, X, X, X, X, X, X, Bo false] ++ List.replicate 160 X) (St.mk [some (HB.cells [U op, U attr, U side, I n, AV.vs l len Tok.none] 71)] [] []) (kRet (Tryz.X114 m) 114 Q))) (cIf (op == (9 : Int)) (cIf (attr == (0 : Int)) (cIf pl (WCut (Tryz.X114 m) (cd PP 114 [1, 1, 1, 1, 1, 1, 1, 1, 1]) ([X, AV.ptr 0 0, X, X, X, X, X, X, X, Bo (decide ((↑len : Int) ≥ (2 : Int)))] ++ List.replicate 160 X) (St.mk [some (HB.cells [U op, U attr, U side, I n, AV.vs l len Tok.none] 71)] [] []) (kRet (Tryz.X114 m) 114 Q)) (WCut (Tryz.X114 m) (cd PP 114 [1, 1, 1, 1, 1, 1, 1, 1, 1]) ([X, AV.ptr 0 0, X, X, X, X, X, X, X, Bo false] ++ List.replicate 160 X) (St.mk [some (HB.cells [U op, U attr, U side, I n, AV.vs l len Tok.none] 71)] [] []) (kRet (Tryz.X114 m) 114 Q))) (WCut (Tryz.X114 m) (cd PP 114 [1, 1, 1, 1, 1, 1, 1, 1, 1]) ([X, AV.ptr 0 0, X, X, X, X, X, X, X, Bo false] ++ List.replicate 160 X) (St.mk [some (HB.cells [U op, U attr, U side, I n, AV.vs l len Tok.none] 71)] [] []) (kRet (Tryz.X114 m) 114 Q))) (WCut (Tryz.X114 m) (cd PP 114 [1, 1, 1, 1, 1, 1, 1, 1, 1]) ([X, AV.ptr 0 0, X, X, X, X, X, X, X, Bo false] ++ List.replicate 160 X) (St.mk [some (HB.cells [U op, U attr, U side, I n, AV.vs l len Tok.none] 71)] [] []) (kRet (Tryz.X114 m) 114 Q))))))))))) := by kernel_rfl
theorem v114c (m : Nat) (op attr side n : Int) (l : List AV) (len : Nat) (ok : Bool) (Q : CR → Prop) : wpC (Tryz.X114 m) (cd PP 114 [1,1,1,1,1,1,1,1,1]) ([X, .ptr 0 0, X, X, X, X, X, X, X, Bo ok] ++ List.replicate 160 X) ⟨[some (.cells [U op, U attr, U side, I n, .vs l len .none] 71)], [], []⟩ (kRet (Tryz.X114 m) 114 Q) =
  (WLoop (Tryz.X114 m) (cd PP 114 [1, 1, 1, 1, 1, 1, 1, 1, 1, 0, 1, 0, 0]) ([X, AV.ptr 0 0, X, X, X, X, X, X, X, Bo ok, I (0 : Int)] ++ List.replicate 159 X) (St.mk [some (HB.cells [U op, U attr, U side, I n, AV.vs l len Tok.none] 71)] [] []) (kBlock 1 (kSeq (Tryz.X114 m) (cd PP 114 [1, 1, 1, 1, 1, 1, 1, 1, 1, 1]) (kRet (Tryz.X114 m) 114 Q)))) := by kernel_rfl
theorem v114l (m : Nat) (op attr side n : Int) (l : List AV) (len i : Nat) (ok : Bool) (Q : CR → Prop) : wpC (Tryz.X114 m) (cd PP 114 [1,1,1,1,1,1,1,1,1,0,1,0,0]) ([X, .ptr 0 0, X, X, X, X, X, X, X, Bo ok, I i] ++ List.replicate 159 X) ⟨[some (.cells [U op, U attr, U side, I n, .vs l len .none] 71)], [], []⟩ (kLoop (Tryz.X114 m) (cd PP 114 [1,1,1,1,1,1,1,1,1,0,1,0,0]) (kBlock 1 (kSeq (Tryz.X114 m) (cd PP 114 [1,1,1,1,1,1,1,1,1,1]) (kRet (Tryz.X114 m) 114 Q)))) =
  (cIf (decide ((↑i : Int) < (↑len : Int))) (cIf ok (cIf (decide (i < len)) (cIf (decide (len * 5 = l.length)) (cIf (decide (5 ≤ (List.drop (i * 5) l).length)) (cIf (like zT (el (List.drop (i * 5) l) 0 5)) (((∃ (t : Tst), (elT (el (List.drop (i * 5) l) 0 5)) = encT t ∧ wfT t) ∧ avSizeL ([] ++ [AV.agg (elT (el (List.drop (i * 5) l) 0 5))] ++ []) < m) ∧ WLoop (Tryz.X114 m) (cd PP 114 [1, 1, 1, 1, 1, 1, 1, 1, 1, 0, 1, 0, 0]) ([X, AV.ptr 0 0, X, X, X, X, X, X, X, AV.bool (onEnc encT shT false (elT (el (List.drop (i * 5) l) 0 5))), I (IntKind.i64.wrap ((↑i : Int) + (1 : Int)))] ++ List.replicate 159 X) (St.mk [some (HB.cells [U op, U attr, U side, I n, AV.vs l len Tok.none] 71)] [] []) (kBlock 1 (kSeq (Tryz.X114 m) (cd PP 114 [1, 1, 1, 1, 1, 1, 1, 1, 1, 1]) (kRet (Tryz.X114 m) 114 Q)))) False) False) False) False) (Q (CR.ret (Bo ok)))) (Q (CR.ret (Bo ok)))) := by kernel_rfl
end Go.Proofs
/-! C4 -/
set_option maxRecDepth 100000
set_option linter.unusedVariables false
namespace Go.Proofs
open Go Go.Ev
section
variable {m : Nat} (hc : Cts Tryz.B [(114, R114.below m), (116, R116), (152, R152), (153, R153), (154, R154)]) {op attr side n : Int} {of : List Tst} (hlen : of.length ≤ 9223372036854775807) (hwf : wfTs of) (hsz : avSizeL (encTs of) + 3 ≤ m) {Q : CR → Prop}
include hc hlen hwf hsz
set_option maxHeartbeats 2000000 in
theorem node_loop : ∀ (d i : Nat) (ok : Bool), of.length - i = d → i ≤ of.length → Q (rB (ok && shTs (of.drop i))) →
      WLoop (Tryz.X114 m) (cd PP 114 [1,1,1,1,1,1,1,1,1,0,1,0,0]) ([X, .ptr 0 0, X, X, X, X, X, X, X, Bo ok, I i] ++ List.replicate 159 X) ⟨[some (.cells [U op, U attr, U side, I n, .vs (encTs of) of.length .none] 71)], [], []⟩ (kBlock 1 (kSeq (Tryz.X114 m) (cd PP 114 [1,1,1,1,1,1,1,1,1,1]) (kRet (Tryz.X114 m) 114 Q))) := by
  intro d
  induction d with
  | zero =>
    intro i ok hd hi hQ
    have hi' : i = of.length := by omega
    subst hi'
    refine WLoop_step Tryz.bok hc ((v114l m op attr side n _ _ _ ok Q).mpr (cIf_neg (by simp) ?_))
    simpa [shTs] using hQ
  | succ d ih =>
    intro i ok hd hi hQ
    have hlt : i < of.length := by omega
    obtain ⟨x, hx, hdr⟩ := drop_cons hlt
    rw [hdr] at hQ
    refine WLoop_step Tryz.bok hc ((v114l m op attr side n _ _ _ ok Q).mpr (cIf_pos (by simp; omega) (cIf_intro (fun h2 => ?_) (fun h2 => ?_))))
    · subst h2
      refine cIf_pos (by simpa using hlt) (cIf_pos (by simp [encTs_len]) (cIf_pos (by have := enc_drop_len (encTs_len of) hlt; simpa using this) ?_))
      rw [encTs_el hx, encT_w]
      have hs := size_get hx
      refine cIf_pos (encT_like x) ⟨⟨⟨x, rfl, wfTs_get hwf hx⟩, ?_⟩, ?_⟩
      · simp only [List.nil_append, List.append_nil, avSizeL, avSize]
        omega
      · rw [onEnc_eq (fun _ _ => encT_inj _ _), wrap_id (x := (i : Int) + 1) (by omega) (by omega)]
        refine ih (i + 1) _ (by omega) (by omega) ?_
        simpa only [shTs, Bool.true_and] using hQ
    · subst h2
      simpa using hQ
theorem node_c (ok : Bool) (hQ : Q (rB (ok && shTs of))) : WCut (Tryz.X114 m) (cd PP 114 [1,1,1,1,1,1,1,1,1]) ([X, .ptr 0 0, X, X, X, X, X, X, X, Bo ok] ++ List.replicate 160 X) ⟨[some (.cells [U op, U attr, U side, I n, .vs (encTs of) of.length .none] 71)], [], []⟩ (kRet (Tryz.X114 m) 114 Q) :=
  WCut_step Tryz.bok hc ((v114c m op attr side n _ _ ok Q).mpr (node_loop hc hlen hwf hsz _ 0 ok rfl (Nat.zero_le _) hQ))
set_option maxHeartbeats 4000000 in
theorem node_b (mk lo od nu pl sd : Bool) (hQ : Q (rB (nodeBx op attr of.length mk lo od nu pl sd && shTs of))) : WCut (Tryz.X114 m) (cd PP 114 [1,1,1,1,1,1,1]) ([X, .ptr 0 0, X, Bo mk, Bo lo, Bo od, Bo nu, Bo pl, Bo sd] ++ List.replicate 161 X) ⟨[some (.cells [U op, U attr, U side, I n, .vs (encTs of) of.length .none] 71)], [], []⟩ (kRet (Tryz.X114 m) 114 Q) := by
  refine WCut_step Tryz.bok hc ((v114b m op attr side n _ _ mk lo od nu pl sd Q).mpr ?_)
  repeat' (refine cIf_intro (fun h => ?_) (fun h => ?_))
  all_goals (refine node_c hc hlen hwf hsz _ ((congrArg Q (rB_eq (b := nodeBx op attr of.length mk lo od nu pl sd && shTs of) ?_)).mpr hQ); simp only [beq_iff_eq, beq_eq_false_iff_ne, ne_eq] at *; simp [nodeBx, *]; try omega)
theorem node_a (mk lo od nu pl : Bool) (hQ : Q (rB (nodeBx op attr of.length mk lo od nu pl (decide (side = 1) || decide (side = 2)) && shTs of))) : WCut (Tryz.X114 m) (cd PP 114 [1,1,1,1,1,1]) ([X, .ptr 0 0, X, Bo mk, Bo lo, Bo od, Bo nu, Bo pl] ++ List.replicate 162 X) ⟨[some (.cells [U op, U attr, U side, I n, .vs (encTs of) of.length .none] 71)], [], []⟩ (kRet (Tryz.X114 m) 114 Q) := by
  refine WCut_step Tryz.bok hc ((v114a m op attr side n _ _ mk lo od nu pl Q).mpr ?_)
  refine cIf_intro (fun h => ?_) (fun h => ?_)
  · simp only [beq_iff_eq] at h
    refine node_b hc hlen hwf hsz mk lo od nu pl true ?_
    simpa [h] using hQ
  · simp only [beq_eq_false_iff_ne, ne_eq] at h
    refine node_b hc hlen hwf hsz mk lo od nu pl (side == 2) ?_
    rw [show (side == 2) = decide (side = 2) from rfl]
    simpa [h] using hQ
end
theorem ct114 : Ct Tryz.B.c0 114 R114 := Ct.of_rec (lm := lm114) (ct := [6, 7, 25]) Tryz.bok (((((Cts.nil _).cons ct154).cons ct153).cons ct152).cons ct116) ⟨_, _, Tryz.func114, rfl⟩ fun m args D r hc hR hD hm => by
  unfold R114 at hR
  split at hR <;> cases hR
  obtain ⟨⟨op, attr, side, k, of⟩, rfl, hw⟩ := hD
  simp only [wfT] at hw
  refine ⟨by simp [noHL, noH, noH_encT], ?_⟩
  rw [show scrubL 0 [AV.agg (encT (.mk op attr side k of))] = [AV.agg (encT (.mk op attr side k of))] by simp [scrubL, scrub, sc_encT]]
  rw [onEnc_eq (fun _ _ => encT_inj _ _)]
  have hsz : avSizeL (encTs of) + 3 ≤ m := by simp only [avSizeL, avSize, encT] at hm; omega
  refine (v114 m op attr side k _ _ _).mpr ⟨trivial, trivial, trivial, trivial, cIf_intro (fun h => ?_) (fun h => ?_)⟩
  · simp only [beq_iff_eq] at h
    refine node_a hc hw.2.2.2.2.2.2.2.2.1 hw.2.2.2.2.2.2.2.2.2 hsz _ _ _ _ _ ?_
    simp [shT, nodeB, h]
    rfl
  · simp only [beq_eq_false_iff_ne, ne_eq] at h
    refine node_a hc hw.2.2.2.2.2.2.2.2.1 hw.2.2.2.2.2.2.2.2.2 hsz _ _ _ _ _ ?_
    simp [shT, nodeB, h]
end Go.Proofs
/-! VC5 -/
set_option maxRecDepth 100000
set_option linter.unusedVariables false
namespace Go.Ev
def mk01 (b : Bool) : Int := if b = true then 1 else 0
/-- An attribute of a profile. -/
def atI (a : Int) (p : Prf) : Int :=
  if a = 1 then p.cl else if a = 2 then p.vi else if a = 3 then mk01 p.ho else if a = 4 then mk01 p.de else if a = 5 then mk01 p.mo else if a = 6 then p.cr else if a = 7 then p.le else 0
mutual
/-- A test holds. -/
def hoT : Tst → Prf → Prf → Bool
  | .mk op attr side n of, a, b =>
    if op = 1 then true
    else if op = 2 then decide (atI attr a < atI attr b)
    else if op = 3 then decide (atI attr a > atI attr b)
    else if op = 4 then atI attr a == atI attr b
    else if op = 5 then (if side = 2 then atI attr b else atI attr a) == n
    else if op = 6 then decide ((if side = 2 then atI attr b else atI attr a) < n)
    else hoL op of a b
def hoL : Int → List Tst → Prf → Prf → Bool
  | op, [], a, b => decide (op = 8)
  | op, t :: l, a, b => if op = 7 then !hoT t a b else if op = 8 ∧ hoT t a b = false ∨ op = 9 ∧ hoT t a b = true then hoT t a b else hoL op l a b
end
end Go.Ev
namespace Go.Proofs
open Go Go.Ev
noncomputable def R126 : Spc := fun args => match args with
  | [.int .u8 a, .agg p] => some (∃ q, p = encP q, rI (onEnc encP (atI a) 0 p))
  | _ => none
noncomputable def R82 : Spc := fun args => match args with
  | [.agg l, .agg p, .agg q] => some ((∃ t, l = encT t ∧ wfT t) ∧ (∃ a, p = encP a) ∧ ∃ b, q = encP b, rB (onEnc encT (fun t => onEnc encP (fun a => onEnc encP (fun b => hoT t a b) false q) false p) false l))
  | _ => none
end Go.Proofs
/-! C5 -/
set_option maxRecDepth 100000
set_option linter.unusedVariables false
namespace Go.Ev
theorem sc_encP (n : Nat) (p : Prf) : scrubL n (encP p) = encP p := by simp [encP, scrubL, scrub]
end Go.Ev
namespace Go.Proofs
open Go Go.Ev
section
variable {m : Nat} (hc : Cts Tryz.B [(82, R82.below m), (126, R126)]) {op attr side n : Int} {of : List Tst} (hlen : of.length ≤ 9223372036854775807) (hwf : wfTs of) (hsz : avSizeL (encTs of) + 22 ≤ m) {p q : Prf} {Q : CR → Prop}
include hc hlen hwf hsz
end
end Go.Proofs
/-! VC6 -/
set_option maxRecDepth 100000
set_option linter.unusedVariables false
namespace Go.Proofs
open Go Go.Ev
def rangesB (x : Rul) : Bool := decide (1 ≤ x.rank) && decide (x.rank ≤ 99) && (decide (1 ≤ x.weight) && decide (x.weight ≤ 1000))
def smallB (t : Tst) : Bool := decide ((szR t).1 ≤ 24)
/-- The error of rules. -/
def chkL : List Rul → List Rul → Int
  | _, [] => 0
  | prev, x :: l => if isWordB x.name = false then 4 else if (prev.any fun y => y.name == x.name) = true then 6 else if rangesB x = false then 1 else if smallB x.t = false then 2 else if shT x.t = false then 1 else chkL (prev ++ [x]) l
def chk (rs : List Rul) : Int := if rs.length > 24 then 2 else chkL [] rs
noncomputable def R70 : Spc := fun args => match args with
  | [.agg [.vs l len _]] => some (∃ rs, l = encRs rs ∧ len = rs.length ∧ wfRs rs, rI (onEnc encRs chk 0 l))
  | _ => none
def lm70 : List (Nat × List Nat) := [(4, [1, 3]), (5, [1, 3]), (11, [1, 3, 4, 6]), (15, [1, 3, 4]), (25, [])]
noncomputable def Tryz.X70 : WCx := Tryz.B.wcx [(103, R103), (109, R109), (113, R113), (114, R114)] lm70 [] [15] [(4, 1), (11, 2), (15, 2)]
theorem v70 (l : List AV) (len : Nat) (tk : Tok) (Q : CR → Prop) : wpF Tryz.X70 70 [.agg [.vs l len tk]] Q =
  (cIf (decide ((↑len : Int) > (24 : Int))) (Q (CR.ret (I (2 : Int)))) (cIf ([some (HB.cells [AV.vs l len tk] 25)].all (okBlk 1)) (WLoop Tryz.X70 (cd Tryz.X70.P 70 [1, 1, 0, 1, 0, 0]) ([X, AV.ptr 0 0, X, I (0 : Int)] ++ List.replicate 63 X) (St.mk [some (HB.cells [AV.vs l len tk] 25)] [] []) (kBlock 0 (kSeq Tryz.X70 (cd Tryz.X70.P 70 [1, 1, 1]) (kRet Tryz.X70 70 Q)))) False)) := by kernel_rfl
theorem v70o (l : List AV) (len i : Nat) (tk : Tok) (Q : CR → Prop) : wpC Tryz.X70 (cd PP 70 [1, 1, 0, 1, 0, 0]) ([X, .ptr 0 0, X, I i] ++ List.replicate 63 X) ⟨[some (.cells [.vs l len tk] 25)], [], []⟩ (kLoop Tryz.X70 (cd PP 70 [1, 1, 0, 1, 0, 0]) (kBlock 0 (kSeq Tryz.X70 (cd PP 70 [1, 1, 1]) (kRet Tryz.X70 70 Q)))) =
  (cIf (decide ((↑i : Int) < (↑len : Int))) (cIf (decide (i < len)) (cIf (decide (len * 8 = l.length)) (cIf (decide (8 ≤ (List.drop (i * 8) l).length)) (cIf (like zR (el (List.drop (i * 8) l) 0 8)) ((cS (el (List.drop (i * 8) l) 0 8) 0).length ≤ 9223372036854775807 ∧ cIf (!isWordB (cS (el (List.drop (i * 8) l) 0 8) 0)) (Q (CR.ret (I (4 : Int)))) (cIf ([some (HB.cells [AV.vs l len tk] 25), some (HB.cells (elR (el (List.drop (i * 8) l) 0 8)) 73)].all (okBlk 2)) (WLoop Tryz.X70 (cd PP 70 [1, 1, 0, 1, 0, 0, 1, 0, 0, 1, 1, 1, 0, 1, 0, 0]) ([X, AV.ptr 0 0, X, I (↑i : Int), AV.ptr 1 0, X, I (0 : Int)] ++ List.replicate 60 X) (St.mk [some (HB.cells [AV.vs l len tk] 25), some (HB.cells (elR (el (List.drop (i * 8) l) 0 8)) 73)] [] []) (kBlock 2 (kSeq Tryz.X70 (cd PP 70 [1, 1, 0, 1, 0, 0, 1, 0, 0, 1, 1, 1, 1]) (kBlock 1 (kSeq Tryz.X70 (cd PP 70 [1, 1, 0, 1, 0, 0, 1, 1]) (kLoop Tryz.X70 (cd PP 70 [1, 1, 0, 1, 0, 0]) (kBlock 0 (kSeq Tryz.X70 (cd PP 70 [1, 1, 1]) (kRet Tryz.X70 70 Q))))))))) False)) False) False) False) False) (Q (CR.ret (I (0 : Int))))) := by kernel_rfl
theorem v70i (l : List AV) (len i j : Nat) (tk : Tok) (x : Rul) (Q : CR → Prop) : wpC Tryz.X70 (cd PP 70 [1, 1, 0, 1, 0, 0, 1, 0, 0, 1, 1, 1, 0, 1, 0, 0]) ([X, .ptr 0 0, X, I i, .ptr 1 0, X, I j] ++ List.replicate 60 X) ⟨[some (.cells [.vs l len tk] 25), some (.cells (encR x) 73)], [], []⟩ (kLoop Tryz.X70 (cd PP 70 [1, 1, 0, 1, 0, 0, 1, 0, 0, 1, 1, 1, 0, 1, 0, 0]) (kBlock 2 (kSeq Tryz.X70 (cd PP 70 [1, 1, 0, 1, 0, 0, 1, 0, 0, 1, 1, 1, 1]) (kBlock 1 (kSeq Tryz.X70 (cd PP 70 [1, 1, 0, 1, 0, 0, 1, 1]) (kLoop Tryz.X70 (cd PP 70 [1, 1, 0, 1, 0, 0]) (kBlock 0 (kSeq Tryz.X70 (cd PP 70 [1, 1, 1]) (kRet Tryz.X70 70 Q))))))))) =
  (cIf (decide ((↑j : Int) < (↑i : Int))) (cIf (decide (j < len)) (cIf (decide (len * 8 = l.length)) (cIf (decide (0 < (List.drop (j * 8) l).length)) (cIf (likeOk (AV.ofVal (Value.string (ByteArray.mk #[]))) ((List.drop (j * 8) l).getD 0 X)) (cIf (cS (List.drop (j * 8) l) 0 == x.name) (Q (CR.ret (I (6 : Int)))) (cIf ([some (HB.cells [AV.vs l len tk] 25), some (HB.cells (encR x) 73)].all (okBlk 2)) (WLoop Tryz.X70 (cd PP 70 [1, 1, 0, 1, 0, 0, 1, 0, 0, 1, 1, 1, 0, 1, 0, 0]) ([X, AV.ptr 0 0, X, I (↑i : Int), AV.ptr 1 0, X, I (IntKind.i64.wrap ((↑j : Int) + (1 : Int)))] ++ List.replicate 60 X) (St.mk [some (HB.cells [AV.vs l len tk] 25), some (HB.cells (encR x) 73)] [] []) (kBlock 2 (kSeq Tryz.X70 (cd PP 70 [1, 1, 0, 1, 0, 0, 1, 0, 0, 1, 1, 1, 1]) (kBlock 1 (kSeq Tryz.X70 (cd PP 70 [1, 1, 0, 1, 0, 0, 1, 1]) (kLoop Tryz.X70 (cd PP 70 [1, 1, 0, 1, 0, 0]) (kBlock 0 (kSeq Tryz.X70 (cd PP 70 [1, 1, 1]) (kRet Tryz.X70 70 Q))))))))) False)) False) False) False) False) (cIf ([some (HB.cells [AV.vs l len tk] 25), some (HB.cells (encR x) 73)].all (okBlk 2)) (WCut Tryz.X70 (cd PP 70 [1, 1, 0, 1, 0, 0, 1, 0, 0, 1, 1, 1, 1]) ([X, AV.ptr 0 0, X, I (↑i : Int), AV.ptr 1 0] ++ List.replicate 62 X) (St.mk [some (HB.cells [AV.vs l len tk] 25), some (HB.cells (encR x) 73)] [] []) (kBlock 1 (kSeq Tryz.X70 (cd PP 70 [1, 1, 0, 1, 0, 0, 1, 1]) (kLoop Tryz.X70 (cd PP 70 [1, 1, 0, 1, 0, 0]) (kBlock 0 (kSeq Tryz.X70 (cd PP 70 [1, 1, 1]) (kRet Tryz.X70 70 Q))))))) False)) := by kernel_rfl
theorem v70c (l : List AV) (len i : Nat) (tk : Tok) (x : Rul) (Q : CR → Prop) : wpC Tryz.X70 (cd PP 70 [1, 1, 0, 1, 0, 0, 1, 0, 0, 1, 1, 1, 1]) ([X, .ptr 0 0, X, I i, .ptr 1 0] ++ List.replicate 62 X) ⟨[some (.cells [.vs l len tk] 25), some (.cells (encR x) 73)], [], []⟩ (kBlock 1 (kSeq Tryz.X70 (cd PP 70 [1, 1, 0, 1, 0, 0, 1, 1]) (kLoop Tryz.X70 (cd PP 70 [1, 1, 0, 1, 0, 0]) (kBlock 0 (kSeq Tryz.X70 (cd PP 70 [1, 1, 1]) (kRet Tryz.X70 70 Q)))))) =
  (True ∧ True ∧ cIf (!(decide ((1 : Int) ≤ x.rank) && decide (x.rank ≤ (99 : Int)))) (Q (CR.ret (I (1 : Int)))) (cIf (!(decide ((1 : Int) ≤ x.weight) && decide (x.weight ≤ (1000 : Int)))) (Q (CR.ret (I (1 : Int)))) ((∃ (t : Tst), (encTp x.t) = encT t ∧ wfT t) ∧ cIf (!onEnc encT (fun (t : Tst) => decide ((szR t).fst ≤ (24 : Int))) false (encTp x.t)) (Q (CR.ret (I (2 : Int)))) ((∃ (t : Tst), (encTp x.t) = encT t ∧ wfT t) ∧ cIf (!onEnc encT shT false (encTp x.t)) (Q (CR.ret (I (1 : Int)))) (cIf ([some (HB.cells [AV.vs l len tk] 25)].all (okBlk 1)) (WLoop Tryz.X70 (cd PP 70 [1, 1, 0, 1, 0, 0]) ([X, AV.ptr 0 0, X, I (IntKind.i64.wrap ((↑i : Int) + (1 : Int)))] ++ List.replicate 63 X) (St.mk [some (HB.cells [AV.vs l len tk] 25)] [] []) (kBlock 0 (kSeq Tryz.X70 (cd PP 70 [1, 1, 1]) (kRet Tryz.X70 70 Q)))) False))))) := by kernel_rfl
end Go.Proofs
/-! C6 -/
set_option maxRecDepth 100000
set_option linter.unusedVariables false
namespace Go.Proofs
open Go Go.Ev
theorem c70 : Cts Tryz.B [(103, R103), (109, R109), (113, R113), (114, R114)] := ((((Cts.nil _).cons ct114).cons ct113).cons ct109).cons ct103
theorem any_take {rs : List Rul} {j : Nat} {x y : Rul} (h : rs[j]? = some y) : ((rs.take (j + 1)).any fun z => z.name == x.name) = ((rs.take j).any (fun z => z.name == x.name) || (y.name == x.name)) := by
  rw [List.take_add_one, h, List.any_append]; simp
section
variable {rs : List Rul} (tk : Tok) (hw : wfRs rs) {Q : CR → Prop}
theorem blk70 (n : Nat) (x : Rul) : [some (HB.cells [AV.vs (encRs rs) rs.length tk] 25), some (HB.cells (encR x) 73)].all (okBlk n) = true := by
  simp [okBlk, noHB, noHL, noH, noH_encRs, noH_encR]
theorem blk70a (n : Nat) : [some (HB.cells [AV.vs (encRs rs) rs.length tk] 25)].all (okBlk n) = true := by
  simp [okBlk, noHB, noHL, noH, noH_encRs]
include hw
set_option maxHeartbeats 2000000 in
theorem chk_c {i : Nat} {x : Rul} (hx : rs[i]? = some x) (hnt : ((rs.take i).any fun y => y.name == x.name) = false) (hwd : isWordB x.name = true) (hQ : Q (rI (chkL (rs.take i) (rs.drop i))))
    (next : Q (rI (chkL (rs.take (i + 1)) (rs.drop (i + 1)))) → WLoop Tryz.X70 (cd PP 70 [1, 1, 0, 1, 0, 0]) ([X, .ptr 0 0, X, I (i + 1 : Nat)] ++ List.replicate 63 X) ⟨[some (.cells [.vs (encRs rs) rs.length tk] 25)], [], []⟩ (kBlock 0 (kSeq Tryz.X70 (cd PP 70 [1, 1, 1]) (kRet Tryz.X70 70 Q)))) :
    WCut Tryz.X70 (cd PP 70 [1, 1, 0, 1, 0, 0, 1, 0, 0, 1, 1, 1, 1]) ([X, .ptr 0 0, X, I i, .ptr 1 0] ++ List.replicate 62 X) ⟨[some (.cells [.vs (encRs rs) rs.length tk] 25), some (.cells (encR x) 73)], [], []⟩ (kBlock 1 (kSeq Tryz.X70 (cd PP 70 [1, 1, 0, 1, 0, 0, 1, 1]) (kLoop Tryz.X70 (cd PP 70 [1, 1, 0, 1, 0, 0]) (kBlock 0 (kSeq Tryz.X70 (cd PP 70 [1, 1, 1]) (kRet Tryz.X70 70 Q)))))) := by
  have hlt : i < rs.length := (List.getElem?_eq_some_iff.1 hx).1
  have hd : rs.drop i = x :: rs.drop (i + 1) := by
    rw [List.drop_eq_getElem_cons hlt]
    rw [List.getElem?_eq_getElem hlt] at hx
    rw [Option.some.inj hx]
  have hlen := hw.1
  have hwx := hw.2 x (List.mem_of_getElem? hx)
  have ht : rs.take (i + 1) = rs.take i ++ [x] := by rw [List.take_add_one, hx]; rfl
  rw [hd] at hQ
  simp only [chkL, hwd, hnt] at hQ
  refine WCut_step Tryz.bok c70 ((v70c _ _ _ tk x Q).mpr ⟨trivial, trivial, ?_⟩)
  rw [encTp_eq, onEnc_eq (fun _ _ => encT_inj _ _), onEnc_eq (fun _ _ => encT_inj _ _)]
  refine cIf_intro (fun h1 => ?_) (fun h1 => cIf_intro (fun h2 => ?_) (fun h2 => ⟨⟨_, rfl, hwx.1⟩, cIf_intro (fun h3 => ?_) (fun h3 => ⟨⟨_, rfl, hwx.1⟩, cIf_intro (fun h4 => ?_) (fun h4 => cIf_pos (blk70a tk 1) ?_)⟩)⟩))
  · have : rangesB x = false := by simp [rangesB] at *; omega
    simpa [this] using hQ
  · have : rangesB x = false := by simp [rangesB] at *; omega
    simpa [this] using hQ
  · have hr : rangesB x = true := by simp [rangesB] at *; omega
    have hs : smallB x.t = false := by simpa [smallB] using h3
    simpa [hr, hs] using hQ
  · have hr : rangesB x = true := by simp [rangesB] at *; omega
    have hs : smallB x.t = true := by simpa [smallB] using h3
    have hh : shT x.t = false := by simpa using h4
    simpa [hr, hs, hh] using hQ
  · have hr : rangesB x = true := by simp [rangesB] at *; omega
    have hs : smallB x.t = true := by simpa [smallB] using h3
    have hh : shT x.t = true := by simpa using h4
    rw [wrap_id (by omega) (by omega)]
    refine next ?_
    rw [ht]
    simpa [hr, hs, hh] using hQ
set_option maxHeartbeats 2000000 in
theorem chk_i {i : Nat} {x : Rul} (hx : rs[i]? = some x) (hwd : isWordB x.name = true) (hQ : Q (rI (chkL (rs.take i) (rs.drop i))))
    (next : Q (rI (chkL (rs.take (i + 1)) (rs.drop (i + 1)))) → WLoop Tryz.X70 (cd PP 70 [1, 1, 0, 1, 0, 0]) ([X, .ptr 0 0, X, I (i + 1 : Nat)] ++ List.replicate 63 X) ⟨[some (.cells [.vs (encRs rs) rs.length tk] 25)], [], []⟩ (kBlock 0 (kSeq Tryz.X70 (cd PP 70 [1, 1, 1]) (kRet Tryz.X70 70 Q)))) :
    ∀ (d j : Nat), i - j = d → j ≤ i → ((rs.take j).any fun y => y.name == x.name) = false →
    WLoop Tryz.X70 (cd PP 70 [1, 1, 0, 1, 0, 0, 1, 0, 0, 1, 1, 1, 0, 1, 0, 0]) ([X, .ptr 0 0, X, I i, .ptr 1 0, X, I j] ++ List.replicate 60 X) ⟨[some (.cells [.vs (encRs rs) rs.length tk] 25), some (.cells (encR x) 73)], [], []⟩ (kBlock 2 (kSeq Tryz.X70 (cd PP 70 [1, 1, 0, 1, 0, 0, 1, 0, 0, 1, 1, 1, 1]) (kBlock 1 (kSeq Tryz.X70 (cd PP 70 [1, 1, 0, 1, 0, 0, 1, 1]) (kLoop Tryz.X70 (cd PP 70 [1, 1, 0, 1, 0, 0]) (kBlock 0 (kSeq Tryz.X70 (cd PP 70 [1, 1, 1]) (kRet Tryz.X70 70 Q)))))))) := by
  have hlt : i < rs.length := (List.getElem?_eq_some_iff.1 hx).1
  have hlen := hw.1
  have hd : rs.drop i = x :: rs.drop (i + 1) := by
    rw [List.drop_eq_getElem_cons hlt]
    rw [List.getElem?_eq_getElem hlt] at hx
    rw [Option.some.inj hx]
  intro d
  induction d with
  | zero =>
    intro j hd hj hn
    have hj' : j = i := by omega
    subst hj'
    refine WLoop_step Tryz.bok c70 ((v70i _ _ _ _ tk x Q).mpr (cIf_neg (by simp) (cIf_pos (blk70 tk 2 x) ?_)))
    exact chk_c tk hw hx hn hwd hQ next
  | succ d ih =>
    intro j hd' hj hn
    have hlj : j < rs.length := by omega
    obtain ⟨y, hy, _⟩ := drop_cons hlj
    have hc : cS (List.drop (j * 8) (encRs rs)) 0 = y.name ∧ likeOk (.str []) ((List.drop (j * 8) (encRs rs)).getD 0 X) = true := by
      have h1 := encRs_el hy
      have h2 : (List.drop (j * 8) (encRs rs)).getD 0 .bad = (encR y).getD 0 .bad := by
        rw [← h1]
        simp [el, List.getD_eq_getElem?_getD, List.getElem?_take]
      constructor
      · unfold cS; rw [h2]; rfl
      · rw [h2]; rfl
    refine WLoop_step Tryz.bok c70 ((v70i _ _ _ _ tk x Q).mpr (cIf_pos (by simp; omega) (cIf_pos (by simpa using hlj) (cIf_pos (by simp [encRs_len]) (cIf_pos (by have := enc_drop_len (encRs_len rs) hlj; simp only [decide_eq_true_eq]; omega) ?_)))))
    refine cIf_pos hc.2 ?_
    rw [hc.1]
    refine cIf_intro (fun h => ?_) (fun h => cIf_pos (blk70 tk 2 x) ?_)
    · rw [hd] at hQ
      have : ((rs.take i).any fun y => y.name == x.name) = true := by
        rw [List.any_eq_true]
        refine ⟨y, ?_, h⟩
        have : (rs.take i)[j]? = some y := by rw [List.getElem?_take_of_lt (by omega)]; exact hy
        exact List.mem_of_getElem? this
      simp only [chkL, hwd, this] at hQ
      simpa using hQ
    · rw [wrap_id (by omega) (by omega)]
      refine ih (j + 1) (by omega) (by omega) ?_
      rw [any_take hy, hn, h]; rfl
set_option maxHeartbeats 2000000 in
theorem chk_o : ∀ (d i : Nat), rs.length - i = d → i ≤ rs.length → Q (rI (chkL (rs.take i) (rs.drop i))) →
    WLoop Tryz.X70 (cd PP 70 [1, 1, 0, 1, 0, 0]) ([X, .ptr 0 0, X, I i] ++ List.replicate 63 X) ⟨[some (.cells [.vs (encRs rs) rs.length tk] 25)], [], []⟩ (kBlock 0 (kSeq Tryz.X70 (cd PP 70 [1, 1, 1]) (kRet Tryz.X70 70 Q))) := by
  have hlen := hw.1
  intro d
  induction d with
  | zero =>
    intro i hd hi hQ
    have hi' : i = rs.length := by omega
    subst hi'
    refine WLoop_step Tryz.bok c70 ((v70o _ _ _ tk Q).mpr (cIf_neg (by simp) ?_))
    simpa [chkL] using hQ
  | succ d ih =>
    intro i hd hi hQ
    have hlt : i < rs.length := by omega
    obtain ⟨x, hx, hdr⟩ := drop_cons hlt
    have hwx := hw.2 x (List.mem_of_getElem? hx)
    refine WLoop_step Tryz.bok c70 ((v70o _ _ _ tk Q).mpr (cIf_pos (by simp; omega) (cIf_pos (by simpa using hlt) (cIf_pos (by simp [encRs_len]) (cIf_pos (by have := enc_drop_len (encRs_len rs) hlt; simpa using this) ?_)))))
    rw [encRs_el hx, encR_w]
    refine cIf_pos (encR_like x) ⟨hwx.2.1, cIf_intro (fun h => ?_) (fun h => cIf_pos (blk70 tk 2 x) ?_)⟩
    · have h : isWordB x.name = false := by
        have h' : (!isWordB x.name) = true := h
        simpa using h'
      rw [hdr] at hQ
      simpa only [chkL, h, if_true] using hQ
    · have h : isWordB x.name = true := by
        have h' : (!isWordB x.name) = false := h
        simpa using h'
      exact chk_i tk hw hx h hQ (fun hq => ih (i + 1) (by omega) (by omega) hq) _ 0 rfl (Nat.zero_le _) rfl
end
set_option maxHeartbeats 2000000 in
theorem ct70 : Ct Tryz.B.c0 70 R70 := Ct.of_wp (lm := lm70) (ct := [15]) (sm := [(4, 1), (11, 2), (15, 2)]) Tryz.bok c70 ⟨_, _, Tryz.func70, rfl⟩ fun args D r hR hD => by
  unfold R70 at hR
  split at hR <;> cases hR
  rename_i tk
  obtain ⟨rs, rfl, rfl, hw⟩ := hD
  refine ⟨by simp [noHL, noH, noH_encRs], ?_⟩
  rw [show scrubL 0 [AV.agg [.vs (encRs rs) rs.length tk]] = [AV.agg [.vs (encRs rs) rs.length (tk.scrub 0)]] by simp [scrubL, scrub, sc_encRs], onEnc_eq encRs_inj]
  refine (v70 _ _ _ _).mpr (cIf_intro (fun h => ?_) (fun h => cIf_pos (blk70a _ 1) ?_))
  · have h : rs.length > 24 := by simp at h; omega
    simp [chk, h]
  · have h : ¬ rs.length > 24 := by simp at h; omega
    refine chk_o _ hw _ 0 rfl (Nat.zero_le _) ?_
    simp [chk, h]
end Go.Proofs
