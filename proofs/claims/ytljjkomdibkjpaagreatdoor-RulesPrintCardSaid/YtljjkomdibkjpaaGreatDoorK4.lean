/- Contracts of functions of the program and of the reference. -/
import Derived.Test.YtljjkomdibkjpaaGreatDoorK3
import Derived.Test.YtljjkomdibkjpaaGreatDoorE5
set_option linter.unusedVariables false
set_option linter.unusedSimpArgs false
/-! VC9 -/
set_option maxRecDepth 100000
set_option linter.unusedVariables false
namespace Go.Proofs
open Go Go.Ev
def inRngB (a n : Int) : Bool := if a = 1 then decide (1 ≤ n) && decide (n ≤ 5) else if a = 2 then decide (0 ≤ n) && decide (n ≤ 2) else decide (kindI a = 2) && decide (n = 1)
def R120 : Spc := fun args => match args with
  | [.int .u8 a, .int .i64 n] => some (True, rB (inRngB a n))
  | _ => none
noncomputable def R76 : Spc := fun args => match args with
  | [.agg l] => some (∃ t, l = encT t ∧ wfT t, rB (onEnc encT shT false l))
  | _ => none
def nshL : List Tst → Int → Int
  | [], _ => -1
  | t :: l, i => if shT t = true then nshL l (i + 1) else i
noncomputable def R122 (m : Nat) : Spc := fun args => match args with
  | [.agg l] => some ((∃ t, l = encT t ∧ wfT t) ∧ avSizeL l + 1 < m, rB (!onEnc encT shT false l))
  | _ => none
noncomputable def R156 (m : Nat) : Spc := fun args => match args with
  | [.vs l len _, .fn (.func 122) [] []] => some (∃ ts, l = encTs ts ∧ len = ts.length ∧ wfTs ts ∧ ts.length ≤ 9223372036854775807 ∧ avSizeL l + 1 < m, rI (onEnc encTs (fun ts => nshL ts 0) 0 l))
  | _ => none
noncomputable def R121 (m : Nat) : Spc := fun args => match args with
  | [.vs l len _, .fn (.func 122) [] []] => some (∃ ts, l = encTs ts ∧ len = ts.length ∧ wfTs ts ∧ ts.length ≤ 9223372036854775807 ∧ avSizeL l + 1 < m, rB (onEnc encTs (fun ts => decide (nshL ts 0 ≥ 0)) false l))
  | _ => none
noncomputable def Tryz.X120 : WCx := Tryz.B.wcx [(112, R112)]
noncomputable def Tryz.X122 (m : Nat) : WCx := Tryz.B.wcx [(76, R76.below m)]
noncomputable def Tryz.X156 (m : Nat) : WCx := Tryz.B.wcx [(122, R122 m)] [(2, [0, 1, 7, 8]), (7, [])]
noncomputable def Tryz.X121 (m : Nat) : WCx := Tryz.B.wcx [(156, R156 m)]
noncomputable def Tryz.X76 (m : Nat) : WCx := Tryz.B.wcx [(112, R112), (120, R120), (121, R121 m)] [(4, [1, 3, 4, 5]), (22, [1, 6])] [] [4, 22]
theorem v120 (a n : Int) (Q : CR → Prop) : wpF Tryz.X120 120 [U a, I n] Q =
  (cIf (a == (1 : Int)) (cIf (decide (n ≥ (1 : Int))) (Q (CR.ret (Bo (decide (n ≤ (5 : Int)))))) (Q (CR.ret (Bo false)))) (cIf (a == (2 : Int)) (cIf (decide (n ≥ (0 : Int))) (Q (CR.ret (Bo (decide (n ≤ (2 : Int)))))) (Q (CR.ret (Bo false)))) (True ∧ cIf (kindI a == (2 : Int)) (Q (CR.ret (Bo (n == (1 : Int))))) (Q (CR.ret (Bo false)))))) := by kernel_rfl
theorem v122 (m : Nat) (op attr side n : Int) (l : List AV) (len : Nat) (Q : CR → Prop) : wpF (Tryz.X122 m) 122 [.agg [U op, U attr, U side, I n, .vs l len .none]] Q =
  (((∃ (t : Tst), [U op, U attr, U side, I n, AV.vs l len Tok.none] = encT t ∧ wfT t) ∧ avSizeL ([] ++ [AV.agg [U op, U attr, U side, I n, AV.vs l len Tok.none]] ++ []) < m) ∧ Q (CR.ret (Bo !onEnc encT shT false [U op, U attr, U side, I n, AV.vs l len Tok.none]))) := by kernel_rfl
theorem v156 (m : Nat) (l : List AV) (len : Nat) (tk : Tok) (Q : CR → Prop) : wpF (Tryz.X156 m) 156 [.vs l len tk, .fn (.func 122) [] []] Q =
  (WLoop (Tryz.X156 m) (cd (Tryz.X156 m).P 156 [1, 0, 1, 0, 0]) ([AV.vs l len tk, AV.fn (Fn.func 122) [] [], X, X, X, X, X, I (↑len : Int), I (0 : Int)] ++ List.replicate 10 X) (St.mk [] [] []) (kBlock 0 (kSeq (Tryz.X156 m) (cd (Tryz.X156 m).P 156 [1, 1]) (kRet (Tryz.X156 m) 156 Q)))) := by kernel_rfl
theorem v156l (m : Nat) (l : List AV) (len i : Nat) (tk : Tok) (Q : CR → Prop) : wpC (Tryz.X156 m) (cd PP 156 [1, 0, 1, 0, 0]) ([.vs l len tk, .fn (.func 122) [] [], X, X, X, X, X, I len, I i] ++ List.replicate 10 X) ⟨[], [], []⟩ (kLoop (Tryz.X156 m) (cd PP 156 [1, 0, 1, 0, 0]) (kBlock 0 (kSeq (Tryz.X156 m) (cd PP 156 [1, 1]) (kRet (Tryz.X156 m) 156 Q)))) =
  (cIf (decide ((↑i : Int) < (↑len : Int))) (cIf (decide (i < len)) (cIf (decide (len * 5 = l.length)) (cIf (decide (5 ≤ (List.drop (i * 5) l).length)) (cIf (like zT (el (List.drop (i * 5) l) 0 5)) (((∃ (t : Tst), (elT (el (List.drop (i * 5) l) 0 5)) = encT t ∧ wfT t) ∧ avSizeL (elT (el (List.drop (i * 5) l) 0 5)) + 1 < m) ∧ cIf (!onEnc encT shT false (elT (el (List.drop (i * 5) l) 0 5))) (Q (CR.ret (I (↑i : Int)))) (WLoop (Tryz.X156 m) (cd PP 156 [1, 0, 1, 0, 0]) ([AV.vs l len tk, AV.fn (Fn.func 122) [] [], X, X, X, X, X, I (↑len : Int), I (IntKind.i64.wrap ((↑i : Int) + (1 : Int)))] ++ List.replicate 10 X) (St.mk [] [] []) (kBlock 0 (kSeq (Tryz.X156 m) (cd PP 156 [1, 1]) (kRet (Tryz.X156 m) 156 Q))))) False) False) False) False) (Q (CR.ret (I (-1 : Int))))) := by kernel_rfl
theorem v121 (m : Nat) (l : List AV) (len : Nat) (tk : Tok) (Q : CR → Prop) : wpF (Tryz.X121 m) 121 [.vs l len tk, .fn (.func 122) [] []] Q =
  ((∃ (ts : List Tst), l = encTs ts ∧ len = ts.length ∧ wfTs ts ∧ ts.length ≤ 9223372036854775807 ∧ avSizeL l + 1 < m) ∧ Q (CR.ret (Bo (decide (onEnc encTs (fun (ts : List Tst) => nshL ts (0 : Int)) (0 : Int) l ≥ (0 : Int)))))) := by kernel_rfl
theorem v76 (m : Nat) (op attr side n : Int) (l : List AV) (len : Nat) (Q : CR → Prop) : wpF (Tryz.X76 m) 76 [.agg [U op, U attr, U side, I n, .vs l len .none]] Q =
  (True ∧ cIf (side == (1 : Int)) (WCut (Tryz.X76 m) (cd (Tryz.X76 m).P 76 [1, 1, 1, 1]) ([X, AV.ptr 0 0, X, I (kindI attr), Bo ((↑len : Int) == (0 : Int)), Bo true] ++ List.replicate 163 X) (St.mk [some (HB.cells [U op, U attr, U side, I n, AV.vs l len Tok.none] 71)] [] []) (kRet (Tryz.X76 m) 76 Q)) (WCut (Tryz.X76 m) (cd (Tryz.X76 m).P 76 [1, 1, 1, 1]) ([X, AV.ptr 0 0, X, I (kindI attr), Bo ((↑len : Int) == (0 : Int)), Bo (side == (2 : Int))] ++ List.replicate 163 X) (St.mk [some (HB.cells [U op, U attr, U side, I n, AV.vs l len Tok.none] 71)] [] []) (kRet (Tryz.X76 m) 76 Q))) := by kernel_rfl
theorem v76a (m : Nat) (op attr side n k : Int) (l : List AV) (len : Nat) (lf sd : Bool) (Q : CR → Prop) : wpC (Tryz.X76 m) (cd PP 76 [1, 1, 1, 1]) ([X, .ptr 0 0, X, I k, Bo lf, Bo sd] ++ List.replicate 163 X) ⟨[some (.cells [U op, U attr, U side, I n, .vs l len .none] 71)], [], []⟩ (kRet (Tryz.X76 m) 76 Q) =
  (cIf (op == (1 : Int)) (cIf lf (cIf (attr == (0 : Int)) (cIf (side == (0 : Int)) (WCut (Tryz.X76 m) (cd PP 76 [1, 1, 1, 1, 1, 1]) ([X, AV.ptr 0 0, X, X, X, X, Bo (n == (0 : Int))] ++ List.replicate 162 X) (St.mk [some (HB.cells [U op, U attr, U side, I n, AV.vs l len Tok.none] 71)] [] []) (kRet (Tryz.X76 m) 76 Q)) (WCut (Tryz.X76 m) (cd PP 76 [1, 1, 1, 1, 1, 1]) ([X, AV.ptr 0 0, X, X, X, X, Bo false] ++ List.replicate 162 X) (St.mk [some (HB.cells [U op, U attr, U side, I n, AV.vs l len Tok.none] 71)] [] []) (kRet (Tryz.X76 m) 76 Q))) (WCut (Tryz.X76 m) (cd PP 76 [1, 1, 1, 1, 1, 1]) ([X, AV.ptr 0 0, X, X, X, X, Bo false] ++ List.replicate 162 X) (St.mk [some (HB.cells [U op, U attr, U side, I n, AV.vs l len Tok.none] 71)] [] []) (kRet (Tryz.X76 m) 76 Q))) (WCut (Tryz.X76 m) (cd PP 76 [1, 1, 1, 1, 1, 1]) ([X, AV.ptr 0 0, X, X, X, X, Bo false] ++ List.replicate 162 X) (St.mk [some (HB.cells [U op, U attr, U side, I n, AV.vs l len Tok.none] 71)] [] []) (kRet (Tryz.X76 m) 76 Q))) (cIf (op == (2 : Int)) (cIf (op == (2 : Int)) (cIf lf (cIf (k == (1 : Int)) (cIf (side == (0 : Int)) (WCut (Tryz.X76 m) (cd PP 76 [1, 1, 1, 1, 1, 1]) ([X, AV.ptr 0 0, X, X, X, X, Bo (n == (0 : Int))] ++ List.replicate 162 X) (St.mk [some (HB.cells [U op, U attr, U side, I n, AV.vs l len Tok.none] 71)] [] []) (kRet (Tryz.X76 m) 76 Q)) (WCut (Tryz.X76 m) (cd PP 76 [1, 1, 1, 1, 1, 1]) ([X, AV.ptr 0 0, X, X, X, X, Bo false] ++ List.replicate 162 X) (St.mk [some (HB.cells [U op, U attr, U side, I n, AV.vs l len Tok.none] 71)] [] []) (kRet (Tryz.X76 m) 76 Q))) (cIf (k == (3 : Int)) (cIf (side == (0 : Int)) (WCut (Tryz.X76 m) (cd PP 76 [1, 1, 1, 1, 1, 1]) ([X, AV.ptr 0 0, X, X, X, X, Bo (n == (0 : Int))] ++ List.replicate 162 X) (St.mk [some (HB.cells [U op, U attr, U side, I n, AV.vs l len Tok.none] 71)] [] []) (kRet (Tryz.X76 m) 76 Q)) (WCut (Tryz.X76 m) (cd PP 76 [1, 1, 1, 1, 1, 1]) ([X, AV.ptr 0 0, X, X, X, X, Bo false] ++ List.replicate 162 X) (St.mk [some (HB.cells [U op, U attr, U side, I n, AV.vs l len Tok.none] 71)] [] []) (kRet (Tryz.X76 m) 76 Q))) (WCut (Tryz.X76 m) (cd PP 76 [1, 1, 1, 1, 1, 1]) ([X, AV.ptr 0 0, X, X, X, X, Bo false] ++ List.replicate 162 X) (St.mk [some (HB.cells [U op, U attr, U side, I n, AV.vs l len Tok.none] 71)] [] []) (kRet (Tryz.X76 m) 76 Q)))) (WCut (Tryz.X76 m) (cd PP 76 [1, 1, 1, 1, 1, 1]) ([X, AV.ptr 0 0, X, X, X, X, Bo false] ++ List.replicate 162 X) (St.mk [some (HB.cells [U op, U attr, U side, I n, AV.vs l len Tok.none] 71)] [] []) (kRet (Tryz.X76 m) 76 Q))) (cIf (op == (4 : Int)) (cIf lf (cIf (k != (0 : Int)) (cIf (side == (0 : Int)) (WCut (Tryz.X76 m) (cd PP 76 [1, 1, 1, 1, 1, 1]) ([X, AV.ptr 0 0, X, X, X, X, Bo (n == (0 : Int))] ++ List.replicate 162 X) (St.mk [some (HB.cells [U op, U attr, U side, I n, AV.vs l len Tok.none] 71)] [] []) (kRet (Tryz.X76 m) 76 Q)) (WCut (Tryz.X76 m) (cd PP 76 [1, 1, 1, 1, 1, 1]) ([X, AV.ptr 0 0, X, X, X, X, Bo false] ++ List.replicate 162 X) (St.mk [some (HB.cells [U op, U attr, U side, I n, AV.vs l len Tok.none] 71)] [] []) (kRet (Tryz.X76 m) 76 Q))) (WCut (Tryz.X76 m) (cd PP 76 [1, 1, 1, 1, 1, 1]) ([X, AV.ptr 0 0, X, X, X, X, Bo false] ++ List.replicate 162 X) (St.mk [some (HB.cells [U op, U attr, U side, I n, AV.vs l len Tok.none] 71)] [] []) (kRet (Tryz.X76 m) 76 Q))) (WCut (Tryz.X76 m) (cd PP 76 [1, 1, 1, 1, 1, 1]) ([X, AV.ptr 0 0, X, X, X, X, Bo false] ++ List.replicate 162 X) (St.mk [some (HB.cells [U op, U attr, U side, I n, AV.vs l len Tok.none] 71)] [] []) (kRet (Tryz.X76 m) 76 Q))) (cIf (op == (5 : Int)) (cIf lf (cIf (k == (1 : Int)) (cIf sd (True ∧ WCut (Tryz.X76 m) (cd PP 76 [1, 1, 1, 1, 1, 1]) ([X, AV.ptr 0 0, X, X, X, X, Bo (inRngB attr n)] ++ List.replicate 162 X) (St.mk [some (HB.cells [U op, U attr, U side, I n, AV.vs l len Tok.none] 71)] [] []) (kRet (Tryz.X76 m) 76 Q)) (WCut (Tryz.X76 m) (cd PP 76 [1, 1, 1, 1, 1, 1]) ([X, AV.ptr 0 0, X, X, X, X, Bo false] ++ List.replicate 162 X) (St.mk [some (HB.cells [U op, U attr, U side, I n, AV.vs l len Tok.none] 71)] [] []) (kRet (Tryz.X76 m) 76 Q))) (cIf (k == (2 : Int)) (cIf sd (True ∧ WCut (Tryz.X76 m) (cd PP 76 [1, 1, 1, 1, 1, 1]) ([X, AV.ptr 0 0, X, X, X, X, Bo (inRngB attr n)] ++ List.replicate 162 X) (St.mk [some (HB.cells [U op, U attr, U side, I n, AV.vs l len Tok.none] 71)] [] []) (kRet (Tryz.X76 m) 76 Q)) (WCut (Tryz.X76 m) (cd PP 76 [1, 1, 1, 1, 1, 1]) ([X, AV.ptr 0 0, X, X, X, X, Bo false] ++ List.replicate 162 X) (St.mk [some (HB.cells [U op, U attr, U side, I n, AV.vs l len Tok.none] 71)] [] []) (kRet (Tryz.X76 m) 76 Q))) (WCut (Tryz.X76 m) (cd PP 76 [1, 1, 1, 1, 1, 1]) ([X, AV.ptr 0 0, X, X, X, X, Bo false] ++ List.replicate 162 X) (St.mk [some (HB.cells [U op, U attr, U side, I n, AV.vs l len Tok.none] 71)] [] []) (kRet (Tryz.X76 m) 76 Q)))) (WCut (Tryz.X76 m) (cd PP 76 [1, 1, 1, 1, 1, 1]) ([X, AV.ptr 0 0, X, X, X, X, Bo false] ++ List.replicate 162 X) (St.mk [some (HB.cells [U op, U attr, U side, I n, AV.vs l len Tok.none] 71)] [] []) (kRet (Tryz.X76 m) 76 Q))) (cIf (op == (6 : Int)) (cIf lf (cIf (k == (1 : Int)) (cIf sd (True ∧ WCut (Tryz.X76 m) (cd PP 76 [1, 1, 1, 1, 1, 1]) ([X, AV.ptr 0 0, X, X, X, X, Bo (inRngB attr n)] ++ List.replicate 162 X) (St.mk [some (HB.cells [U op, U attr, U side, I n, AV.vs l len Tok.none] 71)] [] []) (kRet (Tryz.X76 m) 76 Q)) (WCut (Tryz.X76 m) (cd PP 76 [1, 1, 1, 1, 1, 1]) ([X, AV.ptr 0 0, X, X, X, X, Bo false] ++ List.replicate 162 X) (St.mk [some (HB.cells [U op, U attr, U side, I n, AV.vs l len Tok.none] 71)] [] []) (kRet (Tryz.X76 m) 76 Q))) (WCut (Tryz.X76 m) (cd PP 76 [1, 1, 1, 1, 1, 1]) ([X, AV.ptr 0 0, X, X, X, X, Bo false] ++ List.replicate 162 X) (St.mk [some (HB.cells [U op, U attr, U side, I n, AV.vs l len Tok.none] 71)] [] []) (kRet (Tryz.X76 m) 76 Q))) (WCut (Tryz.X76 m) (cd PP 76 [1, 1, 1, 1, 1, 1]) ([X, AV.ptr 0 0, X, X, X, X, Bo false] ++ List.replicate 162 X) (St.mk [some (HB.cells [U op, U attr, U side, I n, AV.vs l len Tok.none] 71)] [] []) (kRet (Tryz.X76 m) 76 Q))) (cIf (op == (7 : Int)) (cIf ((↑len : Int) == (1 : Int)) (cIf (attr == (0 : Int)) (cIf (side == (0 : Int)) (WCut (Tryz.X76 m) (cd PP 76 [1, 1, 1, 1, 1, 1]) ([X, AV.ptr 0 0, X, X, X, X, Bo (n == (0 : Int))] ++ List.replicate 162 X) (St.mk [some (HB.cells [U op, U attr, U side, I n, AV.vs l len Tok.none] 71)] [] []) (kRet (Tryz.X76 m) 76 Q)) (WCut (Tryz.X76 m) (cd PP 76 [1, 1, 1, 1, 1, 1]) ([X, AV.ptr 0 0, X, X, X, X, Bo false] ++ List.replicate 162 X) (St.mk [some (HB.cells [U op, U attr, U side, I n, AV.vs l len Tok.none] 71)] [] []) (kRet (Tryz.X76 m) 76 Q))) (WCut (Tryz.X76 m) (cd PP 76 [1, 1, 1, 1, 1, 1]) ([X, AV.ptr 0 0, X, X, X, X, Bo false] ++ List.replicate 162 X) (St.mk [some (HB.cells [U op, U attr, U side, I n, AV.vs l len Tok.none] 71)] [] []) (kRet (Tryz.X76 m) 76 Q))) (WCut (Tryz.X76 m) (cd PP 76 [1, 1, 1, 1, 1, 1]) ([X, AV.ptr 0 0, X, X, X, X, Bo false] ++ List.replicate 162 X) (St.mk [some (HB.cells [U op, U attr, U side, I n, AV.vs l len Tok.none] 71)] [] []) (kRet (Tryz.X76 m) 76 Q))) (cIf (op == (8 : Int)) (cIf (op == (8 : Int)) (cIf (decide ((↑len : Int) ≥ (2 : Int))) (cIf (attr == (0 : Int)) (cIf (side == (0 : Int)) (WCut (Tryz.X76 m) (cd PP 76 [1, 1, 1, 1, 1, 1]) ([X, AV.ptr 0 0, X, X, X, X, Bo (n == (0 : Int))] ++ List.replicate 162 X) (St.mk [some (HB.cells [U op, U attr, U side, I n, AV.vs l len Tok.none] 71)] [] []) (kRet (Tryz.X76 m) 76 Q)) (WCut (Tryz.X76 m) (cd PP 76 [1, 1, 1, 1, 1, 1]) ([X, AV.ptr 0 0, X, X, X, X, Bo false] ++ List.replicate 162 X) (St.mk [some (HB.cells [U op, U attr, U side, I n, AV.vs l len Tok.none] 71)] [] []) (kRet (Tryz.X76 m) 76 Q))) (WCut (Tryz.X76 m) (cd PP 76 [1, 1, 1, 1, 1, 1]) ([X, AV.ptr 0 0, X, X, X, X, Bo false] ++ List.replicate 162 X) (St.mk [some (HB.cells [U op, U attr, U side, I n, AV.vs l len Tok.none] 71)] [] []) (kRet (Tryz.X76 m) 76 Q))) (WCut (Tryz.X76 m) (cd PP 76 [1, 1, 1, 1, 1, 1]) ([X, AV.ptr 0 0, X, X, X, X, Bo false] ++ List.replicate 162 X) (St.mk [some (HB.cells [U op, U attr, U side, I n, AV.vs l len Tok.none] 71)] [] []) (kRet (Tryz.X76 m) 76 Q))) (WCut (Tryz.X76 m) (cd PP 76 [1, 1, 1, 1, 1, 1]) ([X, AV.ptr 0 0, X, X, X, X, Bo false] ++ List.replicate 162 X) (St.mk [some (HB.cells [U op, U attr, U side, I n, AV.vs l len Tok.none] 71)] [] []) (kRet (Tryz.X76 m) 76 Q))) (cIf (op == (9 : Int)) (cIf (decide ((↑len : Int) ≥ (2 : Int))) (cIf (attr == (0 : Int)) (cIf (side == (0 : Int)) (WCut (Tryz.X76 m) (cd PP 76 [1, 1, 1, 1, 1, 1]) ([X, AV.ptr 0 0, X, X, X, X, Bo (n == (0 : Int))] ++ List.replicate 162 X) (St.mk [some (HB.cells [U op, U attr, U side, I n, AV.vs l len Tok.none] 71)] [] []) (kRet (Tryz.X76 m) 76 Q)) (WCut (Tryz.X76 m) (cd PP 76 [1, 1, 1, 1, 1, 1]) ([X, AV.ptr 0 0, X, X, X, X, Bo false] ++ List.replicate 162 X) (St.mk [some (HB.cells [U op, U attr, U side, I n, AV.vs l len Tok.none] 71)] [] []) (kRet (Tryz.X76 m) 76 Q))) (WCut (Tryz.X76 m) (cd PP 76 [1, 1, 1, 1, 1, 1]) ([X, AV.ptr 0 0, X, X, X, X, Bo false] ++ List.replicate 162 X) (St.mk [some (HB.cells [U op, U attr, U side, I n, AV.vs l len Tok.none] 71)] [] []) (kRet (Tryz.X76 m) 76 Q))) (WCut (Tryz.X76 m) (cd PP 76 [1, 1, 1, 1, 1, 1]) ([X, AV.ptr 0 0, X, X, X, X, Bo false] ++ List.replicate 162 X) (St.mk [some (HB.cells [U op, U attr, U side, I n, AV.vs l len Tok.none] 71)] [] []) (kRet (Tryz.X76 m) 76 Q))) (WCut (Tryz.X76 m) (cd PP 76 [1, 1, 1, 1, 1, 1]) ([X, AV.ptr 0 0, X, X, X, X, Bo false] ++ List.replicate 162 X) (St.mk [some (HB.cells [U op, U attr, U side, I n, AV.vs l len Tok.none] 71)] [] []) (kRet (Tryz.X76 m) 76 Q))))))))) (cIf (op == (3 : Int)) (cIf lf (cIf (k == (1 : Int)) (cIf (side == (0 : Int)) (WCut (Tryz.X76 m) (cd PP 76 [1, 1, 1, 1, 1, 1]) ([X, AV.ptr 0 0, X, X, X, X, Bo (n == (0 : Int))] ++ List.replicate 162 X) (St.mk [some (HB.cells [U op, U attr, U side, I n, AV.vs l len Tok.none] 71)] [] []) (kRet (Tryz.X76 m) 76 Q)) (WCut (Tryz.X76 m) (cd PP 76 [1, 1, 1, 1, 1, 1]) ([X, AV.ptr 0 0, X, X, X, X, Bo false] ++ List.replicate 162 X) (St.mk [some (HB.cells [U op, U attr, U side, I n, AV.vs l len Tok.none] 71)] [] []) (kRet (Tryz.X76 m) 76 Q))) (cIf (k == (3 : Int)) (cIf (side == (0 : Int)) (WCut (Tryz.X76 m) (cd PP 76 [1, 1, 1, 1, 1, 1]) ([X, AV.ptr 0 0, X, X, X, X, Bo (n == (0 : Int))] ++ List.replicate 162 X) (St.mk [some (HB.cells [U op, U attr, U side, I n, AV.vs l len Tok.none] 71)] [] []) (kRet (Tryz.X76 m) 76 Q)) (WCut (Tryz.X76 m) (cd PP 76 [1, 1, 1, 1, 1, 1]) ([X, AV.ptr 0 0, X, X, X, X, Bo false] ++ List.replicate 162 X) (St.mk [some (HB.cells [U op, U attr, U side, I n, AV.vs l len Tok.none] 71)] [] []) (kRet (Tryz.X76 m) 76 Q))) (WCut (Tryz.X76 m) (cd PP 76 [1, 1, 1, 1, 1, 1]) ([X, AV.ptr 0 0, X, X, X, X, Bo false] ++ List.replicate 162 X) (St.mk [some (HB.cells [U op, U attr, U side, I n, AV.vs l len Tok.none] 71)] [] []) (kRet (Tryz.X76 m) 76 Q)))) (WCut (Tryz.X76 m) (cd PP 76 [1, 1, 1, 1, 1, 1]) ([X, AV.ptr 0 0, X, X, X, X, Bo false] ++ List.replicate 162 X) (St.mk [some (HB.cells [U op, U attr, U side, I n, AV.vs l len Tok.none] 71)] [] []) (kRet (Tryz.X76 m) 76 Q))) (cIf (op == (4 : Int)) (cIf lf (cIf (k != (0 : Int)) (cIf (side == (0 : Int)) (WCut (Tryz.X76 m) (cd PP 76 [1, 1, 1, 1, 1, 1]) ([X, AV.ptr 0 0, X, X, X, X, Bo (n == (0 : Int))] ++ List.replicate 162 X) (St.mk [some (HB.cells [U op, U attr, U side, I n, AV.vs l len Tok.none] 71)] [] []) (kRet (Tryz.X76 m) 76 Q)) (WCut (Tryz.X76 m) (cd PP 76 [1, 1, 1, 1, 1, 1]) ([X, AV.ptr 0 0, X, X, X, X, Bo false] ++ List.replicate 162 X) (St.mk [some (HB.cells [U op, U attr, U side, I n, AV.vs l len Tok.none] 71)] [] []) (kRet (Tryz.X76 m) 76 Q))) (WCut (Tryz.X76 m) (cd PP 76 [1, 1, 1, 1, 1, 1]) ([X, AV.ptr 0 0, X, X, X, X, Bo false] ++ List.replicate 162 X) (St.mk [some (HB.cells [U op, U attr, U side, I n, AV.vs l len Tok.none] 71)] [] []) (kRet (Tryz.X76 m) 76 Q))) (WCut (Tryz.X76 m) (cd PP 76 [1, 1, 1, 1, 1, 1]) ([X, AV.ptr 0 0, X, X, X, X, Bo false] ++ List.replicate 162 X) (St.mk [some (HB.cells [U op, U attr, U side, I n, AV.vs l len Tok.none] 71)] [] []) (kRet (Tryz.X76 m) 76 Q))) (cIf (op == (5 : Int)) (cIf lf (cIf (k == (1 : Int)) (cIf sd (True ∧ WCut (Tryz.X76 m) (cd PP 76 [1, 1, 1, 1, 1, 1]) ([X, AV.ptr 0 0, X, X, X, X, Bo (inRngB attr n)] ++ List.replicate 162 X) (St.mk [some (HB.cells [U op, U attr, U side, I n, AV.vs l len Tok.none] 71)] [] []) (kRet (Tryz.X76 m) 76 Q)) (WCut (Tryz.X76 m) (cd PP 76 [1, 1, 1, 1, 1, 1]) ([X, AV.ptr 0 0, X, X, X, X, Bo false] ++ List.replicate 162 X) (St.mk [some (HB.cells [U op, U attr, U side, I n, AV.vs l len Tok.none] 71)] [] []) (kRet (Tryz.X76 m) 76 Q))) (cIf (k == (2 : Int)) (cIf sd (True ∧ WCut (Tryz.X76 m) (cd PP 76 [1, 1, 1, 1, 1, 1]) ([X, AV.ptr 0 0, X, X, X, X, Bo (inRngB attr n)] ++ List.replicate 162 X) (St.mk [some (HB.cells [U op, U attr, U side, I n, AV.vs l len Tok.none] 71)] [] []) (kRet (Tryz.X76 m) 76 Q)) (WCut (Tryz.X76 m) (cd PP 76 [1, 1, 1, 1, 1, 1]) ([X, AV.ptr 0 0, X, X, X, X, Bo false] ++ List.replicate 162 X) (St.mk [some (HB.cells [U op, U attr, U side, I n, AV.vs l len Tok.none] 71)] [] []) (kRet (Tryz.X76 m) 76 Q))) (WCut (Tryz.X76 m) (cd PP 76 [1, 1, 1, 1, 1, 1]) ([X, AV.ptr 0 0, X, X, X, X, Bo false] ++ List.replicate 162 X) (St.mk [some (HB.cells [U op, U attr, U side, I n, AV.vs l len Tok.none] 71)] [] []) (kRet (Tryz.X76 m) 76 Q)))) (WCut (Tryz.X76 m) (cd PP 76 [1, 1, 1, 1, 1, 1]) ([X, AV.ptr 0 0, X, X, X, X, Bo false] ++ List.replicate 162 X) (St.mk [some (HB.cells [U op, U attr, U side, I n, AV.vs l len Tok.none] 71)] [] []) (kRet (Tryz.X76 m) 76 Q))) (cIf (op == (6 : Int)) (cIf lf (cIf (k == (1 : Int)) (cIf sd (True ∧ WCut (Tryz.X76 m) (cd PP 76 [1, 1, 1, 1, 1, 1]) ([X, AV.ptr 0 0, X, X, X, X, Bo (inRngB attr n)] ++ List.replicate 162 X) (St.mk [some (HB.cells [U op, U attr, U side, I n, AV.vs l len Tok.none] 71)] [] []) (kRet (Tryz.X76 m) 76 Q)) (WCut (Tryz.X76 m) (cd PP 76 [1, 1, 1, 1, 1, 1]) ([X, AV.ptr 0 0, X, X, X, X, Bo false] ++ List.replicate 162 X) (St.mk [some (HB.cells [U op, U attr, U side, I n, AV.vs l len Tok.none] 71)] [] []) (kRet (Tryz.X76 m) 76 Q))) (WCut (Tryz.X76 m) (cd PP 76 [1, 1, 1, 1, 1, 1]) ([X, AV.ptr 0 0, X, X, X, X, Bo false] ++ List.replicate 162 X) (St.mk [some (HB.cells [U op, U attr, U side, I n, AV.vs l len Tok.none] 71)] [] []) (kRet (Tryz.X76 m) 76 Q))) (WCut (Tryz.X76 m) (cd PP 76 [1, 1, 1, 1, 1, 1]) ([X, AV.ptr 0 0, X, X, X, X, Bo false] ++ List.replicate 162 X) (St.mk [some (HB.cells [U op, U attr, U side, I n, AV.vs l len Tok.none] 71)] [] []) (kRet (Tryz.X76 m) 76 Q))) (cIf (op == (7 : Int)) (cIf ((↑len : Int) == (1 : Int)) (cIf (attr == (0 : Int)) (cIf (side == (0 : Int)) (WCut (Tryz.X76 m) (cd PP 76 [1, 1, 1, 1, 1, 1]) ([X, AV.ptr 0 0, X, X, X, X, Bo (n == (0 : Int))] ++ List.replicate 162 X) (St.mk [some (HB.cells [U op, U attr, U side, I n, AV.vs l len Tok.none] 71)] [] []) (kRet (Tryz.X76 m) 76 Q)) (WCut (Tryz.X76 m) (cd PP 76 [1, 1, 1, 1, 1, 1]) ([X, AV.ptr 0 0, X, X, X, X, Bo false] ++ List.replicate 162 X) (St.mk [some (HB.cells [U op, U attr, U side, I n, AV.vs l len Tok.none] 71)] [] []) (kRet (Tryz.X76 m) 76 Q))) (WCut (Tryz.X76 m) (cd PP 76 [1, 1, 1, 1, 1, 1]) ([X, AV.ptr 0 0, X, X, X, X, Bo false] ++ List.replicate 162 X) (St.mk [some (HB.cells [U op, U attr, U side, I n, AV.vs l len Tok.none] 71)] [] []) (kRet (Tryz.X76 m) 76 Q))) (WCut (Tryz.X76 m) (cd PP 76 [1, 1, 1, 1, 1, 1]) ([X, AV.ptr 0 0, X, X, X, X, Bo false] ++ List.replicate 162 X) (St.mk [some (HB.cells [U op, U attr, U side, I n, AV.vs l len Tok.none] 71)] [] []) (kRet (Tryz.X76 m) 76 Q))) (cIf (op == (8 : Int)) (cIf (op == (8 : Int)) (cIf (decide ((↑len : Int) ≥ (2 : Int))) (cIf (attr == (0 : Int)) (cIf (side == (0 : Int)) (WCut (Tryz.X76 m) (cd PP 76 [1, 1, 1, 1, 1, 1]) ([X, AV.ptr 0 0, X, X, X, X, Bo (n == (0 : Int))] ++ List.replicate 162 X) (St.mk [some (HB.cells [U op, U attr, U side, I n, AV.vs l len Tok.none] 71)] [] []) (kRet (Tryz.X76 m) 76 Q)) (WCut (Tryz.X76 m) (cd PP 76 [1, 1, 1, 1, 1, 1]) ([X, AV.ptr 0 0, X, X, X, X, Bo false] ++ List.replicate 162 X) (St.mk [some (HB.cells [U op, U attr, U side, I n, AV.vs l len Tok.none] 71)] [] []) (kRet (Tryz.X76 m) 76 Q))) (WCut (Tryz.X76 m) (cd PP 76 [1, 1, 1, 1, 1, 1]) ([X, AV.ptr 0 0, X, X, X, X, Bo false] ++ List.replicate 162 X) (St.mk [some (HB.cells [U op, U attr, U side, I n, AV.vs l len Tok.none] 71)] [] []) (kRet (Tryz.X76 m) 76 Q))) (WCut (Tryz.X76 m) (cd PP 76 [1, 1, 1, 1, 1, 1]) ([X, AV.ptr 0 0, X, X, X, X, Bo false] ++ List.replicate 162 X) (St.mk [some (HB.cells [U op, U attr, U side, I n, AV.vs l len Tok.none] 71)] [] []) (kRet (Tryz.X76 m) 76 Q))) (WCut (Tryz.X76 m) (cd PP 76 [1, 1, 1, 1, 1, 1]) ([X, AV.ptr 0 0, X, X, X, X, Bo false] ++ List.replicate 162 X) (St.mk [some (HB.cells [U op, U attr, U side, I n, AV.vs l len Tok.none] 71)] [] []) (kRet (Tryz.X76 m) 76 Q))) (cIf (op == (9 : Int)) (cIf (decide ((↑len : Int) ≥ (2 : Int))) (cIf (attr == (0 : Int)) (cIf (side == (0 : Int)) (WCut (Tryz.X76 m) (cd PP 76 [1, 1, 1, 1, 1, 1]) ([X, AV.ptr 0 0, X, X, X, X, Bo (n == (0 : Int))] ++ List.replicate 162 X) (St.mk [some (HB.cells [U op, U attr, U side, I n, AV.vs l len Tok.none] 71)] [] []) (kRet (Tryz.X76 m) 76 Q)) (WCut (Tryz.X76 m) (cd PP 76 [1, 1, 1, 1, 1, 1]) ([X, AV.ptr 0 0, X, X, X, X, Bo false] ++ List.replicate 162 X) (St.mk [some (HB.cells [U op, U attr, U side, I n, AV.vs l len Tok.none] 71)] [] []) (kRet (Tryz.X76 m) 76 Q))) (WCut (Tryz.X76 m) (cd PP 76 [1, 1, 1, 1, 1, 1]) ([X, AV.ptr 0 0, X, X, X, X, Bo false] ++ List.replicate 162 X) (St.mk [some (HB.cells [U op, U attr, U side, I n, AV.vs l len Tok.none] 71)] [] []) (kRet (Tryz.X76 m) 76 Q))) (WCut (Tryz.X76 m) (cd PP 76 [1, 1, 1, 1, 1, 1]) ([X, AV.ptr 0 0, X, X, X, X, Bo false] ++ List.replicate 162 X) (St.mk [some (HB.cells [U op, U attr, U side, I n, AV.vs l len Tok.none] 71)] [] []) (kRet (Tryz.X76 m) 76 Q))) (WCut (Tryz.X76 m) (cd PP 76 [1, 1, 1, 1, 1, 1]) ([X, AV.ptr 0 0, X, X, X, X, Bo false] ++ List.replicate 162 X) (St.mk [some (HB.cells [U op, U attr, U side, I n, AV.vs l len Tok.none] 71)] [] []) (kRet (Tryz.X76 m) 76 Q))))))))))) := by kernel_rfl
theorem v76b (m : Nat) (op attr side n : Int) (l : List AV) (len : Nat) (ok : Bool) (Q : CR → Prop) : wpC (Tryz.X76 m) (cd PP 76 [1, 1, 1, 1, 1, 1]) ([X, .ptr 0 0, X, X, X, X, Bo ok] ++ List.replicate 162 X) ⟨[some (.cells [U op, U attr, U side, I n, .vs l len .none] 71)], [], []⟩ (kRet (Tryz.X76 m) 76 Q) =
  (cIf ok ((∃ (ts : List Tst), l = encTs ts ∧ len = ts.length ∧ wfTs ts ∧ ts.length ≤ 9223372036854775807 ∧ avSizeL l + 1 < m) ∧ Q (CR.ret (Bo !onEnc encTs (fun (ts : List Tst) => decide (nshL ts (0 : Int) ≥ (0 : Int))) false l))) (Q (CR.ret (Bo false)))) := by kernel_rfl
end Go.Proofs
/-! C9 -/
set_option maxRecDepth 100000
set_option linter.unusedVariables false
namespace Go.Proofs
open Go Go.Ev
theorem ct120 : Ct Tryz.B.c0 120 R120 := Ct.of_wp (lm := []) Tryz.bok ((Cts.nil _).cons ct112) ⟨_, _, Tryz.func120, rfl⟩ fun args D r hR hD => by
  unfold R120 at hR
  split at hR <;> cases hR
  refine ⟨rfl, (v120 _ _ _).mpr (cIf_intro (fun h => cIf_intro (fun h1 => ?_) (fun h1 => ?_)) (fun h => cIf_intro (fun h1 => cIf_intro (fun h2 => ?_) (fun h2 => ?_)) (fun h1 => ⟨trivial, cIf_intro (fun h2 => ?_) (fun h2 => ?_)⟩)))⟩
  all_goals (apply rB_eq; simp [inRngB] at *; simp [*]; try omega)
theorem c122 {m : Nat} (hc : Cts Tryz.B [(76, R76.below m)]) : Ct Tryz.B.c0 122 (R122 m) := Ct.of_wp (lm := []) Tryz.bok hc ⟨_, _, Tryz.func122, rfl⟩ fun args D r hR hD => by
  unfold R122 at hR
  split at hR <;> cases hR
  obtain ⟨⟨⟨op, attr, side, k, of⟩, rfl, hw⟩, hs⟩ := hD
  refine ⟨by simp [noHL, noH, noH_encT], ?_⟩
  rw [show scrubL 0 [AV.agg (encT (.mk op attr side k of))] = [AV.agg (encT (.mk op attr side k of))] by simp [scrubL, scrub, sc_encT]]
  refine (v122 m op attr side k _ _ _).mpr ?_
  rw [show [U op, U attr, U side, I k, AV.vs (encTs of) of.length Tok.none] = encT (.mk op attr side k of) from rfl]
  refine ⟨⟨⟨_, rfl, hw⟩, ?_⟩, rfl⟩
  simp only [List.nil_append, List.append_nil, avSizeL, avSize] at *
  omega
theorem nsh_loop {m : Nat} (hc : Cts Tryz.B [(122, R122 m)]) {of : List Tst} (hlen : of.length ≤ 9223372036854775807) (hwf : wfTs of) (hsz : avSizeL (encTs of) + 1 < m) (tk : Tok) {Q : CR → Prop} : ∀ (d i : Nat), of.length - i = d → i ≤ of.length → Q (rI (nshL (of.drop i) i)) →
    WLoop (Tryz.X156 m) (cd PP 156 [1, 0, 1, 0, 0]) ([.vs (encTs of) of.length tk, .fn (.func 122) [] [], X, X, X, X, X, I of.length, I i] ++ List.replicate 10 X) ⟨[], [], []⟩ (kBlock 0 (kSeq (Tryz.X156 m) (cd PP 156 [1, 1]) (kRet (Tryz.X156 m) 156 Q))) := by
  intro d
  induction d with
  | zero =>
    intro i hd hi hQ
    have hi' : i = of.length := by omega
    subst hi'
    refine WLoop_step Tryz.bok hc ((v156l m _ _ _ tk Q).mpr (cIf_neg (by simp) ?_))
    simpa [nshL] using hQ
  | succ d ih =>
    intro i hd hi hQ
    have hlt : i < of.length := by omega
    obtain ⟨x, hx, hdr⟩ := drop_cons hlt
    rw [hdr] at hQ
    refine WLoop_step Tryz.bok hc ((v156l m _ _ _ tk Q).mpr (cIf_pos (by simp; omega) ?_))
    refine cIf_pos (by simpa using hlt) (cIf_pos (by simp [encTs_len]) (cIf_pos (by have := enc_drop_len (encTs_len of) hlt; simpa using this) ?_))
    rw [encTs_el hx, encT_w]
    have hs := size_get hx
    refine cIf_pos (encT_like x) ⟨⟨⟨x, rfl, wfTs_get hwf hx⟩, by omega⟩, ?_⟩
    rw [onEnc_eq (fun _ _ => encT_inj _ _), wrap_id (x := (i : Int) + 1) (by omega) (by omega)]
    refine cIf_intro (fun h => ?_) (fun h => ?_)
    · have h : shT x = false := by simpa using h
      simpa [nshL, h] using hQ
    · have h : shT x = true := by simpa using h
      refine ih (i + 1) (by omega) (by omega) ?_
      simpa [nshL, h] using hQ
theorem c156 {m : Nat} (hc : Cts Tryz.B [(122, R122 m)]) : Ct Tryz.B.c0 156 (R156 m) := Ct.of_wp (lm := [(2, [0, 1, 7, 8]), (7, [])]) Tryz.bok hc ⟨_, _, Tryz.func156, rfl⟩ fun args D r hR hD => by
  unfold R156 at hR
  split at hR <;> cases hR
  rename_i tk
  obtain ⟨ts, rfl, rfl, hw, hl, hs⟩ := hD
  refine ⟨by simp [noHL, noH, noH_encTs], ?_⟩
  rw [show scrubL 0 [AV.vs (encTs ts) ts.length tk, .fn (.func 122) [] []] = [AV.vs (encTs ts) ts.length (tk.scrub 0), .fn (.func 122) [] []] by simp [scrubL, scrub, sc_encTs], onEnc_eq encTs_inj]
  exact (v156 m _ _ _ _).mpr (nsh_loop hc hl hw hs _ _ 0 rfl (Nat.zero_le _) rfl)
theorem c121 {m : Nat} (hc : Cts Tryz.B [(156, R156 m)]) : Ct Tryz.B.c0 121 (R121 m) := Ct.of_wp (lm := []) Tryz.bok hc ⟨_, _, Tryz.func121, rfl⟩ fun args D r hR hD => by
  unfold R121 at hR
  split at hR <;> cases hR
  rename_i tk
  obtain ⟨ts, rfl, rfl, hw, hl, hs⟩ := hD
  refine ⟨by simp [noHL, noH, noH_encTs], ?_⟩
  rw [show scrubL 0 [AV.vs (encTs ts) ts.length tk, .fn (.func 122) [] []] = [AV.vs (encTs ts) ts.length (tk.scrub 0), .fn (.func 122) [] []] by simp [scrubL, scrub, sc_encTs], onEnc_eq encTs_inj]
  refine (v121 m _ _ _ _).mpr ⟨⟨ts, rfl, rfl, hw, hl, hs⟩, ?_⟩
  rw [onEnc_eq encTs_inj]
theorem nshL_all : ∀ (l : List Tst) (i : Int), 0 ≤ i → (!decide (nshL l i ≥ 0)) = shTs l
  | [], i, h => by simp [nshL, shTs]
  | t :: l, i, h => by
    simp only [nshL, shTs]
    split
    · rename_i hc
      rw [nshL_all l (i + 1) (by omega), hc]; rfl
    · rename_i hc
      simp [hc, h]
theorem kind_lo (a : Int) : (decide (a = 1) || decide (a = 2)) = (kindI a == 1) := by
  rw [Bool.eq_iff_iff]; simp [kindI]; split <;> (try split) <;> (try split) <;> (simp; omega)
theorem kind_mk (a : Int) : (decide (3 ≤ a) && decide (a ≤ 5)) = (kindI a == 2) := by
  rw [Bool.eq_iff_iff]; simp [kindI]; split <;> (try split) <;> (try split) <;> (simp; omega)
theorem kind_od (a : Int) : (decide (a = 6) || decide (a = 7)) = (kindI a == 3) := by
  rw [Bool.eq_iff_iff]; simp [kindI]; split <;> (try split) <;> (try split) <;> (simp; omega)
theorem rng_val {a n : Int} (h : kindI a = 1 ∨ kindI a = 2) : inRngB a n = valI a n := by
  unfold inRngB valI
  split
  · rfl
  split
  · rfl
  · rcases h with h | h
    · exfalso; simp only [kindI] at h; split at h <;> (try split at h) <;> (try split at h) <;> omega
    · simp [h]; rfl
theorem kind_range (a : Int) : kindI a = 0 ∨ kindI a = 1 ∨ kindI a = 2 ∨ kindI a = 3 := by
  unfold kindI; split <;> (try split) <;> (try split) <;> omega
section
variable {m : Nat} (hc : Cts Tryz.B [(112, R112), (120, R120), (121, R121 m)]) {op attr side n : Int} {of : List Tst} (hlen : of.length ≤ 9223372036854775807) (hwf : wfTs of) (hsz : avSizeL (encTs of) + 1 < m) {Q : CR → Prop}
include hc hlen hwf hsz
theorem shp_b (ok : Bool) (hQ : Q (rB (ok && shTs of))) : WCut (Tryz.X76 m) (cd PP 76 [1, 1, 1, 1, 1, 1]) ([X, .ptr 0 0, X, X, X, X, Bo ok] ++ List.replicate 162 X) ⟨[some (.cells [U op, U attr, U side, I n, .vs (encTs of) of.length .none] 71)], [], []⟩ (kRet (Tryz.X76 m) 76 Q) := by
  refine WCut_step Tryz.bok hc ((v76b m op attr side n _ _ ok Q).mpr (cIf_intro (fun h => ?_) (fun h => ?_)))
  · subst h
    refine ⟨⟨of, rfl, rfl, hwf, hlen, hsz⟩, ?_⟩
    rw [onEnc_eq encTs_inj, nshL_all of 0 (by omega)]
    simpa using hQ
  · subst h
    simpa using hQ
set_option maxHeartbeats 8000000 in
theorem shp_a (lf sd : Bool) (hlf : lf = decide (of.length = 0)) (hsd : sd = (decide (side = 1) || decide (side = 2))) (hQ : Q (rB (nodeB op attr side n of.length && shTs of))) : WCut (Tryz.X76 m) (cd PP 76 [1, 1, 1, 1]) ([X, .ptr 0 0, X, I (kindI attr), Bo lf, Bo sd] ++ List.replicate 163 X) ⟨[some (.cells [U op, U attr, U side, I n, .vs (encTs of) of.length .none] 71)], [], []⟩ (kRet (Tryz.X76 m) 76 Q) := by
  have hkr := kind_range attr
  have hrv := @rng_val attr n
  unfold nodeB at hQ
  rw [kind_lo, kind_mk, kind_od, ← hsd] at hQ
  refine WCut_step Tryz.bok hc ((v76a m op attr side n (kindI attr) _ _ lf sd Q).mpr ?_)
  generalize kindI attr = k at *
  generalize inRngB attr n = ir at *
  generalize valI attr n = va at *
  repeat' (refine cIf_intro (fun h => ?_) (fun h => ?_))
  all_goals (try (refine ⟨trivial, ?_⟩))
  repeat' (refine cIf_intro (fun h => ?_) (fun h => ?_))
  all_goals (refine shp_b hc hlen hwf hsz _ ((congrArg Q (rB_eq ?_)).mpr hQ))
  all_goals (clear hQ hc hlen hwf hsz hsd; simp only [beq_iff_eq, beq_eq_false_iff_ne, ne_eq, bne_iff_ne, bne_eq_false_iff_eq] at *)
  all_goals (simp_all [nodeBx] <;> omega)
end
set_option maxHeartbeats 2000000 in
theorem ct76 : Ct Tryz.B.c0 76 R76 := Ct.of_rec' ⟨_, _, Tryz.func76, rfl⟩ fun m args D r h76 hR hD hm => by
  unfold R76 at hR
  split at hR <;> cases hR
  obtain ⟨⟨op, attr, side, k, of⟩, rfl, hw⟩ := hD
  simp only [wfT] at hw
  have hc : Cts Tryz.B [(112, R112), (120, R120), (121, R121 m)] :=
    (((Cts.nil _).cons (c121 ((Cts.nil _).cons (c156 ((Cts.nil _).cons (c122 ((Cts.nil _).cons h76))))))).cons ct120).cons ct112
  refine ⟨by simp [noHL, noH, noH_encT], call_of_wp (lm := [(4, [1, 3, 4, 5]), (22, [1, 6])]) (tp := []) (ct := [4, 22]) (sm := []) Tryz.bok hc ?_⟩
  rw [show scrubL 0 [AV.agg (encT (.mk op attr side k of))] = [AV.agg (encT (.mk op attr side k of))] by simp [scrubL, scrub, sc_encT]]
  rw [onEnc_eq (fun _ _ => encT_inj _ _)]
  have hsz : avSizeL (encTs of) + 1 < m := by simp only [avSizeL, avSize, encT] at hm; omega
  refine (v76 m op attr side k _ _ _).mpr ⟨trivial, cIf_intro (fun h => ?_) (fun h => ?_)⟩
  · simp only [beq_iff_eq] at h
    exact shp_a hc hw.2.2.2.2.2.2.2.2.1 hw.2.2.2.2.2.2.2.2.2 hsz _ _ (by rw [Bool.eq_iff_iff]; simp) (by simp [h]) rfl
  · simp only [beq_eq_false_iff_ne, ne_eq] at h
    exact shp_a hc hw.2.2.2.2.2.2.2.2.1 hw.2.2.2.2.2.2.2.2.2 hsz _ _ (by rw [Bool.eq_iff_iff]; simp) (by simp [h]; rfl) rfl
end Go.Proofs
/-! VC10 -/
set_option maxRecDepth 100000
set_option linter.unusedVariables false
namespace Go.Proofs
open Go Go.Ev
noncomputable def R74 : Spc := fun args => match args with
  | [.agg l, .vp [.str b, .int .i64 _, .int .i64 _, .int .u8 _, .int .u8 _, .int .u8 _, .int .i64 _, .vs vl _ .none]] => some ((∃ x, l = encR x) ∧ noHL 0 vl = true ∧ scrubL 0 vl = vl, rB (onEnc encR (fun x => x.name == b) false l))
  | _ => none
/-- The first rule of a name. -/
def fnm (s : List UInt8) : List Rul → Int → Int
  | [], _ => -1
  | x :: l, i => if (x.name == s) = true then i else fnm s l (i + 1)
noncomputable def R119 : Spc := fun args => match args with
  | [.vs l len .none, .fn (.func 74) [] [.vp [.str b, .int .i64 r, .int .i64 w, .int .u8 op, .int .u8 at', .int .u8 sd, .int .i64 n, .vs vl vn .none]]] => some ((∃ rs, l = encRs rs ∧ len = rs.length ∧ rs.length ≤ 9223372036854775807) ∧ noHL 0 vl = true ∧ scrubL 0 vl = vl, rI (onEnc encRs (fun rs => fnm b rs 0) 0 l))
  | _ => none
noncomputable def R73 : Spc := fun args => match args with
  | [.vs l len .none, .fn (.func 74) [] [.vp [.str b, .int .i64 r, .int .i64 w, .int .u8 op, .int .u8 at', .int .u8 sd, .int .i64 n, .vs vl vn .none]]] => some ((∃ rs, l = encRs rs ∧ len = rs.length ∧ rs.length ≤ 9223372036854775807) ∧ noHL 0 vl = true ∧ scrubL 0 vl = vl, rB (onEnc encRs (fun rs => decide (fnm b rs 0 ≥ 0)) false l))
  | _ => none
noncomputable def Tryz.X74 : WCx := Tryz.B.wcx []
noncomputable def Tryz.X119 : WCx := Tryz.B.wcx [(74, R74)] [(2, [0, 1, 7, 8]), (7, [])]
noncomputable def Tryz.X73 : WCx := Tryz.B.wcx [(119, R119)]
theorem v74 (a b : List UInt8) (r w op at' sd n r2 w2 op2 at2 sd2 n2 : Int) (l l2 : List AV) (k k2 : Nat) (Q : CR → Prop) : wpF Tryz.X74 74 [.agg [.str a, I r, I w, U op, U at', U sd, I n, .vs l k .none], .vp [.str b, I r2, I w2, U op2, U at2, U sd2, I n2, .vs l2 k2 .none]] Q =
  (Q (CR.ret (AV.bool (a == cS [AV.str b, I r2, I w2, U op2, U at2, U sd2, I n2, AV.vs l2 k2 Tok.none] 0)))) := by kernel_rfl
theorem v119 (b : List UInt8) (r w op at' sd n : Int) (vl : List AV) (vn : Nat) (l : List AV) (len : Nat) (Q : CR → Prop) : wpF Tryz.X119 119 [.vs l len .none, .fn (.func 74) [] [.vp [.str b, I r, I w, U op, U at', U sd, I n, .vs vl vn .none]]] Q =
  (WLoop Tryz.X119 (cd Tryz.X119.P 119 [1, 0, 1, 0, 0]) ([AV.vs l len Tok.none, AV.fn (Fn.func 74) [] [AV.vp [AV.str b, I r, I w, U op, U at', U sd, I n, AV.vs vl vn Tok.none]], X, X, X, X, X, I (↑len : Int), I (0 : Int)] ++ List.replicate 10 X) (St.mk [] [] []) (kBlock 0 (kSeq Tryz.X119 (cd Tryz.X119.P 119 [1, 1]) (kRet Tryz.X119 119 Q)))) := by kernel_rfl
theorem v119l (b : List UInt8) (r w op at' sd n : Int) (vl : List AV) (vn : Nat) (l : List AV) (len i : Nat) (Q : CR → Prop) : wpC Tryz.X119 (cd PP 119 [1, 0, 1, 0, 0]) ([.vs l len .none, .fn (.func 74) [] [.vp [.str b, I r, I w, U op, U at', U sd, I n, .vs vl vn .none]], X, X, X, X, X, I len, I i] ++ List.replicate 10 X) ⟨[], [], []⟩ (kLoop Tryz.X119 (cd PP 119 [1, 0, 1, 0, 0]) (kBlock 0 (kSeq Tryz.X119 (cd PP 119 [1, 1]) (kRet Tryz.X119 119 Q)))) =
  (cIf (decide ((↑i : Int) < (↑len : Int))) (cIf (decide (i < len)) (cIf (decide (len * 8 = l.length)) (cIf (decide (8 ≤ (List.drop (i * 8) l).length)) (cIf (like zR (el (List.drop (i * 8) l) 0 8)) (((∃ (x : Rul), (elR (el (List.drop (i * 8) l) 0 8)) = encR x) ∧ noHL 0 vl = true ∧ scrubL 0 vl = vl) ∧ cIf (onEnc encR (fun (x : Rul) => x.name == b) false (elR (el (List.drop (i * 8) l) 0 8))) (Q (CR.ret (I (↑i : Int)))) (WLoop Tryz.X119 (cd PP 119 [1, 0, 1, 0, 0]) ([AV.vs l len Tok.none, AV.fn (Fn.func 74) [] [AV.vp [AV.str b, I r, I w, U op, U at', U sd, I n, AV.vs vl vn Tok.none]], X, X, X, X, X, I (↑len : Int), I (IntKind.i64.wrap ((↑i : Int) + (1 : Int)))] ++ List.replicate 10 X) (St.mk [] [] []) (kBlock 0 (kSeq Tryz.X119 (cd PP 119 [1, 1]) (kRet Tryz.X119 119 Q))))) False) False) False) False) (Q (CR.ret (I (-1 : Int))))) := by kernel_rfl
theorem v73 (b : List UInt8) (r w op at' sd n : Int) (vl : List AV) (vn : Nat) (l : List AV) (len : Nat) (Q : CR → Prop) : wpF Tryz.X73 73 [.vs l len .none, .fn (.func 74) [] [.vp [.str b, I r, I w, U op, U at', U sd, I n, .vs vl vn .none]]] Q =
  (((∃ (rs : List Rul), l = encRs rs ∧ len = rs.length ∧ rs.length ≤ 9223372036854775807) ∧ noHL 0 vl = true ∧ scrubL 0 vl = vl) ∧ Q (CR.ret (Bo (decide (onEnc encRs (fun (rs : List Rul) => fnm b rs (0 : Int)) (0 : Int) l ≥ (0 : Int)))))) := by kernel_rfl
end Go.Proofs
/-! C10 -/
set_option maxRecDepth 100000
set_option linter.unusedVariables false
namespace Go.Proofs
open Go Go.Ev
theorem ct74 : Ct Tryz.B.c0 74 R74 := Ct.of_wp (lm := []) Tryz.bok (Cts.nil _) ⟨_, _, Tryz.func74, rfl⟩ fun args D r hR hD => by
  unfold R74 at hR
  split at hR <;> cases hR
  obtain ⟨⟨x, rfl⟩, h1, h2⟩ := hD
  refine ⟨by simp [noHL, noH, noH_encR, h1], ?_⟩
  rename_i b r w op at' sd n vl vn
  rw [show scrubL 0 [AV.agg (encR x), .vp [.str b, I r, I w, U op, U at', U sd, I n, .vs vl vn .none]] = [AV.agg (encR x), .vp [.str b, I r, I w, U op, U at', U sd, I n, .vs vl vn .none]] by simp [scrubL, scrub, sc_encR, h2, Tok.scrub], onEnc_eq (fun _ _ => encR_inj)]
  exact (v74 _ _ _ _ _ _ _ _ _ _ _ _ _ _ _ _ _ _ _).mpr rfl
section
variable {rs : List Rul} (hlen : rs.length ≤ 9223372036854775807) {b : List UInt8} {r w op at' sd n : Int} {vl : List AV} {vn : Nat} (h1 : noHL 0 vl = true) (h2 : scrubL 0 vl = vl)
include hlen h1 h2
theorem fnm_loop {Q : CR → Prop} : ∀ (d i : Nat), rs.length - i = d → i ≤ rs.length → Q (rI (fnm b (rs.drop i) i)) →
    WLoop Tryz.X119 (cd PP 119 [1, 0, 1, 0, 0]) ([.vs (encRs rs) rs.length .none, .fn (.func 74) [] [.vp [.str b, I r, I w, U op, U at', U sd, I n, .vs vl vn .none]], X, X, X, X, X, I rs.length, I i] ++ List.replicate 10 X) ⟨[], [], []⟩ (kBlock 0 (kSeq Tryz.X119 (cd PP 119 [1, 1]) (kRet Tryz.X119 119 Q))) := by
  have hc : Cts Tryz.B [(74, R74)] := (Cts.nil _).cons ct74
  intro d
  induction d with
  | zero =>
    intro i hd hi hQ
    have hi' : i = rs.length := by omega
    subst hi'
    refine WLoop_step Tryz.bok hc ((v119l _ _ _ _ _ _ _ _ _ _ _ _ Q).mpr (cIf_neg (by simp) ?_))
    simpa [fnm] using hQ
  | succ d ih =>
    intro i hd hi hQ
    have hlt : i < rs.length := by omega
    obtain ⟨x, hx, hdr⟩ := drop_cons hlt
    rw [hdr] at hQ
    refine WLoop_step Tryz.bok hc ((v119l _ _ _ _ _ _ _ _ _ _ _ _ Q).mpr (cIf_pos (by simp; omega) ?_))
    refine cIf_pos (by simpa using hlt) (cIf_pos (by simp [encRs_len]) (cIf_pos (by have := enc_drop_len (encRs_len rs) hlt; simpa using this) ?_))
    rw [encRs_el hx, encR_w]
    refine cIf_pos (encR_like x) ⟨⟨⟨x, rfl⟩, h1, h2⟩, ?_⟩
    rw [onEnc_eq (fun _ _ => encR_inj), wrap_id (x := (i : Int) + 1) (by omega) (by omega)]
    refine cIf_intro (fun h => ?_) (fun h => ?_)
    · simpa [fnm, h] using hQ
    · refine ih (i + 1) (by omega) (by omega) ?_
      simpa [fnm, h] using hQ
end
theorem ct119 : Ct Tryz.B.c0 119 R119 := Ct.of_wp (lm := [(2, [0, 1, 7, 8]), (7, [])]) Tryz.bok ((Cts.nil _).cons ct74) ⟨_, _, Tryz.func119, rfl⟩ fun args D r hR hD => by
  unfold R119 at hR
  split at hR <;> cases hR
  obtain ⟨⟨rs, rfl, rfl, hl⟩, h1, h2⟩ := hD
  rename_i b r w op at' sd n vl vn
  refine ⟨by simp [noHL, noH, noH_encRs, h1], ?_⟩
  rw [show scrubL 0 [AV.vs (encRs rs) rs.length .none, .fn (.func 74) [] [.vp [.str b, I r, I w, U op, U at', U sd, I n, .vs vl vn .none]]] = [AV.vs (encRs rs) rs.length .none, .fn (.func 74) [] [.vp [.str b, I r, I w, U op, U at', U sd, I n, .vs vl vn .none]]] by simp [scrubL, scrub, sc_encRs, h2, Tok.scrub], onEnc_eq encRs_inj]
  exact (v119 _ _ _ _ _ _ _ _ _ _ _ _).mpr (fnm_loop hl h1 h2 _ 0 rfl (Nat.zero_le _) rfl)
theorem ct73 : Ct Tryz.B.c0 73 R73 := Ct.of_wp (lm := []) Tryz.bok ((Cts.nil _).cons ct119) ⟨_, _, Tryz.func73, rfl⟩ fun args D r hR hD => by
  unfold R73 at hR
  split at hR <;> cases hR
  obtain ⟨⟨rs, rfl, rfl, hl⟩, h1, h2⟩ := hD
  rename_i b r w op at' sd n vl vn
  refine ⟨by simp [noHL, noH, noH_encRs, h1], ?_⟩
  rw [show scrubL 0 [AV.vs (encRs rs) rs.length .none, .fn (.func 74) [] [.vp [.str b, I r, I w, U op, U at', U sd, I n, .vs vl vn .none]]] = [AV.vs (encRs rs) rs.length .none, .fn (.func 74) [] [.vp [.str b, I r, I w, U op, U at', U sd, I n, .vs vl vn .none]]] by simp [scrubL, scrub, sc_encRs, h2, Tok.scrub], onEnc_eq encRs_inj]
  refine (v73 _ _ _ _ _ _ _ _ _ _ _ _).mpr ⟨⟨⟨rs, rfl, rfl, hl⟩, h1, h2⟩, ?_⟩
  rw [onEnc_eq encRs_inj]
theorem hook73 : HookOk Tryz.B.c0 73 (specS R73) := ct73.hookS Tryz.gtpB fun args D r hR hD => by
  unfold R73 at hR
  split at hR <;> cases hR
  obtain ⟨⟨rs, rfl, rfl, hl⟩, h1, h2⟩ := hD
  simp [scrubL, scrub, sc_encRs, h2, Tok.scrub]
/-- The base with the calls that read blocks. -/
noncomputable def Tryz.BS : Base := { Tryz.B with hw := fun g => match Nat.beq g 73 with | true => some (specS R73) | false => none }
theorem Tryz.bsok : BaseOk Tryz.BS where
  eqt := Tryz.bok.eqt
  codes := Tryz.bok.codes
  nat := Tryz.bok.nat
  mixed := Tryz.bok.mixed
  names := Tryz.bok.names
  gtp := Tryz.bok.gtp
  hw := fun g W h => by
    simp only [Tryz.BS] at h
    split at h
    · rename_i hg
      have := Nat.eq_of_beq_eq_true hg
      subst this
      cases h
      exact hook73
    · cases h
end Go.Proofs
