/- Contracts of functions of the program and of the reference. -/
import Derived.Test.YtdpfgjljehajbaaGreatDoorK2
import Derived.Test.YtdpfgjljehajbaaGreatDoorKD
set_option linter.unusedVariables false
set_option linter.unusedSimpArgs false
/-! VTR -/
set_option maxRecDepth 100000
set_option linter.unusedVariables false
set_option linter.unusedSimpArgs false
namespace Go.Proofs
open Go Go.Ev
def R87 : Spc := fun args => match args with
  | [.int .i64 f, .int .i64 u] => some (True, rB (rangedB f u))
  | _ => none
noncomputable def R125 : Spc := fun args => match args with
  | [.vs l n .none] => some (∃ x, l = encL encT x ∧ n = x.length ∧ x.length ≤ 1000000, rB (onEnc (encL encT) nrmB false l))
  | _ => none
noncomputable def R59 : Spc := fun args => match args with
  | [.int .i64 f, .int .i64 u, .vs l n .none] => some (∃ x, l = encL encT x ∧ n = x.length ∧ x.length ≤ 1000000, rB (onEnc (encL encT) (chkT f u) false l))
  | _ => none
noncomputable def R71 : Spc := fun args => match args with
  | [.vs l n .none, .int .i64 u, .agg [.int .i64 a, .bool b]] => some (∃ x, l = encL encT x ∧ n = x.length ∧ x.length ≤ 1000000, rI (onEnc (encL encT) (fun x => spentV x u ⟨a, b⟩) 0 l))
  | _ => none
def lm87 : List (Nat × List Nat) := []
noncomputable def Tryz.X87 : WCx := Tryz.B.wcx [] lm87 [] [] []
def lm125 : List (Nat × List Nat) := [(2, [0, 5, 6, 7]), (7, [0])]
noncomputable def Tryz.X125 : WCx := Tryz.B.wcx [(115, R115)] lm125 [] [] [(2, 0)]
def lm59 : List (Nat × List Nat) := []
noncomputable def Tryz.X59 : WCx := Tryz.B.wcx [(87, R87), (125, R125)] lm59 [] [] []
def lm70 : List (Nat × List Nat) := []
noncomputable def Tryz.X70 : WCx := Tryz.B.wcx [(93, R87), (136, R125)] lm70 [] [] []
def lm71 : List (Nat × List Nat) := [(5, [0, 1, 5, 7, 24, 25, 26]), (13, [7])]
noncomputable def Tryz.X71 : WCx := Tryz.B.wcx [(59, R59)] lm71 [] [] [(5, 1)]
def lm72 : List (Nat × List Nat) := [(5, [0, 1, 5, 7, 8]), (12, [7])]
noncomputable def Tryz.X72 : WCx := Tryz.B.wcx [(70, R59)] lm72 [] [] [(5, 1)]
theorem v87 (f u : Int) (Q : CR → Prop) : wpF Tryz.X87 87 [I f, I u] Q =
  (cIf (decide (f ≥ (0 : Int))) (cIf (decide (f < u)) (Q (CR.ret (Bo (decide (u ≤ (144001440 : Int)))))) (Q (CR.ret (Bo false)))) (Q (CR.ret (Bo false)))) := by kernel_rfl
theorem v125 (l : List AV) (len : Nat) (Q : CR → Prop) : wpF Tryz.X125 125 [.vs l len .none] Q =
  (cIf (noHL 0 ([AV.vs l len Tok.none, X, X, X, X, AV.vs l len Tok.none, I (↑len : Int), I (0 : Int)] ++ List.replicate 38 X)) (WLoop Tryz.X125 (cd Tryz.X125.P 125 [1, 0, 1, 0, 0]) ([AV.vs l len Tok.none, X, X, X, X, AV.vs l len Tok.none, I (↑len : Int), I (0 : Int)] ++ List.replicate 38 X) (St.mk [] [] []) (kBlock 0 (kSeq Tryz.X125 (cd Tryz.X125.P 125 [1, 1]) (kRet Tryz.X125 125 Q)))) False) := by kernel_rfl
theorem v125l (l : List AV) (len i : Nat) (Q : CR → Prop) : wpC Tryz.X125 (cd PP 125 [1, 0, 1, 0, 0]) ([.vs l len .none, X, X, X, X, .vs l len .none, I len, I i] ++ List.replicate 38 X) ⟨[], [], []⟩ (kLoop Tryz.X125 (cd PP 125 [1, 0, 1, 0, 0]) (kBlock 0 (kSeq Tryz.X125 (cd PP 125 [1, 1]) (kRet Tryz.X125 125 Q)))) =
  (cIf (decide ((↑i : Int) < (↑len : Int))) (cIf (decide (i < len)) (cIf (decide (len * 3 = l.length)) (cIf (decide (3 ≤ (List.drop (i * 3) l).length)) (cIf (like [I (0 : Int), I (0 : Int), Bo false] (el (List.drop (i * 3) l) 0 3)) (True ∧ St.mk [some (HB.cells [I (cI (el (List.drop (i * 3) l) 0 3) 0), I (cI (el (List.drop (i * 3) l) 0 3) 1), Bo (cB (el (List.drop (i * 3) l) 0 3) 2)] 77)] [] [0] = St.mk [some (HB.cells [I (cI (el (List.drop (i * 3) l) 0 3) 0), I (cI (el (List.drop (i * 3) l) 0 3) 1), Bo (cB (el (List.drop (i * 3) l) 0 3) 2)] 77)] [] [0] ∧ cIf (!(decide ((0 : Int) ≤ cI (el (List.drop (i * 3) l) 0 3) 0) && decide (cI (el (List.drop (i * 3) l) 0 3) 0 ≤ (144001439 : Int)))) (Q (CR.ret (Bo false))) (cIf (decide ((↑i : Int) > (0 : Int))) (cIf (decide ((0 : Int) ≤ IntKind.i64.wrap ((↑i : Int) - (1 : Int)))) (cIf (decide ((IntKind.i64.wrap ((↑i : Int) - (1 : Int))).toNat < len)) (cIf (decide (len * 3 = l.length)) (cIf (decide (0 < (List.drop ((IntKind.i64.wrap ((↑i : Int) - (1 : Int))).toNat * 3) l).length)) (cIf (likeOk (AV.ofVal (Value.int IntKind.i64 (0 : Int))) ((List.drop ((IntKind.i64.wrap ((↑i : Int) - (1 : Int))).toNat * 3) l).getD 0 X)) (cIf (decide (cI (List.drop ((IntKind.i64.wrap ((↑i : Int) - (1 : Int))).toNat * 3) l) 0 ≥ cI (el (List.drop (i * 3) l) 0 3) 0)) (Q (CR.ret (Bo false))) (cIf (decide ((0 : Int) ≤ IntKind.i64.wrap ((↑i : Int) - (1 : Int)))) (cIf (decide ((IntKind.i64.wrap ((↑i : Int) - (1 : Int))).toNat < len)) (cIf (decide (len * 3 = l.length)) (cIf (decide (2 ≤ (List.drop 1 (List.drop ((IntKind.i64.wrap ((↑i : Int) - (1 : Int))).toNat * 3) l)).length)) (cIf (like [I (0 : Int), Bo false] (el (List.drop 1 (List.drop ((IntKind.i64.wrap ((↑i : Int) - (1 : Int))).toNat * 3) l)) 0 2)) (cIf (cI (el (List.drop 1 (List.drop ((IntKind.i64.wrap ((↑i : Int) - (1 : Int))).toNat * 3) l)) 0 2) 0 == cI (el (List.drop (i * 3) l) 0 3) 1 && (cB (el (List.drop 1 (List.drop ((IntKind.i64.wrap ((↑i : Int) - (1 : Int))).toNat * 3) l)) 0 2) 1 == cB (el (List.drop (i * 3) l) 0 3) 2 && true)) (Q (CR.ret (Bo false))) (cIf (noHL 0 ([AV.vs l len Tok.none, X, X, X, X, AV.vs l len Tok.none, I (↑len : Int), I (IntKind.i64.wrap ((↑i : Int) + (1 : Int)))] ++ List.replicate 38 X)) (WLoop Tryz.X125 (cd PP 125 [1, 0, 1, 0, 0]) ([AV.vs l len Tok.none, X, X, X, X, AV.vs l len Tok.none, I (↑len : Int), I (IntKind.i64.wrap ((↑i : Int) + (1 : Int)))] ++ List.replicate 38 X) (St.mk [] [] []) (kBlock 0 (kSeq Tryz.X125 (cd PP 125 [1, 1]) (kRet Tryz.X125 125 Q)))) False)) False) False) False) False) False)) False) False) False) False) False) (cIf (noHL 0 ([AV.vs l len Tok.none, X, X, X, X, AV.vs l len Tok.none, I (↑len : Int), I (IntKind.i64.wrap ((↑i : Int) + (1 : Int)))] ++ List.replicate 38 X)) (WLoop Tryz.X125 (cd PP 125 [1, 0, 1, 0, 0]) ([AV.vs l len Tok.none, X, X, X, X, AV.vs l len Tok.none, I (↑len : Int), I (IntKind.i64.wrap ((↑i : Int) + (1 : Int)))] ++ List.replicate 38 X) (St.mk [] [] []) (kBlock 0 (kSeq Tryz.X125 (cd PP 125 [1, 1]) (kRet Tryz.X125 125 Q)))) False))) False) False) False) False) (Q (CR.ret (Bo (decide ((↑len : Int) > (0 : Int))))))) := by kernel_rfl
theorem v59 (f u : Int) (l : List AV) (len : Nat) (Q : CR → Prop) : wpF Tryz.X59 59 [I f, I u, .vs l len .none] Q =
  (True ∧ cIf (rangedB f u) ((∃ (x : List Trn), l = encL encT x ∧ len = x.length ∧ x.length ≤ 1000000) ∧ cIf (onEnc (encL encT) nrmB false l) (cIf (decide (0 < len)) (cIf (decide (len * 3 = l.length)) (cIf (decide (0 < l.length)) (cIf (likeOk (AV.ofVal (Value.int IntKind.i64 (0 : Int))) (l.getD 0 X)) (cIf (cI l 0 == f) (cIf (decide ((0 : Int) ≤ IntKind.i64.wrap ((↑len : Int) - (1 : Int)))) (cIf (decide ((IntKind.i64.wrap ((↑len : Int) - (1 : Int))).toNat < len)) (cIf (decide (len * 3 = l.length)) (cIf (decide (0 < (List.drop ((IntKind.i64.wrap ((↑len : Int) - (1 : Int))).toNat * 3) l).length)) (cIf (likeOk (AV.ofVal (Value.int IntKind.i64 (0 : Int))) ((List.drop ((IntKind.i64.wrap ((↑len : Int) - (1 : Int))).toNat * 3) l).getD 0 X)) (Q (CR.ret (Bo (decide (cI (List.drop ((IntKind.i64.wrap ((↑len : Int) - (1 : Int))).toNat * 3) l) 0 < u))))) False) False) False) False) False) (Q (CR.ret (Bo false)))) False) False) False) False) (Q (CR.ret (Bo false)))) (Q (CR.ret (Bo false)))) := by kernel_rfl
theorem v70 (f u : Int) (l : List AV) (len : Nat) (Q : CR → Prop) : wpF Tryz.X70 70 [I f, I u, .vs l len .none] Q =
  (True ∧ (∃ (x : List Trn), l = encL encT x ∧ len = x.length ∧ x.length ≤ 1000000) ∧ cIf (rangedB f u) (cIf (onEnc (encL encT) nrmB false l) (cIf (decide (0 < len)) (cIf (decide (len * 3 = l.length)) (cIf (decide (0 < l.length)) (cIf (likeOk (AV.ofVal (Value.int IntKind.i64 (0 : Int))) (l.getD 0 X)) (cIf (cI l 0 == f) (cIf (decide ((0 : Int) ≤ IntKind.i64.wrap ((↑len : Int) - (1 : Int)))) (cIf (decide ((IntKind.i64.wrap ((↑len : Int) - (1 : Int))).toNat < len)) (cIf (decide (len * 3 = l.length)) (cIf (decide (0 < (List.drop ((IntKind.i64.wrap ((↑len : Int) - (1 : Int))).toNat * 3) l).length)) (cIf (likeOk (AV.ofVal (Value.int IntKind.i64 (0 : Int))) ((List.drop ((IntKind.i64.wrap ((↑len : Int) - (1 : Int))).toNat * 3) l).getD 0 X)) (Q (CR.ret (Bo (decide (cI (List.drop ((IntKind.i64.wrap ((↑len : Int) - (1 : Int))).toNat * 3) l) 0 < u))))) False) False) False) False) False) (Q (CR.ret (Bo false)))) False) False) False) False) (Q (CR.ret (Bo false)))) (Q (CR.ret (Bo false)))) := by kernel_rfl
theorem v71 (l : List AV) (len : Nat) (u a : Int) (b : Bool) (Q : CR → Prop) : wpF Tryz.X71 71 [.vs l len .none, I u, .agg [I a, Bo b]] Q =
  (cIf ((↑len : Int) == (0 : Int)) (Q (CR.ret (I (0 : Int)))) (cIf (decide (0 < len)) (cIf (decide (len * 3 = l.length)) (cIf (decide (0 < l.length)) (cIf (likeOk (AV.ofVal (Value.int IntKind.i64 (0 : Int))) (l.getD 0 X)) ((∃ (x : List Trn), l = encL encT x ∧ len = x.length ∧ x.length ≤ 1000000) ∧ cIf (!onEnc (encL encT) (chkT (cI l 0) u) false l) (Q (CR.ret (I (0 : Int)))) (cIf (noHL 1 ([AV.vs l len Tok.none, I u, X, X, X, AV.ptr 0 0, X, I (0 : Int), X, X, X, X, X, X, X, X, X, X, X, X, X, X, X, X, AV.vs l len Tok.none, I (↑len : Int), I (0 : Int)] ++ List.replicate 28 X)) (WLoop Tryz.X71 (cd Tryz.X71.P 71 [1, 1, 1, 0, 1, 0, 0]) ([AV.vs l len Tok.none, I u, X, X, X, AV.ptr 0 0, X, I (0 : Int), X, X, X, X, X, X, X, X, X, X, X, X, X, X, X, X, AV.vs l len Tok.none, I (↑len : Int), I (0 : Int)] ++ List.replicate 28 X) (St.mk [some (HB.cells [I a, Bo b] 29)] [] []) (kBlock 0 (kSeq Tryz.X71 (cd Tryz.X71.P 71 [1, 1, 1, 1]) (kRet Tryz.X71 71 Q)))) False)) False) False) False) False)) := by kernel_rfl
theorem v71l (l : List AV) (len i : Nat) (u a n : Int) (b : Bool) (Q : CR → Prop) : wpC Tryz.X71 (cd PP 71 [1, 1, 1, 0, 1, 0, 0]) ([.vs l len .none, I u, X, X, X, .ptr 0 0, X, I n, X, X, X, X, X, X, X, X, X, X, X, X, X, X, X, X, .vs l len .none, I len, I i] ++ List.replicate 28 X) ⟨[some (.cells [I a, Bo b] 29)], [], []⟩ (kLoop Tryz.X71 (cd PP 71 [1, 1, 1, 0, 1, 0, 0]) (kBlock 0 (kSeq Tryz.X71 (cd PP 71 [1, 1, 1, 1]) (kRet Tryz.X71 71 Q)))) =
  (cIf (decide ((↑i : Int) < (↑len : Int))) (cIf (decide (i < len)) (cIf (decide (len * 3 = l.length)) (cIf (decide (3 ≤ (List.drop (i * 3) l).length)) (cIf (like [I (0 : Int), I (0 : Int), Bo false] (el (List.drop (i * 3) l) 0 3)) (cIf (decide (IntKind.i64.wrap ((↑i : Int) + (1 : Int)) < (↑len : Int))) (cIf (decide ((0 : Int) ≤ IntKind.i64.wrap ((↑i : Int) + (1 : Int)))) (cIf (decide ((IntKind.i64.wrap ((↑i : Int) + (1 : Int))).toNat < len)) (cIf (decide (len * 3 = l.length)) (cIf (decide (0 < (List.drop ((IntKind.i64.wrap ((↑i : Int) + (1 : Int))).toNat * 3) l).length)) (cIf (likeOk (AV.ofVal (Value.int IntKind.i64 (0 : Int))) ((List.drop ((IntKind.i64.wrap ((↑i : Int) + (1 : Int))).toNat * 3) l).getD 0 X)) (cIf (cI (el (List.drop (i * 3) l) 0 3) 1 == a && (cB (el (List.drop (i * 3) l) 0 3) 2 == b && true)) (cIf (noHL 1 ([AV.vs l len Tok.none, I u, X, X, X, AV.ptr 0 0, X, AV.int IntKind.i64 (IntKind.i64.wrap (n + IntKind.i64.wrap (cI (List.drop ((IntKind.i64.wrap ((↑i : Int) + (1 : Int))).toNat * 3) l) 0 - cI (el (List.drop (i * 3) l) 0 3) 0))), X, X, X, X, X, X, X, X, X, X, X, X, X, X, X, X, AV.vs l len Tok.none, I (↑len : Int), I (IntKind.i64.wrap ((↑i : Int) + (1 : Int)))] ++ List.replicate 28 X)) (WLoop Tryz.X71 (cd PP 71 [1, 1, 1, 0, 1, 0, 0]) ([AV.vs l len Tok.none, I u, X, X, X, AV.ptr 0 0, X, AV.int IntKind.i64 (IntKind.i64.wrap (n + IntKind.i64.wrap (cI (List.drop ((IntKind.i64.wrap ((↑i : Int) + (1 : Int))).toNat * 3) l) 0 - cI (el (List.drop (i * 3) l) 0 3) 0))), X, X, X, X, X, X, X, X, X, X, X, X, X, X, X, X, AV.vs l len Tok.none, I (↑len : Int), I (IntKind.i64.wrap ((↑i : Int) + (1 : Int)))] ++ List.replicate 28 X) (St.mk [some (HB.cells [I a, Bo b] 29)] [] []) (kBlock 0 (kSeq Tryz.X71 (cd PP 71 [1, 1, 1, 1]) (kRet Tryz.X71 71 Q)))) False) (cIf (noHL 1 ([AV.vs l len Tok.none, I u, X, X, X, AV.ptr 0 0, X, I n, X, X, X, X, X, X, X, X, X, X, X, X, X, X, X, X, AV.vs l len Tok.none, I (↑len : Int), I (IntKind.i64.wrap ((↑i : Int) + (1 : Int)))] ++ List.replicate 28 X)) (WLoop Tryz.X71 (cd PP 71 [1, 1, 1, 0, 1, 0, 0]) ([AV.vs l len Tok.none, I u, X, X, X, AV.ptr 0 0, X, I n, X, X, X, X, X, X, X, X, X, X, X, X, X, X, X, X, AV.vs l len Tok.none, I (↑len : Int), I (IntKind.i64.wrap ((↑i : Int) + (1 : Int)))] ++ List.replicate 28 X) (St.mk [some (HB.cells [I a, Bo b] 29)] [] []) (kBlock 0 (kSeq Tryz.X71 (cd PP 71 [1, 1, 1, 1]) (kRet Tryz.X71 71 Q)))) False)) False) False) False) False) False) (cIf (cI (el (List.drop (i * 3) l) 0 3) 1 == a && (cB (el (List.drop (i * 3) l) 0 3) 2 == b && true)) (cIf (noHL 1 ([AV.vs l len Tok.none, I u, X, X, X, AV.ptr 0 0, X, I (IntKind.i64.wrap (n + IntKind.i64.wrap (u - cI (el (List.drop (i * 3) l) 0 3) 0))), X, X, X, X, X, X, X, X, X, X, X, X, X, X, X, X, AV.vs l len Tok.none, I (↑len : Int), I (IntKind.i64.wrap ((↑i : Int) + (1 : Int)))] ++ List.replicate 28 X)) (WLoop Tryz.X71 (cd PP 71 [1, 1, 1, 0, 1, 0, 0]) ([AV.vs l len Tok.none, I u, X, X, X, AV.ptr 0 0, X, I (IntKind.i64.wrap (n + IntKind.i64.wrap (u - cI (el (List.drop (i * 3) l) 0 3) 0))), X, X, X, X, X, X, X, X, X, X, X, X, X, X, X, X, AV.vs l len Tok.none, I (↑len : Int), I (IntKind.i64.wrap ((↑i : Int) + (1 : Int)))] ++ List.replicate 28 X) (St.mk [some (HB.cells [I a, Bo b] 29)] [] []) (kBlock 0 (kSeq Tryz.X71 (cd PP 71 [1, 1, 1, 1]) (kRet Tryz.X71 71 Q)))) False) (cIf (noHL 1 ([AV.vs l len Tok.none, I u, X, X, X, AV.ptr 0 0, X, I n, X, X, X, X, X, X, X, X, X, X, X, X, X, X, X, X, AV.vs l len Tok.none, I (↑len : Int), I (IntKind.i64.wrap ((↑i : Int) + (1 : Int)))] ++ List.replicate 28 X)) (WLoop Tryz.X71 (cd PP 71 [1, 1, 1, 0, 1, 0, 0]) ([AV.vs l len Tok.none, I u, X, X, X, AV.ptr 0 0, X, I n, X, X, X, X, X, X, X, X, X, X, X, X, X, X, X, X, AV.vs l len Tok.none, I (↑len : Int), I (IntKind.i64.wrap ((↑i : Int) + (1 : Int)))] ++ List.replicate 28 X) (St.mk [some (HB.cells [I a, Bo b] 29)] [] []) (kBlock 0 (kSeq Tryz.X71 (cd PP 71 [1, 1, 1, 1]) (kRet Tryz.X71 71 Q)))) False))) False) False) False) False) (Q (CR.ret (I n)))) := by kernel_rfl
theorem v72 (l : List AV) (len : Nat) (u a : Int) (b : Bool) (Q : CR → Prop) : wpF Tryz.X72 72 [.vs l len .none, I u, .agg [I a, Bo b]] Q =
  (cIf ((↑len : Int) == (0 : Int)) (Q (CR.ret (I (0 : Int)))) (cIf (decide (0 < len)) (cIf (decide (len * 3 = l.length)) (cIf (decide (0 < l.length)) (cIf (likeOk (AV.ofVal (Value.int IntKind.i64 (0 : Int))) (l.getD 0 X)) ((∃ (x : List Trn), l = encL encT x ∧ len = x.length ∧ x.length ≤ 1000000) ∧ cIf (!onEnc (encL encT) (chkT (cI l 0) u) false l) (Q (CR.ret (I (0 : Int)))) (cIf (noHL 1 ([AV.vs l len Tok.none, I u, X, X, X, AV.ptr 0 0, X, I (0 : Int), I (0 : Int)] ++ List.replicate 49 X)) (WLoop Tryz.X72 (cd Tryz.X72.P 72 [1, 1, 1, 0, 1, 0, 0]) ([AV.vs l len Tok.none, I u, X, X, X, AV.ptr 0 0, X, I (0 : Int), I (0 : Int)] ++ List.replicate 49 X) (St.mk [some (HB.cells [I a, Bo b] 29)] [] []) (kBlock 0 (kSeq Tryz.X72 (cd Tryz.X72.P 72 [1, 1, 1, 1]) (kRet Tryz.X72 72 Q)))) False)) False) False) False) False)) := by kernel_rfl
end Go.Proofs
/-! TR -/
set_option maxRecDepth 100000
set_option linter.unusedVariables false
set_option linter.unusedSimpArgs false
namespace Go.Proofs
open Go Go.Ev
theorem ct87 : Ct Tryz.B.c0 87 R87 := Ct.of_wp (lm := lm87) (tp := []) (ct := []) (sm := []) Tryz.bok (Cts.nil _) ⟨_, _, Tryz.func87, rfl⟩ fun args D r hR hD => by
  unfold R87 at hR
  split at hR <;> cases hR
  refine ⟨rfl, (v87 _ _ _).mpr ?_⟩
  repeat' (refine cIf_intro (fun h => ?_) (fun h => ?_))
  all_goals (apply rB_eq; simp [rangedB] at *; omega)
section
variable {xs : List Trn} (hlen : xs.length ≤ 1000000)
include hlen
/-- The turn before. -/
def prv (xs : List Trn) (i : Nat) : Option Trn := if i = 0 then none else xs[i - 1]?
theorem normal_loop (Q : CR → Prop) : ∀ (d i : Nat), xs.length - i = d → i ≤ xs.length → Q (rB (nrmF (prv xs i) (xs.drop i) && decide (0 < xs.length))) →
    WLoop Tryz.X125 (cd PP 125 [1, 0, 1, 0, 0]) ([.vs (encL encT xs) xs.length .none, X, X, X, X, .vs (encL encT xs) xs.length .none, I xs.length, I i] ++ List.replicate 38 X) ⟨[], [], []⟩ (kBlock 0 (kSeq Tryz.X125 (cd PP 125 [1, 1]) (kRet Tryz.X125 125 Q))) := by
  have hc : Cts Tryz.B [(115, R115)] := (Cts.nil _).cons ct115
  intro d
  induction d with
  | zero =>
    intro i hd hi hQ
    have hi' : i = xs.length := by omega
    subst hi'
    refine WLoop_step Tryz.bok hc ((v125l _ _ _ Q).mpr (cIf_neg (by simp) ?_))
    rw [List.drop_length] at hQ
    have e : decide ((xs.length : Int) > 0) = decide (0 < xs.length) := decide_eq_decide.2 (by omega)
    rw [e]
    simpa [nrmF] using hQ
  | succ d ih =>
    intro i hd hi
    have hlt : i < xs.length := by omega
    have e1 : xs.length - (i + 1) = d := by omega
    have w1 : IntKind.i64.wrap ((i : Int) + 1) = i + 1 := wrap_id (by omega) (by omega)
    have h1 : (i : Int) < xs.length := by omega
    intro hQ
    obtain ⟨x, hx, hdr⟩ := drop_cons hlt
    rw [hdr] at hQ
    have hnext : Q (rB (nrmF (some x) (xs.drop (i + 1)) && decide (0 < xs.length))) → WLoop Tryz.X125 (cd PP 125 [1, 0, 1, 0, 0]) ([.vs (encL encT xs) xs.length .none, X, X, X, X, .vs (encL encT xs) xs.length .none, I xs.length, I ((i : Int) + 1)] ++ List.replicate 38 X) ⟨[], [], []⟩ (kBlock 0 (kSeq Tryz.X125 (cd PP 125 [1, 1]) (kRet Tryz.X125 125 Q))) := fun h => by
      refine ih (i + 1) e1 hlt ?_
      unfold prv
      rw [if_neg (by omega), Nat.add_sub_cancel, hx]
      exact h
    clear ih
    refine WLoop_step Tryz.bok hc ((v125l _ _ _ Q).mpr ?_)
    simp only [dt h1, dt hlt, eT.gl, eT.gd hlt, eT.g0 hlt (by decide), eT.el hx, eT.ld0 hx (by decide), T_like, eT.cI0 hx (by decide), T_lk0, T_c0, eT.gf hlt 1 (by decide), eT.ld hx 1 (by decide), eT.cI hx 1 (by decide), T_lk1, T_c1, eT.gf hlt 2 (by decide), eT.ld hx 2 (by decide), eT.cB hx 2 (by decide), T_lk2, T_c2, eT.gfn hlt 1 2 (by decide), T_el1 hx, H_like, H_c0, H_c1, noHL_append, noHL, noH, eT.noHL', noHL_rep, Bool.true_and, Bool.and_true, cIf_true, true_and, w1]
    rcases Nat.eq_zero_or_pos i with rfl | hpos
    · simp only [prv, if_true, nrmF] at hQ
      have hT : minutedB x.at' = true → WLoop Tryz.X125 (cd PP 125 [1, 0, 1, 0, 0]) ([.vs (encL encT xs) xs.length .none, X, X, X, X, .vs (encL encT xs) xs.length .none, I xs.length, I (((0 : Nat) : Int) + 1)] ++ List.replicate 38 X) ⟨[], [], []⟩ (kBlock 0 (kSeq Tryz.X125 (cd PP 125 [1, 1]) (kRet Tryz.X125 125 Q))) := fun h => hnext (by rw [h, Bool.true_and] at hQ; exact hQ)
      have hF : minutedB x.at' = false → Q (CR.ret (Bo false)) := fun h => by rw [h, Bool.false_and, Bool.false_and] at hQ; exact hQ
      simp only [show decide (((0 : Nat) : Int) > 0) = false from rfl, cIf_false]
      refine cIf_intro (fun h => hF ?_) (fun h => hT ?_)
      · simp [minutedB] at h ⊢; omega
      · simp [minutedB] at h ⊢; omega
    · have hlp : i - 1 < xs.length := by omega
      have w2 : IntKind.i64.wrap ((i : Int) - 1) = ((i - 1 : Nat) : Int) := by rw [wrap_id (by omega) (by omega)]; omega
      have h2 : (i : Int) > 0 := by omega
      obtain ⟨p, hp, _⟩ := drop_cons hlp
      simp only [prv, if_neg (show ¬ i = 0 by omega), hp, nrmF] at hQ
      have hT : (minutedB x.at' && (decide (p.at' < x.at') && !sameS p x)) = true → WLoop Tryz.X125 (cd PP 125 [1, 0, 1, 0, 0]) ([.vs (encL encT xs) xs.length .none, X, X, X, X, .vs (encL encT xs) xs.length .none, I xs.length, I ((i : Int) + 1)] ++ List.replicate 38 X) ⟨[], [], []⟩ (kBlock 0 (kSeq Tryz.X125 (cd PP 125 [1, 1]) (kRet Tryz.X125 125 Q))) := fun h => hnext (by rw [h, Bool.true_and] at hQ; exact hQ)
      have hF : (minutedB x.at' && (decide (p.at' < x.at') && !sameS p x)) = false → Q (CR.ret (Bo false)) := fun h => by rw [h, Bool.false_and, Bool.false_and] at hQ; exact hQ
      clear hQ hnext
      simp only [w2, dt h2, dt (Int.natCast_nonneg (i - 1)), Int.toNat_natCast, dt hlp, eT.gl, eT.gd hlp, eT.g0 hlp (by decide), eT.el hp, eT.ld0 hp (by decide), T_like, eT.cI0 hp (by decide), T_lk0, T_c0, eT.gf hlp 1 (by decide), eT.ld hp 1 (by decide), eT.cI hp 1 (by decide), T_lk1, T_c1, eT.gf hlp 2 (by decide), eT.ld hp 2 (by decide), eT.cB hp 2 (by decide), T_lk2, T_c2, eT.gfn hlp 1 2 (by decide), T_el1 hp, H_like, H_c0, H_c1, cIf_true]
      refine cIf_intro (fun h => hF ?_) (fun h => cIf_intro (fun h3 => hF ?_) (fun h3 => cIf_intro (fun h4 => hF ?_) (fun h4 => hT ?_)))
      · have : minutedB x.at' = false := by simp [minutedB] at h ⊢; omega
        rw [this]; rfl
      · have : decide (p.at' < x.at') = false := by simp at h3 ⊢; omega
        rw [this]; simp
      · have : sameS p x = true := by simp [sameS] at h4 ⊢; exact h4
        rw [this]; simp
      · have q1 : minutedB x.at' = true := by simp [minutedB] at h ⊢; omega
        have q2 : decide (p.at' < x.at') = true := by simp at h3 ⊢; omega
        have q3 : sameS p x = false := by
          rw [Bool.eq_false_iff]; intro hs
          simp only [sameS, Bool.and_eq_true, decide_eq_true_eq, beq_iff_eq] at hs
          simp [hs] at h4
        rw [q1, q2, q3]; rfl
end
theorem ct125 : Ct Tryz.B.c0 125 R125 := Ct.of_wp (lm := lm125) (tp := []) (ct := []) (sm := [(2, 0)]) Tryz.bok ((Cts.nil _).cons ct115) ⟨_, _, Tryz.func125, rfl⟩ fun args D r hR hD => by
  unfold R125 at hR
  split at hR <;> cases hR
  obtain ⟨xs, rfl, rfl, hlen⟩ := hD
  refine ⟨by simp [noHL, noH, eT.noHL'], ?_⟩
  rw [show scrubL 0 [AV.vs (encL encT xs) xs.length .none] = [.vs (encL encT xs) xs.length .none] by simp [scrubL, scrub, eT.scL, Tok.scrub], eT.on (by decide)]
  refine (v125 _ _ _).mpr (cIf_pos (by simp only [noHL_append, noHL, noH, eT.noHL', noHL_rep, Bool.true_and]) ?_)
  exact normal_loop hlen _ _ 0 rfl (Nat.zero_le _) rfl
theorem ct59 : Ct Tryz.B.c0 59 R59 := Ct.of_wp (lm := lm59) (tp := []) (ct := []) (sm := []) Tryz.bok (((Cts.nil _).cons ct125).cons ct87) ⟨_, _, Tryz.func59, rfl⟩ fun args D r hR hD => by
  unfold R59 at hR
  split at hR <;> cases hR
  rename_i f u l n
  obtain ⟨xs, rfl, rfl, hlen⟩ := hD
  refine ⟨by simp [noHL, noH, eT.noHL'], ?_⟩
  rw [show scrubL 0 [AV.int IntKind.i64 f, AV.int IntKind.i64 u, AV.vs (encL encT xs) xs.length .none] = [I f, I u, .vs (encL encT xs) xs.length .none] by simp [scrubL, scrub, eT.scL, Tok.scrub], eT.on (by decide)]
  refine (v59 _ _ _ _ _).mpr ⟨trivial, cIf_intro (fun h => ⟨⟨xs, rfl, rfl, hlen⟩, ?_⟩) (fun h => ?_)⟩
  · rw [eT.on (by decide)]
    refine cIf_intro (fun h2 => ?_) (fun h2 => ?_)
    · have hpos : 0 < xs.length := by unfold nrmB at h2; rw [Bool.and_eq_true, decide_eq_true_eq] at h2; exact h2.2
      obtain ⟨x, hx, _⟩ := drop_cons hpos
      have hl1 : xs.length - 1 < xs.length := by omega
      obtain ⟨y, hy, _⟩ := drop_cons hl1
      have w1 : IntKind.i64.wrap ((xs.length : Int) - 1) = ((xs.length - 1 : Nat) : Int) := by rw [wrap_id (by omega) (by omega)]; omega
      have z0 : encL encT xs = List.drop (0 * 3) (encL encT xs) := rfl
      have g1 : decide (0 < (encL encT xs).length) = true := dt (by rw [eT.lenL]; omega)
      have g2 : likeOk (AV.ofVal (Value.int IntKind.i64 (0 : Int))) ((encL encT xs).getD 0 X) = true := by rw [z0, eT.ld0 hx (by decide)]; rfl
      have g3 : cI (encL encT xs) 0 = x.at' := by rw [z0, eT.cI0 hx (by decide)]; rfl
      simp only [dt hpos, eT.gl, g1, g2, g3, w1, dt (Int.natCast_nonneg (xs.length - 1)), Int.toNat_natCast, dt hl1, eT.gl, eT.gd hl1, eT.g0 hl1 (by decide), eT.el hy, eT.ld0 hy (by decide), T_like, eT.cI0 hy (by decide), T_lk0, T_c0, eT.gf hl1 1 (by decide), eT.ld hy 1 (by decide), eT.cI hy 1 (by decide), T_lk1, T_c1, eT.gf hl1 2 (by decide), eT.ld hy 2 (by decide), eT.cB hy 2 (by decide), T_lk2, T_c2, eT.gfn hl1 1 2 (by decide), T_el1 hy, H_like, H_c0, H_c1, cIf_true]
      unfold chkT
      rw [h, h2, getD_of hx, getD_of hy]
      refine cIf_intro (fun h3 => ?_) (fun h3 => ?_)
      · have h3 : x.at' = f := by simpa using h3
        rw [dt h3]; rfl
      · have h3 : ¬ x.at' = f := by simpa using h3
        rw [df h3]; rfl
    · unfold chkT; rw [h2, Bool.and_false, Bool.false_and, Bool.false_and]
  · unfold chkT; rw [h, Bool.false_and, Bool.false_and, Bool.false_and]
end Go.Proofs
/-! TR2 -/
set_option maxRecDepth 100000
set_option linter.unusedVariables false
set_option linter.unusedSimpArgs false
namespace Go.Proofs
open Go Go.Ev
attribute [local irreducible] wpF wpC cd
/-- What a turn adds. -/
theorem spS_step {xs : List Trn} {i : Nat} {x : Trn} {u : Int} {s : Sho} (hx : xs[i]? = some x) : spS u s (xs.drop i) = (if x.sh = s then (if i + 1 < xs.length then (xs.getD (i + 1) zTrn).at' else u) - x.at' else 0) + spS u s (xs.drop (i + 1)) := by
  have hi := (List.getElem?_eq_some_iff.1 hx).1
  rw [List.drop_eq_getElem_cons hi, (List.getElem?_eq_some_iff.1 hx).2]
  by_cases h : i + 1 < xs.length
  · rw [if_pos h, List.drop_eq_getElem_cons h]
    have : xs.getD (i + 1) zTrn = xs[i + 1] := by rw [List.getD_eq_getElem?_getD, List.getElem?_eq_getElem h]; rfl
    rw [this]
    simp only [spS]
  · rw [if_neg h, List.drop_eq_nil_of_le (by omega)]
    simp [spS]
section
variable {xs : List Trn} (hlen : xs.length ≤ 1000000) {u : Int} (hu : u ≤ 144001440) (hn : nrmF none xs = true) (hlast : (xs.getD (xs.length - 1) zTrn).at' < u) {a : Int} {b : Bool}
include hlen hu hn hlast
theorem spent_nums {i : Nat} {x : Trn} (hx : xs[i]? = some x) : 0 ≤ x.at' ∧ x.at' ≤ 144001439 ∧ x.at' < (if i + 1 < xs.length then (xs.getD (i + 1) zTrn).at' else u) ∧ (if i + 1 < xs.length then (xs.getD (i + 1) zTrn).at' else u) ≤ 144001440 := by
  have hi := (List.getElem?_eq_some_iff.1 hx).1
  have h1 := nrmF_min none hn x (List.mem_of_getElem? hx)
  refine ⟨h1.1, h1.2, ?_⟩
  split
  · rename_i h
    obtain ⟨y, hy, _⟩ := drop_cons h
    have h2 := nrmF_min none hn y (List.mem_of_getElem? hy)
    have h3 := (nrmF_step hn hx hy).1
    rw [getD_of hy]
    omega
  · rename_i h
    have : i = xs.length - 1 := by omega
    subst this
    rw [getD_of hx] at hlast
    omega
theorem spent_loop (Q : CR → Prop) : ∀ (d i : Nat) (n : Int), xs.length - i = d → i ≤ xs.length → 0 ≤ n → n ≤ 144001440 → (∀ x, xs[i]? = some x → n ≤ x.at') → Q (rI (n + spS u ⟨a, b⟩ (xs.drop i))) →
    WLoop Tryz.X71 (cd PP 71 [1, 1, 1, 0, 1, 0, 0]) ([.vs (encL encT xs) xs.length .none, I u, X, X, X, .ptr 0 0, X, I n, X, X, X, X, X, X, X, X, X, X, X, X, X, X, X, X, .vs (encL encT xs) xs.length .none, I xs.length, I i] ++ List.replicate 28 X) ⟨[some (.cells [I a, Bo b] 29)], [], []⟩ (kBlock 0 (kSeq Tryz.X71 (cd PP 71 [1, 1, 1, 1]) (kRet Tryz.X71 71 Q))) := by
  have hc : Cts Tryz.B [(59, R59)] := (Cts.nil _).cons ct59
  intro d
  induction d with
  | zero =>
    intro i n hd hi _ _ _ hQ
    have hi' : i = xs.length := by omega
    subst hi'
    refine WLoop_step Tryz.bok hc ((v71l _ _ _ _ _ _ _ Q).mpr (cIf_neg (by simp) ?_))
    rw [List.drop_length] at hQ
    simpa [spS] using hQ
  | succ d ih =>
    intro i n hd hi hn0 hn1 hnx hQ
    have hlt : i < xs.length := by omega
    have e1 : xs.length - (i + 1) = d := by omega
    have w1 : IntKind.i64.wrap ((i : Int) + 1) = ((i + 1 : Nat) : Int) := wrap_id (by omega) (by omega)
    have h1 : (i : Int) < xs.length := by omega
    obtain ⟨x, hx, hdr⟩ := drop_cons hlt
    obtain ⟨p1, p2, p3, p4⟩ := spent_nums hlen hu hn hlast hx
    have p5 := hnx x hx
    rw [spS_step hx] at hQ
    have hnext : ∀ e n' : Int, (if i + 1 < xs.length then (xs.getD (i + 1) zTrn).at' else u) = e → n' = (if x.sh = ⟨a, b⟩ then n + (e - x.at') else n) → WLoop Tryz.X71 (cd PP 71 [1, 1, 1, 0, 1, 0, 0]) ([.vs (encL encT xs) xs.length .none, I u, X, X, X, .ptr 0 0, X, I n', X, X, X, X, X, X, X, X, X, X, X, X, X, X, X, X, .vs (encL encT xs) xs.length .none, I xs.length, I ((i + 1 : Nat) : Int)] ++ List.replicate 28 X) ⟨[some (.cells [I a, Bo b] 29)], [], []⟩ (kBlock 0 (kSeq Tryz.X71 (cd PP 71 [1, 1, 1, 1]) (kRet Tryz.X71 71 Q))) := by
      intro e n' he hn'
      rw [he] at p3 p4 hQ
      have b1 : 0 ≤ n' ∧ n' ≤ e := by rw [hn']; split <;> omega
      refine ih (i + 1) n' e1 hlt b1.1 (by omega) (fun y hy => ?_) ?_
      · have hi2 := (List.getElem?_eq_some_iff.1 hy).1
        rw [if_pos hi2, getD_of hy] at he
        omega
      · rw [hn']
        split
        · rename_i hs
          rw [if_pos hs] at hQ
          rwa [← Int.add_assoc] at hQ
        · rename_i hs
          rwa [if_neg hs, Int.zero_add] at hQ
    clear ih hQ
    refine WLoop_step Tryz.bok hc ((v71l _ _ _ _ _ _ _ Q).mpr ?_)
    simp only [dt h1, dt hlt, eT.gl, eT.gd hlt, eT.g0 hlt (by decide), eT.el hx, eT.ld0 hx (by decide), T_like, eT.cI0 hx (by decide), T_lk0, T_c0, eT.gf hlt 1 (by decide), eT.ld hx 1 (by decide), eT.cI hx 1 (by decide), T_lk1, T_c1, eT.gf hlt 2 (by decide), eT.ld hx 2 (by decide), eT.cB hx 2 (by decide), T_lk2, T_c2, eT.gfn hlt 1 2 (by decide), T_el1 hx, H_like, H_c0, H_c1, noHL_append, noHL, noH, eT.noHL', noHL_rep, Bool.true_and, Bool.and_true, cIf_true, w1, dt (Int.natCast_nonneg (i + 1)), Int.toNat_natCast, show decide (0 < 1) = true from rfl]
    have cmp : ∀ {p q : Prop} , (x.sh = ⟨a, b⟩ → p) → (¬ x.sh = ⟨a, b⟩ → q) → cIf (x.fl == a && x.ho == b) p q := fun {p q} f g => by
      refine cIf_intro (fun h => f ?_) (fun h => g fun hs => ?_)
      · simp only [Bool.and_eq_true, beq_iff_eq] at h
        simp [Trn.sh, h]
      · simp only [Trn.sh, Sho.mk.injEq] at hs
        simp [hs] at h
    refine cIf_intro (fun h => ?_) (fun h => ?_)
    · have h2 : i + 1 < xs.length := by have := of_decide_eq_true h; omega
      obtain ⟨y, hy, _⟩ := drop_cons h2
      rw [if_pos h2, getD_of hy] at p3 p4 hnext
      have w2 : IntKind.i64.wrap (y.at' - x.at') = y.at' - x.at' := wrap_id (by omega) (by omega)
      have w3 : IntKind.i64.wrap (n + (y.at' - x.at')) = n + (y.at' - x.at') := wrap_id (by omega) (by omega)
      simp only [dt h2, eT.gl, eT.gd h2, eT.g0 h2 (by decide), eT.el hy, eT.ld0 hy (by decide), T_like, eT.cI0 hy (by decide), T_lk0, T_c0, eT.gf h2 1 (by decide), eT.ld hy 1 (by decide), eT.cI hy 1 (by decide), T_lk1, T_c1, eT.gf h2 2 (by decide), eT.ld hy 2 (by decide), eT.cB hy 2 (by decide), T_lk2, T_c2, eT.gfn h2 1 2 (by decide), T_el1 hy, H_like, H_c0, H_c1, cIf_true, w2, w3]
      refine cmp (fun hs => hnext _ _ rfl (by rw [if_pos hs])) (fun hs => hnext _ _ rfl (by rw [if_neg hs]))
    · have h2 : ¬ i + 1 < xs.length := by have := of_decide_eq_false h; omega
      rw [if_neg h2] at p3 p4 hnext
      have w2 : IntKind.i64.wrap (u - x.at') = u - x.at' := wrap_id (by omega) (by omega)
      have w3 : IntKind.i64.wrap (n + (u - x.at')) = n + (u - x.at') := wrap_id (by omega) (by omega)
      simp only [w2, w3]
      refine cmp (fun hs => hnext _ _ rfl (by rw [if_pos hs])) (fun hs => hnext _ _ rfl (by rw [if_neg hs]))
end
theorem chkT_parts {f u : Int} {l : List Trn} (h : chkT f u l = true) : rangedB f u = true ∧ nrmF none l = true ∧ 0 < l.length ∧ (l.getD 0 zTrn).at' = f ∧ (l.getD (l.length - 1) zTrn).at' < u := by
  unfold chkT nrmB at h
  simp only [Bool.and_eq_true, decide_eq_true_eq] at h
  exact ⟨h.1.1.1, h.1.1.2.1, h.1.1.2.2, h.1.2, h.2⟩
theorem ct71 : Ct Tryz.B.c0 71 R71 := Ct.of_wp (lm := lm71) (tp := []) (ct := []) (sm := [(5, 1)]) Tryz.bok ((Cts.nil _).cons ct59) ⟨_, _, Tryz.func71, rfl⟩ fun args D r hR hD => by
  unfold R71 at hR
  split at hR <;> cases hR
  rename_i l n u a b
  obtain ⟨xs, rfl, rfl, hlen⟩ := hD
  refine ⟨by simp [noHL, noH, eT.noHL'], ?_⟩
  rw [show scrubL 0 [AV.vs (encL encT xs) xs.length .none, AV.int IntKind.i64 u, AV.agg [AV.int IntKind.i64 a, AV.bool b]] = [.vs (encL encT xs) xs.length .none, I u, .agg [I a, Bo b]] by simp [scrubL, scrub, eT.scL, Tok.scrub], eT.on (by decide)]
  show wpF Tryz.X71 71 _ _
  rw [v71]
  refine cIf_intro (fun h => ?_) (fun h => ?_)
  · have h : xs.length = 0 := by simpa using h
    unfold spentV; rw [if_pos h]
  · have h : ¬ xs.length = 0 := by simpa using h
    have hpos : 0 < xs.length := by omega
    obtain ⟨x, hx, _⟩ := drop_cons hpos
    have z0 : encL encT xs = List.drop (0 * 3) (encL encT xs) := rfl
    have g1 : decide (0 < (encL encT xs).length) = true := dt (by rw [eT.lenL]; omega)
    have g2 : likeOk (AV.ofVal (Value.int IntKind.i64 (0 : Int))) ((encL encT xs).getD 0 X) = true := by rw [z0, eT.ld0 hx (by decide)]; rfl
    have g3 : cI (encL encT xs) 0 = x.at' := by rw [z0, eT.cI0 hx (by decide)]; rfl
    rw [g1, g2, g3, dt hpos, eT.gl]
    refine cIf_pos rfl (cIf_pos rfl (cIf_pos rfl (cIf_pos rfl ⟨⟨xs, rfl, rfl, hlen⟩, ?_⟩)))
    rw [eT.on (by decide)]
    unfold spentV
    rw [if_neg h, getD_of hx]
    refine cIf_intro (fun h2 => ?_) (fun h2 => cIf_pos (by simp [noHL, noH, eT.noHL']) ?_)
    · have h2 : ¬ chkT x.at' u xs = true := by simpa using h2
      rw [if_neg h2]
    · have h2 : chkT x.at' u xs = true := by simpa using h2
      rw [if_pos h2]
      obtain ⟨q1, q2, q3, q4, q5⟩ := chkT_parts h2
      have q6 : u ≤ 144001440 := by unfold rangedB at q1; simp only [Bool.and_eq_true, decide_eq_true_eq] at q1; exact q1.2
      refine spent_loop hlen q6 q2 q5 _ _ 0 0 rfl (Nat.zero_le _) (by omega) (by omega) (fun y hy => ?_) ?_
      · have := nrmF_min none q2 y (List.mem_of_getElem? hy); omega
      · simp
end Go.Proofs
