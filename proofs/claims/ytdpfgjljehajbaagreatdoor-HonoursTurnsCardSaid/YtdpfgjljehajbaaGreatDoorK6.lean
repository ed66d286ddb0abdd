/- Contracts of functions of the program and of the reference. -/
import Derived.Test.YtdpfgjljehajbaaGreatDoorK4
import Derived.Test.YtdpfgjljehajbaaGreatDoorK5
set_option linter.unusedVariables false
set_option linter.unusedSimpArgs false
/-! VTS -/
set_option maxRecDepth 100000
set_option linter.unusedVariables false
set_option linter.unusedSimpArgs false
namespace Go.Proofs
open Go Go.Ev
noncomputable def R58 : Spc := fun args => match args with
  | [.vs a n .none, .vs b m .none] => some (∃ x y, a = encL encT x ∧ n = x.length ∧ b = encL encT y ∧ m = y.length ∧ x.length ≤ 10000000, rB (decide (a = b)))
  | _ => none
noncomputable def joinR (a b : List AV) : List Trn := onEnc (encL encT) (fun x => onEnc (encL encT) (fun y => joinL x y) [] b) [] a
noncomputable def joinX (a b : List AV) : Int := onEnc (encL encT) (fun x => onEnc (encL encT) (fun y => joinE x y) 0 b) 0 a
noncomputable def R68 : Spc := fun args => match args with
  | [.vs a n .none, .vs b m .none] => some (∃ x y, a = encL encT x ∧ n = x.length ∧ b = encL encT y ∧ m = y.length ∧ x.length ≤ 1000000 ∧ y.length ≤ 1000000, .ret (.tup [.vs (encL encT (joinR a b)) (joinR a b).length .none, I (joinX a b)]))
  | _ => none
def lm58 : List (Nat × List Nat) := [(4, [0, 1, 5]), (8, [])]
noncomputable def Tryz.X58 : WCx := Tryz.B.wcx [] lm58 [] [] []
def lm68 : List (Nat × List Nat) := []
noncomputable def Tryz.X68 : WCx := Tryz.B.wcx [(125, R125), (135, R135)] lm68 [] [] []
def lm69 : List (Nat × List Nat) := [(9, [0, 1, 8, 9]), (13, [8])]
noncomputable def Tryz.X69 : WCx := Tryz.B.wcx [(136, R125)] lm69 [] [] []
def lm18 : List (Nat × List Nat) := []
noncomputable def Tryz.X18 : WCx := Tryz.B.wcx [(68, R68), (69, R68), (58, R58), (59, R59), (70, R59), (71, R71), (72, R71), (26, R26)] lm18 [] [] []
theorem v58 (a b : List AV) (n m : Nat) (Q : CR → Prop) : wpF Tryz.X58 58 [.vs a n .none, .vs b m .none] Q =
  (cIf ((↑n : Int) != (↑m : Int)) (Q (CR.ret (Bo false))) (WLoop Tryz.X58 (cd Tryz.X58.P 58 [1, 1, 0, 1, 0, 0]) ([AV.vs a n Tok.none, AV.vs b m Tok.none, X, X, X, I (0 : Int)] ++ List.replicate 20 X) (St.mk [] [] []) (kBlock 0 (kSeq Tryz.X58 (cd Tryz.X58.P 58 [1, 1, 1]) (kRet Tryz.X58 58 Q))))) := by kernel_rfl
theorem v58l (a b : List AV) (n m i : Nat) (Q : CR → Prop) : wpC Tryz.X58 (cd PP 58 [1, 1, 0, 1, 0, 0]) ([.vs a n .none, .vs b m .none, X, X, X, I i] ++ List.replicate 20 X) ⟨[], [], []⟩ (kLoop Tryz.X58 (cd PP 58 [1, 1, 0, 1, 0, 0]) (kBlock 0 (kSeq Tryz.X58 (cd PP 58 [1, 1, 1]) (kRet Tryz.X58 58 Q)))) =
  (cIf (decide ((↑i : Int) < (↑n : Int))) (cIf (decide (i < n)) (cIf (decide (n * 3 = a.length)) (cIf (decide (3 ≤ (List.drop (i * 3) a).length)) (cIf (like [I (0 : Int), I (0 : Int), Bo false] (el (List.drop (i * 3) a) 0 3)) (cIf (decide (i < m)) (cIf (decide (m * 3 = b.length)) (cIf (decide (3 ≤ (List.drop (i * 3) b).length)) (cIf (like [I (0 : Int), I (0 : Int), Bo false] (el (List.drop (i * 3) b) 0 3)) (cIf (!(cI (el (List.drop (i * 3) a) 0 3) 0 == cI (el (List.drop (i * 3) b) 0 3) 0 && (cI (el (List.drop (i * 3) a) 0 3) 1 == cI (el (List.drop (i * 3) b) 0 3) 1 && (cB (el (List.drop (i * 3) a) 0 3) 2 == cB (el (List.drop (i * 3) b) 0 3) 2 && true)))) (Q (CR.ret (Bo false))) (WLoop Tryz.X58 (cd PP 58 [1, 1, 0, 1, 0, 0]) ([AV.vs a n Tok.none, AV.vs b m Tok.none, X, X, X, I (IntKind.i64.wrap ((↑i : Int) + (1 : Int)))] ++ List.replicate 20 X) (St.mk [] [] []) (kBlock 0 (kSeq Tryz.X58 (cd PP 58 [1, 1, 1]) (kRet Tryz.X58 58 Q))))) False) False) False) False) False) False) False) False) (Q (CR.ret (Bo true)))) := by kernel_rfl
theorem v68 (a b : List AV) (n m : Nat) (Q : CR → Prop) : wpF Tryz.X68 68 [.vs a n .none, .vs b m .none] Q =
  ((∃ (x : List Trn), a = encL encT x ∧ n = x.length ∧ x.length ≤ 1000000) ∧ cIf (!onEnc (encL encT) nrmB false a) (Q (CR.ret (AV.tup [AV.vs [] 0 Tok.zero, I (1 : Int)]))) ((∃ (x : List Trn), b = encL encT x ∧ m = x.length ∧ x.length ≤ 1000000) ∧ cIf (!onEnc (encL encT) nrmB false b) (Q (CR.ret (AV.tup [AV.vs [] 0 Tok.zero, I (1 : Int)]))) (cIf (decide ((0 : Int) ≤ IntKind.i64.wrap ((↑n : Int) - (1 : Int)))) (cIf (decide ((IntKind.i64.wrap ((↑n : Int) - (1 : Int))).toNat < n)) (cIf (decide (n * 3 = a.length)) (cIf (decide (0 < (List.drop ((IntKind.i64.wrap ((↑n : Int) - (1 : Int))).toNat * 3) a).length)) (cIf (likeOk (AV.ofVal (Value.int IntKind.i64 (0 : Int))) ((List.drop ((IntKind.i64.wrap ((↑n : Int) - (1 : Int))).toNat * 3) a).getD 0 X)) (cIf (decide (0 < m)) (cIf (decide (m * 3 = b.length)) (cIf (decide (0 < b.length)) (cIf (likeOk (AV.ofVal (Value.int IntKind.i64 (0 : Int))) (b.getD 0 X)) (cIf (decide (cI (List.drop ((IntKind.i64.wrap ((↑n : Int) - (1 : Int))).toNat * 3) a) 0 ≥ cI b 0)) (Q (CR.ret (AV.tup [AV.vs [] 0 Tok.zero, I (7 : Int)]))) (cIf (decide ((0 : Int) ≤ IntKind.i64.wrap ((↑n : Int) - (1 : Int)))) (cIf (decide ((IntKind.i64.wrap ((↑n : Int) - (1 : Int))).toNat < n)) (cIf (decide (n * 3 = a.length)) (cIf (decide (2 ≤ (List.drop 1 (List.drop ((IntKind.i64.wrap ((↑n : Int) - (1 : Int))).toNat * 3) a)).length)) (cIf (like [I (0 : Int), Bo false] (el (List.drop 1 (List.drop ((IntKind.i64.wrap ((↑n : Int) - (1 : Int))).toNat * 3) a)) 0 2)) (cIf (decide (0 < m)) (cIf (decide (m * 3 = b.length)) (cIf (decide (2 ≤ (List.drop 1 b).length)) (cIf (like [I (0 : Int), Bo false] (el (List.drop 1 b) 0 2)) (cIf (cI (el (List.drop 1 (List.drop ((IntKind.i64.wrap ((↑n : Int) - (1 : Int))).toNat * 3) a)) 0 2) 0 == cI (el (List.drop 1 b) 0 2) 0 && (cB (el (List.drop 1 (List.drop ((IntKind.i64.wrap ((↑n : Int) - (1 : Int))).toNat * 3) a)) 0 2) 1 == cB (el (List.drop 1 b) 0 2) 1 && true)) (cIf (decide (1 ≤ m)) (cIf (decide (m ≤ m)) ((a.length = n * 3 ∧ (List.take ((m - 1) * 3) (List.drop 3 b)).length = (m - 1) * 3 ∧ a.all AV.one = true ∧ (List.take ((m - 1) * 3) (List.drop 3 b)).all AV.one = true ∧ 0 < n ∧ n ≤ 1000000 ∧ m - 1 ≤ 1000000 ∧ noHL 0 a = true ∧ noHL 0 (List.take ((m - 1) * 3) (List.drop 3 b)) = true ∧ scrubL 0 a = a ∧ scrubL 0 (List.take ((m - 1) * 3) (List.drop 3 b)) = List.take ((m - 1) * 3) (List.drop 3 b) ∧ zapL a = a ∧ zapL (List.take ((m - 1) * 3) (List.drop 3 b)) = List.take ((m - 1) * 3) (List.drop 3 b)) ∧ kRet Tryz.X68 68 Q EX.ret [AV.vs a n Tok.none, AV.vs (List.take ((m - 1) * 3) (List.drop 3 b)) (m - 1) Tok.none, X, X, AV.vs (a ++ List.take ((m - 1) * 3) (List.drop 3 b)) (n + (m - 1)) Tok.none, I (0 : Int), Bo !onEnc (encL encT) nrmB false b, AV.vs a n Tok.none, Bo (onEnc (encL encT) nrmB false a), Bo !onEnc (encL encT) nrmB false a, Bo false, AV.vs b m Tok.none, Bo (onEnc (encL encT) nrmB false b), Bo !onEnc (encL encT) nrmB false b, Bo !onEnc (encL encT) nrmB false b, Bo (decide (cI (List.drop ((IntKind.i64.wrap ((↑n : Int) - (1 : Int))).toNat * 3) a) 0 ≥ cI b 0)), AV.vs a n Tok.none, AV.vs a n Tok.none, I (↑n : Int), I (IntKind.i64.wrap ((↑n : Int) - (1 : Int))), AV.vp (List.drop ((IntKind.i64.wrap ((↑n : Int) - (1 : Int))).toNat * 3) a), AV.vp (List.drop ((IntKind.i64.wrap ((↑n : Int) - (1 : Int))).toNat * 3) a), I (cI (List.drop ((IntKind.i64.wrap ((↑n : Int) - (1 : Int))).toNat * 3) a) 0), AV.vs b m Tok.none, AV.vp b, AV.vp b, I (cI b 0), Bo (decide (cI (List.drop ((IntKind.i64.wrap ((↑n : Int) - (1 : Int))).toNat * 3) a) 0 ≥ cI b 0)), AV.vs a n Tok.none, AV.vs a n Tok.none, I (↑n : Int), I (IntKind.i64.wrap ((↑n : Int) - (1 : Int))), AV.vp (List.drop ((IntKind.i64.wrap ((↑n : Int) - (1 : Int))).toNat * 3) a), AV.vp (List.drop 1 (List.drop ((IntKind.i64.wrap ((↑n : Int) - (1 : Int))).toNat * 3) a)), AV.agg [AV.int IntKind.i64 (cI (el (List.drop 1 (List.drop ((IntKind.i64.wrap ((↑n : Int) - (1 : Int))).toNat * 3) a)) 0 2) 0), AV.bool (cB (el (List.drop 1 (List.drop ((IntKind.i64.wrap ((↑n : Int) - (1 : Int))).toNat * 3) a)) 0 2) 1)], AV.vs b m Tok.none, AV.vp b, AV.vp (List.drop 1 b), AV.agg [I (cI (el (List.drop 1 b) 0 2) 0), Bo (cB (el (List.drop 1 b) 0 2) 1)], AV.bool (cI (el (List.drop 1 (List.drop ((IntKind.i64.wrap ((↑n : Int) - (1 : Int))).toNat * 3) a)) 0 2) 0 == cI (el (List.drop 1 b) 0 2) 0 && (cB (el (List.drop 1 (List.drop ((IntKind.i64.wrap ((↑n : Int) - (1 : Int))).toNat * 3) a)) 0 2) 1 == cB (el (List.drop 1 b) 0 2) 1 && true)), AV.vs b m Tok.none, AV.vs (List.take ((m - 1) * 3) (List.drop 3 b)) (m - 1) Tok.none, AV.vs a n Tok.none, AV.vs (List.take ((m - 1) * 3) (List.drop 3 b)) (m - 1) Tok.none, AV.vs [AV.vs a n Tok.none, AV.vs (List.take ((m - 1) * 3) (List.drop 3 b)) (m - 1) Tok.none] 2 (Tok.own 0), AV.vs (a ++ List.take ((m - 1) * 3) (List.drop 3 b)) (n + (m - 1)) Tok.none] (St.mk [] [(2, 1, 67)] [])) False) False) ((a.length = n * 3 ∧ b.length = m * 3 ∧ a.all AV.one = true ∧ b.all AV.one = true ∧ 0 < n ∧ n ≤ 1000000 ∧ m ≤ 1000000 ∧ noHL 0 a = true ∧ noHL 0 b = true ∧ scrubL 0 a = a ∧ scrubL 0 b = b ∧ zapL a = a ∧ zapL b = b) ∧ kRet Tryz.X68 68 Q EX.ret [AV.vs a n Tok.none, AV.vs b m Tok.none, X, X, AV.vs (a ++ b) (n + m) Tok.none, I (0 : Int), Bo !onEnc (encL encT) nrmB false b, AV.vs a n Tok.none, Bo (onEnc (encL encT) nrmB false a), Bo !onEnc (encL encT) nrmB false a, Bo false, AV.vs b m Tok.none, Bo (onEnc (encL encT) nrmB false b), Bo !onEnc (encL encT) nrmB false b, Bo !onEnc (encL encT) nrmB false b, Bo (decide (cI (List.drop ((IntKind.i64.wrap ((↑n : Int) - (1 : Int))).toNat * 3) a) 0 ≥ cI b 0)), AV.vs a n Tok.none, AV.vs a n Tok.none, I (↑n : Int), I (IntKind.i64.wrap ((↑n : Int) - (1 : Int))), AV.vp (List.drop ((IntKind.i64.wrap ((↑n : Int) - (1 : Int))).toNat * 3) a), AV.vp (List.drop ((IntKind.i64.wrap ((↑n : Int) - (1 : Int))).toNat * 3) a), I (cI (List.drop ((IntKind.i64.wrap ((↑n : Int) - (1 : Int))).toNat * 3) a) 0), AV.vs b m Tok.none, AV.vp b, AV.vp b, I (cI b 0), Bo (decide (cI (List.drop ((IntKind.i64.wrap ((↑n : Int) - (1 : Int))).toNat * 3) a) 0 ≥ cI b 0)), AV.vs a n Tok.none, AV.vs a n Tok.none, I (↑n : Int), I (IntKind.i64.wrap ((↑n : Int) - (1 : Int))), AV.vp (List.drop ((IntKind.i64.wrap ((↑n : Int) - (1 : Int))).toNat * 3) a), AV.vp (List.drop 1 (List.drop ((IntKind.i64.wrap ((↑n : Int) - (1 : Int))).toNat * 3) a)), AV.agg [AV.int IntKind.i64 (cI (el (List.drop 1 (List.drop ((IntKind.i64.wrap ((↑n : Int) - (1 : Int))).toNat * 3) a)) 0 2) 0), AV.bool (cB (el (List.drop 1 (List.drop ((IntKind.i64.wrap ((↑n : Int) - (1 : Int))).toNat * 3) a)) 0 2) 1)], AV.vs b m Tok.none, AV.vp b, AV.vp (List.drop 1 b), AV.agg [I (cI (el (List.drop 1 b) 0 2) 0), Bo (cB (el (List.drop 1 b) 0 2) 1)], AV.bool (cI (el (List.drop 1 (List.drop ((IntKind.i64.wrap ((↑n : Int) - (1 : Int))).toNat * 3) a)) 0 2) 0 == cI (el (List.drop 1 b) 0 2) 0 && (cB (el (List.drop 1 (List.drop ((IntKind.i64.wrap ((↑n : Int) - (1 : Int))).toNat * 3) a)) 0 2) 1 == cB (el (List.drop 1 b) 0 2) 1 && true)), X, X, AV.vs a n Tok.none, AV.vs b m Tok.none, AV.vs [AV.vs a n Tok.none, AV.vs b m Tok.none] 2 (Tok.own 0), AV.vs (a ++ b) (n + m) Tok.none] (St.mk [] [(2, 1, 67)] []))) False) False) False) False) False) False) False) False) False)) False) False) False) False) False) False) False) False) False))) := by kernel_rfl
theorem v69 (a b : List AV) (n m : Nat) (Q : CR → Prop) : wpF Tryz.X69 69 [.vs a n .none, .vs b m .none] Q =
  ((∃ (x : List Trn), a = encL encT x ∧ n = x.length ∧ x.length ≤ 1000000) ∧ (∃ (x : List Trn), b = encL encT x ∧ m = x.length ∧ x.length ≤ 1000000) ∧ cIf (!onEnc (encL encT) nrmB false a) (Q (CR.ret (AV.tup [AV.vs [] 0 Tok.zero, I (1 : Int)]))) (cIf (!onEnc (encL encT) nrmB false b) (Q (CR.ret (AV.tup [AV.vs [] 0 Tok.zero, I (1 : Int)]))) (cIf (decide ((0 : Int) ≤ IntKind.i64.wrap ((↑n : Int) - (1 : Int)))) (cIf (decide ((IntKind.i64.wrap ((↑n : Int) - (1 : Int))).toNat < n)) (cIf (decide (n * 3 = a.length)) (cIf (decide (0 < (List.drop ((IntKind.i64.wrap ((↑n : Int) - (1 : Int))).toNat * 3) a).length)) (cIf (likeOk (AV.ofVal (Value.int IntKind.i64 (0 : Int))) ((List.drop ((IntKind.i64.wrap ((↑n : Int) - (1 : Int))).toNat * 3) a).getD 0 X)) (cIf (decide (0 < m)) (cIf (decide (m * 3 = b.length)) (cIf (decide (0 < b.length)) (cIf (likeOk (AV.ofVal (Value.int IntKind.i64 (0 : Int))) (b.getD 0 X)) (cIf (decide (cI (List.drop ((IntKind.i64.wrap ((↑n : Int) - (1 : Int))).toNat * 3) a) 0 ≥ cI b 0)) (Q (CR.ret (AV.tup [AV.vs [] 0 Tok.zero, I (7 : Int)]))) (cIf (decide (a.length = n * 3)) (cIf (a.all AV.one) (cIf (decide ((0 + n) * 24 ≤ 140737488355328)) (cIf (decide (0 + n ≤ 140737488355328)) (cIf (decide (n = 0)) (WLoop Tryz.X69 (cd Tryz.X69.P 69 [1, 1, 1, 1, 1, 1, 0, 1, 0, 0]) ([AV.vs a n Tok.none, AV.vs b m Tok.none, X, X, X, X, X, X, AV.vs [] 0 (Tok.own 0), I (0 : Int)] ++ List.replicate 55 X) (St.mk [] [(0, 3, 77)] []) (kBlock 0 (kSeq Tryz.X69 (cd Tryz.X69.P 69 [1, 1, 1, 1, 1, 1, 1]) (kRet Tryz.X69 69 Q)))) (WLoop Tryz.X69 (cd Tryz.X69.P 69 [1, 1, 1, 1, 1, 1, 0, 1, 0, 0]) ([AV.vs a n Tok.none, AV.vs b m Tok.none, X, X, X, X, X, X, AV.vs ([] ++ a) (0 + n) (Tok.own 0), I (0 : Int)] ++ List.replicate 55 X) (St.mk [] [(0 + n, 3, 77)] []) (kBlock 0 (kSeq Tryz.X69 (cd Tryz.X69.P 69 [1, 1, 1, 1, 1, 1, 1]) (kRet Tryz.X69 69 Q))))) False) False) False) False)) False) False) False) False) False) False) False) False) False))) := by kernel_rfl
theorem v69l (a b c : List AV) (n m k i : Nat) (T : List (Nat × (Nat × Nat))) (Q : CR → Prop) : wpC Tryz.X69 (cd PP 69 [1, 1, 1, 1, 1, 1, 0, 1, 0, 0]) ([.vs a n .none, .vs b m .none, X, X, X, X, X, X, .vs c k (.own 0), I i] ++ List.replicate 55 X) ⟨[], T, []⟩ (kLoop Tryz.X69 (cd PP 69 [1, 1, 1, 1, 1, 1, 0, 1, 0, 0]) (kBlock 0 (kSeq Tryz.X69 (cd PP 69 [1, 1, 1, 1, 1, 1, 1]) (kRet Tryz.X69 69 Q)))) =
  (cIf (decide ((↑i : Int) < (↑m : Int))) (cIf (decide ((↑i : Int) > (0 : Int))) (cIf (decide (i < m)) (cIf (decide (m * 3 = b.length)) (cIf (decide (3 ≤ (List.drop (i * 3) b).length)) (cIf (like [I (0 : Int), I (0 : Int), Bo false] (el (List.drop (i * 3) b) 0 3)) (cIf (decide ((k + 1) * 24 ≤ 140737488355328)) (cIf (decide (k + 1 ≤ 140737488355328)) (cIf (decide (c.length = k * 3)) (cIf (decide ((T ++ [(1, 3, 77)])[0]? = some (k, 3, 77))) (WLoop Tryz.X69 (cd PP 69 [1, 1, 1, 1, 1, 1, 0, 1, 0, 0]) ([AV.vs a n Tok.none, AV.vs b m Tok.none, X, X, X, X, X, X, AV.vs (c ++ [I (cI (el (List.drop (i * 3) b) 0 3) 0), I (cI (el (List.drop (i * 3) b) 0 3) 1), Bo (cB (el (List.drop (i * 3) b) 0 3) 2)]) (k + 1) (Tok.own 0), I (IntKind.i64.wrap ((↑i : Int) + (1 : Int)))] ++ List.replicate 55 X) (St.mk [] ((T ++ [(1, 3, 77)]).set 0 (k + 1, 3, 77)) []) (kBlock 0 (kSeq Tryz.X69 (cd PP 69 [1, 1, 1, 1, 1, 1, 1]) (kRet Tryz.X69 69 Q)))) False) False) False) False) False) False) False) False) (cIf (decide (0 < m)) (cIf (decide (m * 3 = b.length)) (cIf (decide (2 ≤ (List.drop 1 b).length)) (cIf (like [I (0 : Int), Bo false] (el (List.drop 1 b) 0 2)) (cIf (decide ((0 : Int) ≤ IntKind.i64.wrap ((↑n : Int) - (1 : Int)))) (cIf (decide ((IntKind.i64.wrap ((↑n : Int) - (1 : Int))).toNat < n)) (cIf (decide (n * 3 = a.length)) (cIf (decide (2 ≤ (List.drop 1 (List.drop ((IntKind.i64.wrap ((↑n : Int) - (1 : Int))).toNat * 3) a)).length)) (cIf (like [I (0 : Int), Bo false] (el (List.drop 1 (List.drop ((IntKind.i64.wrap ((↑n : Int) - (1 : Int))).toNat * 3) a)) 0 2)) (cIf (!(cI (el (List.drop 1 b) 0 2) 0 == cI (el (List.drop 1 (List.drop ((IntKind.i64.wrap ((↑n : Int) - (1 : Int))).toNat * 3) a)) 0 2) 0 && (cB (el (List.drop 1 b) 0 2) 1 == cB (el (List.drop 1 (List.drop ((IntKind.i64.wrap ((↑n : Int) - (1 : Int))).toNat * 3) a)) 0 2) 1 && true))) (cIf (decide (i < m)) (cIf (decide (m * 3 = b.length)) (cIf (decide (3 ≤ (List.drop (i * 3) b).length)) (cIf (like [I (0 : Int), I (0 : Int), Bo false] (el (List.drop (i * 3) b) 0 3)) (cIf (decide ((k + 1) * 24 ≤ 140737488355328)) (cIf (decide (k + 1 ≤ 140737488355328)) (cIf (decide (c.length = k * 3)) (cIf (decide ((T ++ [(1, 3, 77)])[0]? = some (k, 3, 77))) (WLoop Tryz.X69 (cd PP 69 [1, 1, 1, 1, 1, 1, 0, 1, 0, 0]) ([AV.vs a n Tok.none, AV.vs b m Tok.none, X, X, X, X, X, X, AV.vs (c ++ [I (cI (el (List.drop (i * 3) b) 0 3) 0), I (cI (el (List.drop (i * 3) b) 0 3) 1), Bo (cB (el (List.drop (i * 3) b) 0 3) 2)]) (k + 1) (Tok.own 0), I (IntKind.i64.wrap ((↑i : Int) + (1 : Int)))] ++ List.replicate 55 X) (St.mk [] ((T ++ [(1, 3, 77)]).set 0 (k + 1, 3, 77)) []) (kBlock 0 (kSeq Tryz.X69 (cd PP 69 [1, 1, 1, 1, 1, 1, 1]) (kRet Tryz.X69 69 Q)))) False) False) False) False) False) False) False) False) (WLoop Tryz.X69 (cd PP 69 [1, 1, 1, 1, 1, 1, 0, 1, 0, 0]) ([AV.vs a n Tok.none, AV.vs b m Tok.none, X, X, X, X, X, X, AV.vs c k (Tok.own 0), I (IntKind.i64.wrap ((↑i : Int) + (1 : Int)))] ++ List.replicate 55 X) (St.mk [] T []) (kBlock 0 (kSeq Tryz.X69 (cd PP 69 [1, 1, 1, 1, 1, 1, 1]) (kRet Tryz.X69 69 Q))))) False) False) False) False) False) False) False) False) False)) (kRet Tryz.X69 69 Q EX.ret [X, X, X, X, AV.vs c k (Tok.own 0), I (0 : Int), X, X, AV.vs c k (Tok.own 0), X, X, X, X, X, X, X, X, X, X, X, X, X, X, X, X, X, X, X, X, X, X, X, X, X, X, X, X, X, X, X, X, X, X, X, X, X, X, X, X, X, X, X, X, X, X, X, X, X, X, X, X, X, X, X, AV.vs c k (Tok.own 0)] (St.mk [] T []))) := by kernel_rfl
theorem v18 (a b : List AV) (n m : Nat) (f u s : Int) (h : Bool) (Q : CR → Prop) : wpF Tryz.X18 18 [.vs a n .none, .vs b m .none, I f, I u, .agg [I s, Bo h]] Q =
  (cIf (decide ((↑n : Int) > (1000 : Int))) (True ∧ Q (CR.ret (Bo true))) (cIf (decide ((↑m : Int) > (1000 : Int))) (True ∧ Q (CR.ret (Bo true))) ((∃ (x : List Trn), ∃ (y : List Trn), a = encL encT x ∧ n = x.length ∧ b = encL encT y ∧ m = y.length ∧ x.length ≤ 1000000 ∧ y.length ≤ 1000000) ∧ (∃ (x : List Trn), ∃ (y : List Trn), a = encL encT x ∧ n = x.length ∧ b = encL encT y ∧ m = y.length ∧ x.length ≤ 1000000 ∧ y.length ≤ 1000000) ∧ True ∧ St.mk [some (HB.cells [I s, Bo h] 29)] [] [] = St.mk [some (HB.cells [I s, Bo h] 29)] [] [] ∧ cIf (joinX a b == joinX a b) (cIf (noHL [some (HB.cells [I s, Bo h] 29)].length ([] ++ [AV.vs (encL encT (joinR a b)) (joinR a b).length Tok.none, AV.vs (encL encT (joinR a b)) (joinR a b).length Tok.none] ++ [])) ((∃ (x : List Trn), ∃ (y : List Trn), encL encT (joinR a b) = encL encT x ∧ (joinR a b).length = x.length ∧ encL encT (joinR a b) = encL encT y ∧ (joinR a b).length = y.length ∧ x.length ≤ 10000000) ∧ St.mk [some (HB.cells [I s, Bo h] 29)] [] [] = St.mk [some (HB.cells [I s, Bo h] 29)] [] [] ∧ cIf (decide (encL encT (joinR a b) = encL encT (joinR a b))) (cIf (noHL [some (HB.cells [I s, Bo h] 29)].length ([] ++ [I f, I u, AV.vs a n Tok.none] ++ [])) ((∃ (x : List Trn), a = encL encT x ∧ n = x.length ∧ x.length ≤ 1000000) ∧ St.mk [some (HB.cells [I s, Bo h] 29)] [] [] = St.mk [some (HB.cells [I s, Bo h] 29)] [] [] ∧ cIf (noHL [some (HB.cells [I s, Bo h] 29)].length ([] ++ [I f, I u, AV.vs a n Tok.none] ++ [])) ((∃ (x : List Trn), a = encL encT x ∧ n = x.length ∧ x.length ≤ 1000000) ∧ St.mk [some (HB.cells [I s, Bo h] 29)] [] [] = St.mk [some (HB.cells [I s, Bo h] 29)] [] [] ∧ cIf (onEnc (encL encT) (chkT f u) false a == onEnc (encL encT) (chkT f u) false a) (cIf (noHL [some (HB.cells [I s, Bo h] 29)].length ([] ++ [AV.vs a n Tok.none, I u, AV.agg [I s, Bo h]] ++ [])) ((∃ (x : List Trn), a = encL encT x ∧ n = x.length ∧ x.length ≤ 1000000) ∧ St.mk [some (HB.cells [I s, Bo h] 29)] [] [] = St.mk [some (HB.cells [I s, Bo h] 29)] [] [] ∧ cIf (noHL [some (HB.cells [I s, Bo h] 29)].length ([] ++ [AV.vs a n Tok.none, I u, AV.agg [I s, Bo h]] ++ [])) ((∃ (x : List Trn), a = encL encT x ∧ n = x.length ∧ x.length ≤ 1000000) ∧ St.mk [some (HB.cells [I s, Bo h] 29)] [] [] = St.mk [some (HB.cells [I s, Bo h] 29)] [] [] ∧ Q (CR.ret (AV.bool (onEnc (encL encT) (fun (x : List Trn) => spentV x u (Sho.mk s h)) (0 : Int) a == onEnc (encL encT) (fun (x : List Trn) => spentV x u (Sho.mk s h)) (0 : Int) a)))) False) False) (Q (CR.ret (Bo false)))) False) False) (Q (CR.ret (Bo false)))) False) (Q (CR.ret (Bo false)))))) := by kernel_rfl
end Go.Proofs
/-! TS -/
set_option maxRecDepth 100000
set_option linter.unusedVariables false
set_option linter.unusedSimpArgs false
namespace Go.Ev
theorem zapT (l : List Trn) : zapL (encL encT l) = encL encT l := by
  induction l with
  | nil => rfl
  | cons x l ih => rw [encL, zapL_app, ih]; rfl
theorem kRet_vs {C : WCx} {g : FuncId} {fn : Func} {Q : CR → Prop} {env : Env} {s : St} {l : List AV} {n : Nat} {t : Tok} {e : Int} (hfn : C.P.funcs[g]? = some fn) (hres : resultsA C.pc fn env s = some (.tup [.vs l n t, I e])) (hn : noHL 0 l = true) (hs : scrubL 0 l = l) (hq : ∀ t', Q (.ret (.tup [.vs l n t', I e]))) : kRet C g Q EX.ret env s := by
  unfold kRet
  rw [hfn]
  simp only
  rw [hres]
  show optW (pub C.pc s.hs 0 (.tup [.vs l n t, I e])) _
  have e1 : pub C.pc s.hs 0 (.tup [.vs l n t, I e]) = some (.tup [.vs l n t, I e]) := by simp [pub, pubL, noH, hn]
  rw [e1]
  show Q _
  have e2 : scrub 0 (.tup [.vs l n t, I e]) = .tup [.vs l n (t.scrub 0), I e] := by simp [scrub, scrubL, hs]
  rw [e2]
  exact hq _
theorem joinE_bd {a b : List Trn} (ha : nrmB a = true) (hb : nrmB b = true) : joinE a b = if (a.getD (a.length - 1) zTrn).at' ≥ (b.getD 0 zTrn).at' then 7 else 0 := by
  unfold joinE; rw [ha, hb]; rfl
end Go.Ev
namespace Go.Proofs
open Go Go.Ev
attribute [local irreducible] wpF wpC cd
theorem joinR_eq (x y : List Trn) : joinR (encL encT x) (encL encT y) = joinL x y := by
  unfold joinR; rw [eT.on (by decide), eT.on (by decide)]
theorem joinX_eq (x y : List Trn) : joinX (encL encT x) (encL encT y) = joinE x y := by
  unfold joinX; rw [eT.on (by decide), eT.on (by decide)]
section
variable {xs ys : List Trn} (hl : xs.length ≤ 10000000) (he : xs.length = ys.length)
include hl he
theorem same_loop (Q : CR → Prop) : ∀ (d i : Nat), xs.length - i = d → i ≤ xs.length → Q (rB (decide (xs.drop i = ys.drop i))) →
    WLoop Tryz.X58 (cd PP 58 [1, 1, 0, 1, 0, 0]) ([.vs (encL encT xs) xs.length .none, .vs (encL encT ys) ys.length .none, X, X, X, I i] ++ List.replicate 20 X) ⟨[], [], []⟩ (kBlock 0 (kSeq Tryz.X58 (cd PP 58 [1, 1, 1]) (kRet Tryz.X58 58 Q))) := by
  intro d
  induction d with
  | zero =>
    intro i hd hi hQ
    have hi' : i = xs.length := by omega
    subst hi'
    refine WLoop_step Tryz.bok (Cts.nil _) ((v58l _ _ _ _ _ Q).mpr (cIf_neg (by simp) ?_))
    rw [List.drop_length, he, List.drop_length] at hQ
    simpa using hQ
  | succ d ih =>
    intro i hd hi hQ
    have hlt : i < xs.length := by omega
    have hlt2 : i < ys.length := by omega
    have e1 : xs.length - (i + 1) = d := by omega
    have w1 : IntKind.i64.wrap ((i : Int) + 1) = ((i + 1 : Nat) : Int) := wrap_id (by omega) (by omega)
    have h1 : (i : Int) < xs.length := by omega
    obtain ⟨x, hx, hdr⟩ := drop_cons hlt
    obtain ⟨y, hy, hdr2⟩ := drop_cons hlt2
    rw [hdr, hdr2] at hQ
    refine WLoop_step Tryz.bok (Cts.nil _) ((v58l _ _ _ _ _ Q).mpr ?_)
    simp only [dt h1, dt hlt, dt hlt2, eT.gl, eT.gd hlt, eT.g0 hlt (by decide), eT.el hx, eT.ld0 hx (by decide), T_like, eT.cI0 hx (by decide), T_lk0, T_c0, eT.gf hlt 1 (by decide), eT.ld hx 1 (by decide), eT.cI hx 1 (by decide), T_lk1, T_c1, eT.gf hlt 2 (by decide), eT.ld hx 2 (by decide), eT.cB hx 2 (by decide), T_lk2, T_c2, eT.gfn hlt 1 2 (by decide), T_el1 hx, H_like, H_c0, H_c1, eT.gl, eT.gd hlt2, eT.g0 hlt2 (by decide), eT.el hy, eT.ld0 hy (by decide), T_like, eT.cI0 hy (by decide), T_lk0, T_c0, eT.gf hlt2 1 (by decide), eT.ld hy 1 (by decide), eT.cI hy 1 (by decide), T_lk1, T_c1, eT.gf hlt2 2 (by decide), eT.ld hy 2 (by decide), eT.cB hy 2 (by decide), T_lk2, T_c2, eT.gfn hlt2 1 2 (by decide), T_el1 hy, H_like, H_c0, H_c1, cIf_true, w1]
    refine cIf_intro (fun h => ?_) (fun h => ?_)
    · have hne : ¬ x = y := by rintro rfl; simp at h
      have : ¬ (x :: xs.drop (i + 1) = y :: ys.drop (i + 1)) := fun e => hne (List.cons.inj e).1
      rw [df this] at hQ
      exact hQ
    · have heq : x = y := by
        cases x; cases y
        simp at h
        simp [h]
      subst heq
      refine ih (i + 1) e1 hlt ?_
      have : (x :: xs.drop (i + 1) = x :: ys.drop (i + 1)) ↔ (xs.drop (i + 1) = ys.drop (i + 1)) := by simp
      rwa [decide_eq_decide.2 this] at hQ
end
theorem ct58 : Ct Tryz.B.c0 58 R58 := Ct.of_wp (lm := lm58) (tp := []) (ct := []) (sm := []) Tryz.bok (Cts.nil _) ⟨_, _, Tryz.func58, rfl⟩ fun args D r hR hD => by
  unfold R58 at hR
  split at hR <;> cases hR
  rename_i a n b m
  obtain ⟨xs, ys, rfl, rfl, rfl, rfl, hl⟩ := hD
  refine ⟨by simp [noHL, noH, eT.noHL'], ?_⟩
  rw [show scrubL 0 [AV.vs (encL encT xs) xs.length .none, AV.vs (encL encT ys) ys.length .none] = [.vs (encL encT xs) xs.length .none, .vs (encL encT ys) ys.length .none] by simp [scrubL, scrub, eT.scL, Tok.scrub]]
  have hiff : (encL encT xs = encL encT ys) ↔ xs = ys := ⟨eT.injL (by decide) xs ys, fun h => by rw [h]⟩
  rw [decide_eq_decide.2 hiff]
  show wpF Tryz.X58 58 _ _
  rw [v58]
  refine cIf_intro (fun h => ?_) (fun h => ?_)
  · have h : xs.length ≠ ys.length := by simp at h; omega
    have : ¬ xs = ys := fun e => h (by rw [e])
    rw [df this]
  · have h : xs.length = ys.length := by simp at h; omega
    exact same_loop hl h _ _ 0 rfl (Nat.zero_le _) rfl
/-! ### Join -/
section
variable {xs ys : List Trn} (hx1 : xs.length ≤ 1000000) (hy1 : ys.length ≤ 1000000)
include hx1 hy1
/-- What is asked of the last turn and the first one. -/
theorem join_reads (hpx : 0 < xs.length) (hpy : 0 < ys.length) : ∃ p q, xs[xs.length - 1]? = some p ∧ ys[0]? = some q ∧ xs.getD (xs.length - 1) zTrn = p ∧ ys.getD 0 zTrn = q ∧ IntKind.i64.wrap ((xs.length : Int) - 1) = ((xs.length - 1 : Nat) : Int) ∧ xs.length - 1 < xs.length ∧
    decide (0 < (encL encT ys).length) = true ∧ likeOk (AV.ofVal (Value.int IntKind.i64 (0 : Int))) ((encL encT ys).getD 0 X) = true ∧ cI (encL encT ys) 0 = q.at' ∧ decide (2 ≤ (List.drop 1 (encL encT ys)).length) = true ∧ el (List.drop 1 (encL encT ys)) 0 2 = [I q.fl, Bo q.ho] := by
  obtain ⟨q, hq, _⟩ := drop_cons hpy
  have hl1 : xs.length - 1 < xs.length := by omega
  obtain ⟨p, hp, _⟩ := drop_cons hl1
  have z0 : encL encT ys = List.drop (0 * 3) (encL encT ys) := rfl
  refine ⟨p, q, hp, hq, getD_of hp, getD_of hq, ?_, hl1, dt (by rw [eT.lenL]; omega), by rw [z0, eT.ld0 hq (by decide)]; rfl, by rw [z0, eT.cI0 hq (by decide)]; rfl, ?_, ?_⟩
  · rw [wrap_id (by omega) (by omega)]; omega
  · rw [z0]; exact eT.gfn hpy 1 2 (by decide)
  · rw [z0]; exact T_el1 hq
end

theorem join_no1 {a b : List Trn} (h : nrmB a = false) : joinE a b = 1 ∧ joinL a b = [] := by
  have : joinE a b = 1 := by unfold joinE; rw [h]; rfl
  exact ⟨this, by unfold joinL; rw [if_neg (by rw [this]; decide)]⟩
theorem join_no2 {a b : List Trn} (h : nrmB b = false) : joinE a b = 1 ∧ joinL a b = [] := by
  have : joinE a b = 1 := by unfold joinE; rw [h, Bool.and_false]; rfl
  exact ⟨this, by unfold joinL; rw [if_neg (by rw [this]; decide)]⟩
theorem join_no3 {a b : List Trn} {p q : Trn} (ha : nrmB a = true) (hb : nrmB b = true) (hp : a.getD (a.length - 1) zTrn = p) (hq : b.getD 0 zTrn = q) (h : p.at' ≥ q.at') : joinE a b = 7 ∧ joinL a b = [] := by
  have : joinE a b = 7 := by rw [joinE_bd ha hb, hp, hq, if_pos h]
  exact ⟨this, by unfold joinL; rw [if_neg (by rw [this]; decide)]⟩
theorem join_yes {a b : List Trn} {p q : Trn} (ha : nrmB a = true) (hb : nrmB b = true) (hp : a.getD (a.length - 1) zTrn = p) (hq : b.getD 0 zTrn = q) (h : ¬ p.at' ≥ q.at') : joinE a b = 0 ∧ joinL a b = if sameS p q then a ++ b.drop 1 else a ++ b := by
  have : joinE a b = 0 := by rw [joinE_bd ha hb, hp, hq, if_neg h]
  exact ⟨this, by unfold joinL; rw [if_pos this, hp, hq]⟩
theorem sameS_beq (p q : Trn) : (p.fl == q.fl && p.ho == q.ho) = sameS p q := by
  unfold sameS
  rw [Bool.eq_iff_iff]; simp
theorem drop1_enc (ys : List Trn) : List.take ((ys.length - 1) * 3) (List.drop 3 (encL encT ys)) = encL encT (ys.drop 1) := by
  have h := eT.dropL ys 1
  rw [Nat.one_mul] at h
  rw [h, List.take_of_length_le]
  rw [eT.lenL, List.length_drop]
  exact Nat.le_refl _
theorem nrmB_pos {l : List Trn} (h : nrmB l = true) : 0 < l.length := by
  unfold nrmB at h; simp only [Bool.and_eq_true, decide_eq_true_eq] at h; exact h.2
theorem ct68 : Ct Tryz.B.c0 68 R68 := Ct.of_wpZ (l := [(125, R125), (135, R135)]) (lm := lm68) (tp := []) (ct := []) (sm := []) Tryz.bok (((Cts.nil _).cons (ct135 : Ct Tryz.B.c0 135 R135)).cons ct125) ⟨_, _, Tryz.func68, rfl⟩ fun args D r hR hD => by
  unfold R68 at hR
  split at hR <;> cases hR
  rename_i a n b m
  obtain ⟨xs, ys, rfl, rfl, rfl, rfl, hx1, hy1⟩ := hD
  refine ⟨by simp [noHL, noH, eT.noHL'], ?_⟩
  rw [show scrubL 0 [AV.vs (encL encT xs) xs.length .none, AV.vs (encL encT ys) ys.length .none] = [.vs (encL encT xs) xs.length .none, .vs (encL encT ys) ys.length .none] by simp [scrubL, scrub, eT.scL, Tok.scrub], joinR_eq, joinX_eq]
  show wpF Tryz.X68 68 _ _
  rw [v68]
  refine ⟨⟨xs, rfl, rfl, hx1⟩, ?_⟩
  rw [eT.on (by decide), eT.on (by decide)]
  refine cIf_intro (fun h => ?_) (fun h => ⟨⟨ys, rfl, rfl, hy1⟩, cIf_intro (fun h2 => ?_) (fun h2 => ?_)⟩)
  · obtain ⟨e1, e2⟩ := join_no1 (b := ys) (by simpa using h)
    rw [e1, e2]; rfl
  · obtain ⟨e1, e2⟩ := join_no2 (a := xs) (by simpa using h2)
    rw [e1, e2]; rfl
  · have h : nrmB xs = true := by simpa using h
    have h2 : nrmB ys = true := by simpa using h2
    have hpx := nrmB_pos h
    have hpy := nrmB_pos h2
    obtain ⟨p, q, hp, hq, gp, gq, w1, hl1, g1, g2, g3, g4, g5⟩ := join_reads hx1 hy1 hpx hpy
    simp only [w1, dt (Int.natCast_nonneg (xs.length - 1)), Int.toNat_natCast, dt hl1, eT.gl, eT.gd hl1, eT.g0 hl1 (by decide), eT.el hp, eT.ld0 hp (by decide), T_like, eT.cI0 hp (by decide), T_lk0, T_c0, eT.gf hl1 1 (by decide), eT.ld hp 1 (by decide), eT.cI hp 1 (by decide), T_lk1, T_c1, eT.gf hl1 2 (by decide), eT.ld hp 2 (by decide), eT.cB hp 2 (by decide), T_lk2, T_c2, eT.gfn hl1 1 2 (by decide), T_el1 hp, H_like, H_c0, H_c1, dt hpy, g1, g2, g3, g4, g5, cIf_true, drop1_enc, Bool.and_true, sameS_beq]
    refine cIf_intro (fun h3 => ?_) (fun h3 => ?_)
    · obtain ⟨e1, e2⟩ := join_no3 h h2 gp gq (of_decide_eq_true h3)
      rw [e1, e2]; rfl
    · obtain ⟨e1, e2⟩ := join_yes h h2 gp gq (of_decide_eq_false h3)
      refine cIf_intro (fun h4 => cIf_pos (dt (by omega)) (cIf_pos (dt (Nat.le_refl _)) ⟨⟨eT.lenL xs, by rw [eT.lenL, List.length_drop], eT.oneL xs, eT.oneL _, hpx, hx1, by omega, eT.noHL' 0 xs, eT.noHL' 0 _, eT.scL 0 xs, eT.scL 0 _, zapT xs, zapT _⟩, ?_⟩)) (fun h4 => ⟨⟨eT.lenL xs, eT.lenL ys, eT.oneL xs, eT.oneL _, hpx, hx1, hy1, eT.noHL' 0 xs, eT.noHL' 0 _, eT.scL 0 xs, eT.scL 0 _, zapT xs, zapT _⟩, ?_⟩)
      · rw [h4, if_pos rfl] at e2
        rw [e1, e2, ← encL_app]
        refine kRet_vs (C := Tryz.X68) (fn := Tryz.f68) Tryz.func68 rfl (eT.noHL' 0 _) (eT.scL 0 _) fun t' => ?_
        show CR.ret (AV.tup [AV.vs (zapL _) _ .none, I 0]) = _
        rw [zapT, List.length_append, List.length_drop]
      · rw [h4, if_neg (by decide)] at e2
        rw [e1, e2, ← encL_app]
        refine kRet_vs (C := Tryz.X68) (fn := Tryz.f68) Tryz.func68 rfl (eT.noHL' 0 _) (eT.scL 0 _) fun t' => ?_
        show CR.ret (AV.tup [AV.vs (zapL _) _ .none, I 0]) = _
        rw [zapT, List.length_append]

def sel (s : Bool) (ys : List Trn) (i : Nat) : List Trn := if s then (ys.take i).drop 1 else ys.take i
theorem sel_pos {s : Bool} {ys : List Trn} {i : Nat} {x : Trn} (hi : 0 < i) (hx : ys[i]? = some x) : sel s ys (i + 1) = sel s ys i ++ [x] := by
  have hlt := (List.getElem?_eq_some_iff.1 hx).1
  unfold sel
  rw [List.take_add_one, hx]
  cases s
  · rfl
  · simp only [if_true, Option.toList_some]
    rw [List.drop_append_of_le_length]
    rw [List.length_take]; omega
theorem sel_neg {ys : List Trn} {x : Trn} (hx : ys[0]? = some x) : sel false ys 1 = sel false ys 0 ++ [x] := by
  unfold sel
  rw [List.take_add_one, hx]
  rfl
theorem sel_yes {ys : List Trn} : sel true ys 1 = sel true ys 0 := by
  unfold sel
  cases ys <;> simp
theorem encT_snoc (zs : List Trn) (x : Trn) : encL encT zs ++ [I x.at', I x.fl, Bo x.ho] = encL encT (zs ++ [x]) := by
  rw [encL_app]; rfl
section
variable {xs ys : List Trn} (hx1 : xs.length ≤ 1000000) (hy1 : ys.length ≤ 1000000) (hpx : 0 < xs.length) (hpy : 0 < ys.length) {p q : Trn} (hp : xs.getD (xs.length - 1) zTrn = p) (hq : ys.getD 0 zTrn = q)
include hx1 hy1 hpx hpy hp hq
theorem joinR_loop (Q : CR → Prop) (hQ : ∀ t', Q (.ret (.tup [.vs (encL encT (xs ++ sel (sameS p q) ys ys.length)) (xs ++ sel (sameS p q) ys ys.length).length t', I 0]))) : ∀ (d i : Nat) (zs : List Trn) (T : List (Nat × (Nat × Nat))), ys.length - i = d → i ≤ ys.length → zs = xs ++ sel (sameS p q) ys i → T[0]? = some (zs.length, (3, 77)) →
    WLoop Tryz.X69 (cd PP 69 [1, 1, 1, 1, 1, 1, 0, 1, 0, 0]) ([.vs (encL encT xs) xs.length .none, .vs (encL encT ys) ys.length .none, X, X, X, X, X, X, .vs (encL encT zs) zs.length (.own 0), I i] ++ List.replicate 55 X) ⟨[], T, []⟩ (kBlock 0 (kSeq Tryz.X69 (cd PP 69 [1, 1, 1, 1, 1, 1, 1]) (kRet Tryz.X69 69 Q))) := by
  have hc : Cts Tryz.B [(136, R125)] := (Cts.nil _).cons ct136
  intro d
  induction d with
  | zero =>
    intro i zs T hd hi hz hT
    have hi' : i = ys.length := by omega
    subst hi'
    refine WLoop_step Tryz.bok hc ((v69l _ _ _ _ _ _ _ T Q).mpr (cIf_neg (by simp) ?_))
    subst hz
    exact kRet_vs (C := Tryz.X69) (fn := Tryz.f69) Tryz.func69 rfl (eT.noHL' 0 _) (eT.scL 0 _) hQ
  | succ d ih =>
    intro i zs T hd hi hz hT
    have hlt : i < ys.length := by omega
    have e1 : ys.length - (i + 1) = d := by omega
    have w1 : IntKind.i64.wrap ((i : Int) + 1) = ((i + 1 : Nat) : Int) := wrap_id (by omega) (by omega)
    have h1 : (i : Int) < ys.length := by omega
    obtain ⟨x, hx, hdr⟩ := drop_cons hlt
    have hzl : zs.length ≤ 2000000 := by
      rw [hz, List.length_append]
      have : (sel (sameS p q) ys i).length ≤ ys.length := by
        unfold sel; split
        · rw [List.length_drop, List.length_take]; omega
        · rw [List.length_take]; omega
      omega
    have hTl : 0 < T.length := (List.getElem?_eq_some_iff.1 hT).1
    have t1 : (T ++ [(1, 3, 77)])[0]? = some (zs.length, 3, 77) := by rw [List.getElem?_append_left hTl]; exact hT
    have t2 : ((T ++ [(1, 3, 77)]).set 0 (zs.length + 1, 3, 77))[0]? = some (zs.length + 1, 3, 77) := by
      rw [List.getElem?_set_self]
      rw [List.length_append]; omega
    have hadd : zs ++ [x] = xs ++ sel (sameS p q) ys (i + 1) → WLoop Tryz.X69 (cd PP 69 [1, 1, 1, 1, 1, 1, 0, 1, 0, 0]) ([.vs (encL encT xs) xs.length .none, .vs (encL encT ys) ys.length .none, X, X, X, X, X, X, .vs (encL encT (zs ++ [x])) (zs.length + 1) (.own 0), I ((i + 1 : Nat) : Int)] ++ List.replicate 55 X) ⟨[], (T ++ [(1, 3, 77)]).set 0 (zs.length + 1, 3, 77), []⟩ (kBlock 0 (kSeq Tryz.X69 (cd PP 69 [1, 1, 1, 1, 1, 1, 1]) (kRet Tryz.X69 69 Q))) := fun h => by
      have := ih (i + 1) (zs ++ [x]) ((T ++ [(1, 3, 77)]).set 0 (zs.length + 1, 3, 77)) e1 hlt h (by rw [t2, List.length_append]; rfl)
      rwa [List.length_append, List.length_singleton] at this
    have hkeep : zs = xs ++ sel (sameS p q) ys (i + 1) → WLoop Tryz.X69 (cd PP 69 [1, 1, 1, 1, 1, 1, 0, 1, 0, 0]) ([.vs (encL encT xs) xs.length .none, .vs (encL encT ys) ys.length .none, X, X, X, X, X, X, .vs (encL encT zs) zs.length (.own 0), I ((i + 1 : Nat) : Int)] ++ List.replicate 55 X) ⟨[], T, []⟩ (kBlock 0 (kSeq Tryz.X69 (cd PP 69 [1, 1, 1, 1, 1, 1, 1]) (kRet Tryz.X69 69 Q))) := fun h => ih (i + 1) zs T e1 hlt h hT
    clear ih
    have b1 : (zs.length + 1) * 24 ≤ 140737488355328 := by omega
    have b2 : zs.length + 1 ≤ 140737488355328 := by omega
    refine WLoop_step Tryz.bok hc ((v69l _ _ _ _ _ _ _ T Q).mpr ?_)
    rcases Nat.eq_zero_or_pos i with rfl | hpos
    · obtain ⟨p', q', hp', hq', gp, gq, w2, hl1, g1, g2, g3, g4, g5⟩ := join_reads hx1 hy1 hpx hpy
      have ep : p' = p := by rw [← gp, hp]
      have eq' : q' = q := by rw [← gq, hq]
      subst ep; subst eq'
      have hxq : x = q' := Option.some.inj (hx.symm.trans hq')
      subst hxq
      simp only [dt h1, show decide (((0 : Nat) : Int) > 0) = false from rfl, cIf_false, w2, dt (Int.natCast_nonneg (xs.length - 1)), Int.toNat_natCast, dt hl1, eT.gl, eT.gd hl1, eT.g0 hl1 (by decide), eT.el hp', eT.ld0 hp' (by decide), T_like, eT.cI0 hp' (by decide), T_lk0, T_c0, eT.gf hl1 1 (by decide), eT.ld hp' 1 (by decide), eT.cI hp' 1 (by decide), T_lk1, T_c1, eT.gf hl1 2 (by decide), eT.ld hp' 2 (by decide), eT.cB hp' 2 (by decide), T_lk2, T_c2, eT.gfn hl1 1 2 (by decide), T_el1 hp', H_like, H_c0, H_c1, dt hpy, g4, g5, dt hlt, eT.gl, eT.gd hlt, eT.g0 hlt (by decide), eT.el hx, eT.ld0 hx (by decide), T_like, eT.cI0 hx (by decide), T_lk0, T_c0, eT.gf hlt 1 (by decide), eT.ld hx 1 (by decide), eT.cI hx 1 (by decide), T_lk1, T_c1, eT.gf hlt 2 (by decide), eT.ld hx 2 (by decide), eT.cB hx 2 (by decide), T_lk2, T_c2, eT.gfn hlt 1 2 (by decide), T_el1 hx, H_like, H_c0, H_c1, dt b1, dt b2, dt t1, cIf_true, eT.gl, Bool.and_true, w1, encT_snoc, dt (eT.lenL zs)]
      have hsym : (x.fl == p'.fl && x.ho == p'.ho) = sameS p' x := by
        rw [← sameS_beq]; rw [Bool.eq_iff_iff]; simp only [Bool.and_eq_true, beq_iff_eq]; exact ⟨fun h => ⟨h.1.symm, h.2.symm⟩, fun h => ⟨h.1.symm, h.2.symm⟩⟩
      rw [hsym]
      refine cIf_intro (fun h => hadd ?_) (fun h => hkeep ?_)
      · have h : sameS p' x = false := by simpa using h
        rw [hz, h, sel_neg hx, List.append_assoc]
      · have h : sameS p' x = true := by simpa using h
        rw [hz, h, sel_yes]
    · have h2 : (i : Int) > 0 := by omega
      simp only [dt h1, dt h2, dt hlt, eT.gl, eT.gd hlt, eT.g0 hlt (by decide), eT.el hx, eT.ld0 hx (by decide), T_like, eT.cI0 hx (by decide), T_lk0, T_c0, eT.gf hlt 1 (by decide), eT.ld hx 1 (by decide), eT.cI hx 1 (by decide), T_lk1, T_c1, eT.gf hlt 2 (by decide), eT.ld hx 2 (by decide), eT.cB hx 2 (by decide), T_lk2, T_c2, eT.gfn hlt 1 2 (by decide), T_el1 hx, H_like, H_c0, H_c1, dt b1, dt b2, dt t1, cIf_true, w1, encT_snoc, dt (eT.lenL zs)]
      exact hadd (by rw [hz, sel_pos hpos hx, List.append_assoc])
end
theorem sel_all (s : Bool) (ys : List Trn) : sel s ys ys.length = if s then ys.drop 1 else ys := by
  unfold sel; rw [List.take_length]
theorem ct69 : Ct Tryz.B.c0 69 R68 := Ct.of_wpZ (l := [(136, R125)]) (lm := lm69) (tp := []) (ct := []) (sm := []) Tryz.bok ((Cts.nil _).cons ct136) ⟨_, _, Tryz.func69, rfl⟩ fun args D r hR hD => by
  unfold R68 at hR
  split at hR <;> cases hR
  rename_i a n b m
  obtain ⟨xs, ys, rfl, rfl, rfl, rfl, hx1, hy1⟩ := hD
  refine ⟨by simp [noHL, noH, eT.noHL'], ?_⟩
  rw [show scrubL 0 [AV.vs (encL encT xs) xs.length .none, AV.vs (encL encT ys) ys.length .none] = [.vs (encL encT xs) xs.length .none, .vs (encL encT ys) ys.length .none] by simp [scrubL, scrub, eT.scL, Tok.scrub], joinR_eq, joinX_eq]
  show wpF Tryz.X69 69 _ _
  rw [v69]
  refine ⟨⟨xs, rfl, rfl, hx1⟩, ⟨ys, rfl, rfl, hy1⟩, ?_⟩
  rw [eT.on (by decide), eT.on (by decide)]
  refine cIf_intro (fun h => ?_) (fun h => cIf_intro (fun h2 => ?_) (fun h2 => ?_))
  · obtain ⟨e1, e2⟩ := join_no1 (b := ys) (by simpa using h)
    rw [e1, e2]; rfl
  · obtain ⟨e1, e2⟩ := join_no2 (a := xs) (by simpa using h2)
    rw [e1, e2]; rfl
  · have h : nrmB xs = true := by simpa using h
    have h2 : nrmB ys = true := by simpa using h2
    have hpx := nrmB_pos h
    have hpy := nrmB_pos h2
    obtain ⟨p, q, hp, hq, gp, gq, w1, hl1, g1, g2, g3, g4, g5⟩ := join_reads hx1 hy1 hpx hpy
    have b1 : (0 + xs.length) * 24 ≤ 140737488355328 := by omega
    have b2 : 0 + xs.length ≤ 140737488355328 := by omega
    have b3 : ¬ xs.length = 0 := by omega
    simp only [w1, dt (Int.natCast_nonneg (xs.length - 1)), Int.toNat_natCast, dt hl1, eT.gl, eT.gd hl1, eT.g0 hl1 (by decide), eT.el hp, eT.ld0 hp (by decide), T_like, eT.cI0 hp (by decide), T_lk0, T_c0, eT.gf hl1 1 (by decide), eT.ld hp 1 (by decide), eT.cI hp 1 (by decide), T_lk1, T_c1, eT.gf hl1 2 (by decide), eT.ld hp 2 (by decide), eT.cB hp 2 (by decide), T_lk2, T_c2, eT.gfn hl1 1 2 (by decide), T_el1 hp, H_like, H_c0, H_c1, dt hpy, g1, g2, g3, cIf_true, dt (eT.lenL xs), eT.oneL xs, dt b1, dt b2, df b3, cIf_false]
    refine cIf_intro (fun h3 => ?_) (fun h3 => ?_)
    · obtain ⟨e1, e2⟩ := join_no3 h h2 gp gq (of_decide_eq_true h3)
      rw [e1, e2]; rfl
    · obtain ⟨e1, e2⟩ := join_yes h h2 gp gq (of_decide_eq_false h3)
      have hs : xs ++ sel (sameS p q) ys ys.length = joinL xs ys := by
        rw [e2, sel_all]; split <;> rfl
      have z : xs = xs ++ sel (sameS p q) ys 0 := by unfold sel; simp
      have := joinR_loop hx1 hy1 hpx hpy gp gq (fun r' => zapR r' = CR.ret (AV.tup [AV.vs (encL encT (joinL xs ys)) (joinL xs ys).length .none, I (joinE xs ys)])) (fun t' => by
        rw [hs, e1]
        show CR.ret (AV.tup [AV.vs (zapL _) _ .none, I 0]) = _
        rw [zapT]) _ 0 xs [(xs.length, 3, 77)] rfl (Nat.zero_le _) z rfl
      rw [List.nil_append, Nat.zero_add]
      exact this

noncomputable def R18 : Spc := fun args => match args with
  | [.vs a n .none, .vs b m .none, .int .i64 f, .int .i64 u, .agg [.int .i64 s, .bool h]] => some ((∃ x, a = encL encT x ∧ n = x.length ∧ ∀ t ∈ x, okT t) ∧ (∃ y, b = encL encT y ∧ m = y.length ∧ ∀ t ∈ y, okT t), rB true)
  | _ => none
theorem joinL_len (x y : List Trn) : (joinL x y).length ≤ x.length + y.length := by
  unfold joinL
  split
  · split
    · rw [List.length_append, List.length_drop]; omega
    · rw [List.length_append]; exact Nat.le_refl _
  · simp
theorem ct18 : Ct Tryz.B.c0 18 R18 := Ct.of_wp (lm := lm18) (tp := []) (ct := []) (sm := []) Tryz.bok (((((((((Cts.nil _).cons ct26).cons ct72).cons ct71).cons ct70).cons ct59).cons ct58).cons ct69).cons ct68) ⟨_, _, Tryz.func18, rfl⟩ fun args D r hR hD => by
  unfold R18 at hR
  split at hR <;> cases hR
  rename_i a n b m f u s h
  obtain ⟨⟨xs, rfl, rfl, _⟩, ⟨ys, rfl, rfl, _⟩⟩ := hD
  refine ⟨by simp [noHL, noH, eT.noHL'], ?_⟩
  rw [show scrubL 0 [AV.vs (encL encT xs) xs.length .none, AV.vs (encL encT ys) ys.length .none, AV.int IntKind.i64 f, AV.int IntKind.i64 u, AV.agg [AV.int IntKind.i64 s, AV.bool h]] = [.vs (encL encT xs) xs.length .none, .vs (encL encT ys) ys.length .none, I f, I u, .agg [I s, Bo h]] by simp [scrubL, scrub, eT.scL, Tok.scrub]]
  show wpF Tryz.X18 18 _ _
  rw [v18]
  refine cIf_intro (fun h1 => ⟨trivial, rfl⟩) (fun h1 => cIf_intro (fun h2 => ⟨trivial, rfl⟩) (fun h2 => ?_))
  have h1 : xs.length ≤ 1000 := by have := of_decide_eq_false h1; omega
  have h2 : ys.length ≤ 1000 := by have := of_decide_eq_false h2; omega
  have hj : ∃ x y, encL encT xs = encL encT x ∧ xs.length = x.length ∧ encL encT ys = encL encT y ∧ ys.length = y.length ∧ x.length ≤ 1000000 ∧ y.length ≤ 1000000 := ⟨xs, ys, rfl, rfl, rfl, rfl, by omega, by omega⟩
  have hx : ∃ x, encL encT xs = encL encT x ∧ xs.length = x.length ∧ x.length ≤ 1000000 := ⟨xs, rfl, rfl, by omega⟩
  have hl := joinL_len xs ys
  refine ⟨hj, hj, trivial, rfl, cIf_pos (by simp) (cIf_pos (by simp [noHL, noH, eT.noHL']) ⟨⟨_, _, rfl, rfl, rfl, rfl, by rw [joinR_eq]; omega⟩, rfl, cIf_pos (by simp) (cIf_pos (by simp [noHL, noH, eT.noHL']) ⟨hx, rfl, cIf_pos (by simp [noHL, noH, eT.noHL']) ⟨hx, rfl, cIf_pos (by simp) (cIf_pos (by simp [noHL, noH, eT.noHL']) ⟨hx, rfl, cIf_pos (by simp [noHL, noH, eT.noHL']) ⟨hx, rfl, ?_⟩⟩)⟩⟩)⟩)⟩
  simp
end Go.Proofs
