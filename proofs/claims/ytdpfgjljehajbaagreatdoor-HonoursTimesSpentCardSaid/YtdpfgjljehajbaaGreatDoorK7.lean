/- Contracts of functions of the program and of the reference. -/
import Derived.Test.YtdpfgjljehajbaaGreatDoorK6
set_option linter.unusedVariables false
set_option linter.unusedSimpArgs false
/-! VTT -/
set_option maxRecDepth 100000
set_option linter.unusedVariables false
set_option linter.unusedSimpArgs false
namespace Go.Proofs
open Go Go.Ev
def lm19 : List (Nat × List Nat) := [(9, [0, 1, 2, 7, 9, 10, 72, 73, 74]), (13, [0, 1, 2, 7, 9, 10, 12, 13, 72, 73, 74, 78, 79, 80]), (17, [0, 1, 2, 7, 9, 10, 12, 13, 72, 73, 74]), (23, [0, 1, 2, 7, 9, 10, 72, 73, 74]), (24, [0, 2, 7, 9])]
noncomputable def Tryz.X19 : WCx := Tryz.B.wcx [(68, R68), (59, R59), (71, R71), (26, R26)] lm19 [] [17] [(9, 0), (13, 1), (17, 1), (23, 0), (24, 0)]
theorem v19 (a b : List AV) (n m : Nat) (u : Int) (Q : CR → Prop) : wpF Tryz.X19 19 [.vs a n .none, .vs b m .none, I u] Q =
  (cIf (decide ((↑n : Int) > (200 : Int))) (True ∧ Q (CR.ret (Bo true))) (cIf (decide ((↑m : Int) > (200 : Int))) (True ∧ Q (CR.ret (Bo true))) (cIf ((↑n : Int) == (0 : Int)) (True ∧ Q (CR.ret (Bo true))) (cIf ((↑m : Int) == (0 : Int)) (True ∧ Q (CR.ret (Bo true))) ((∃ (x : List Trn), ∃ (y : List Trn), a = encL encT x ∧ n = x.length ∧ b = encL encT y ∧ m = y.length ∧ x.length ≤ 1000000 ∧ y.length ≤ 1000000) ∧ cIf (joinX a b != (0 : Int)) (True ∧ Q (CR.ret (Bo true))) (cIf (decide (0 < n)) (cIf (decide (n * 3 = a.length)) (cIf (decide (0 < a.length)) (cIf (likeOk (AV.ofVal (Value.int IntKind.i64 (0 : Int))) (a.getD 0 X)) (cIf (decide (0 < m)) (cIf (decide (m * 3 = b.length)) (cIf (decide (0 < b.length)) (cIf (likeOk (AV.ofVal (Value.int IntKind.i64 (0 : Int))) (b.getD 0 X)) (cIf (noHL 0 ([] ++ [I (cI a 0), I (cI b 0), AV.vs a n Tok.none] ++ [])) ((∃ (x : List Trn), a = encL encT x ∧ n = x.length ∧ x.length ≤ 1000000) ∧ St.mk [] [] [] = St.mk [] [] [] ∧ cIf (!onEnc (encL encT) (chkT (cI a 0) (cI b 0)) false a) (True ∧ Q (CR.ret (Bo true))) (cIf (decide (0 < m)) (cIf (decide (m * 3 = b.length)) (cIf (decide (0 < b.length)) (cIf (likeOk (AV.ofVal (Value.int IntKind.i64 (0 : Int))) (b.getD 0 X)) (cIf (noHL 0 ([] ++ [I (cI b 0), I u, AV.vs b m Tok.none] ++ [])) ((∃ (x : List Trn), b = encL encT x ∧ m = x.length ∧ x.length ≤ 1000000) ∧ St.mk [] [] [] = St.mk [] [] [] ∧ cIf (!onEnc (encL encT) (chkT (cI b 0) u) false b) (True ∧ Q (CR.ret (Bo true))) (cIf (decide (a.length = n * 3)) (cIf (a.all AV.one) (cIf (decide ((0 + n) * 24 ≤ 140737488355328)) (cIf (decide (0 + n ≤ 140737488355328)) (cIf (decide (n = 0)) (cIf (decide (b.length = m * 3)) (cIf (b.all AV.one) (cIf (decide ((0 + m) * 24 ≤ 140737488355328)) (cIf (decide (0 + m ≤ 140737488355328)) (cIf (decide (m = 0)) (cIf (noHL 0 ([AV.vs a n Tok.none, AV.vs b m Tok.none, I u, X, X, X, X, AV.vs (encL encT (joinR a b)) (joinR a b).length Tok.none, X, I (0 : Int), AV.vs [] 0 Tok.zero, X, X, X, X, X, X, X, X, X, X, X, X, X, X, X, X, X, X, X, X, X, X, X, X, X, X, X, X, X, X, X, X, X, X, X, X, X, X, X, X, X, X, X, X, X, X, X, X, X, X, X, X, X, X, X, X, X, X, X, X, X, AV.vs [] 0 (Tok.own 0), I (0 : Int), I (0 : Int)] ++ List.replicate 68 X)) (WLoop Tryz.X19 (cd Tryz.X19.P 19 [1, 1, 1, 1, 1, 1, 0, 1, 0, 0]) ([AV.vs a n Tok.none, AV.vs b m Tok.none, I u, X, X, X, X, AV.vs (encL encT (joinR a b)) (joinR a b).length Tok.none, X, I (0 : Int), AV.vs [] 0 Tok.zero, X, X, X, X, X, X, X, X, X, X, X, X, X, X, X, X, X, X, X, X, X, X, X, X, X, X, X, X, X, X, X, X, X, X, X, X, X, X, X, X, X, X, X, X, X, X, X, X, X, X, X, X, X, X, X, X, X, X, X, X, X, AV.vs [] 0 (Tok.own 0), I (0 : Int), I (0 : Int)] ++ List.replicate 68 X) (St.mk [] [(0, 3, 77)] []) (kBlock 0 (kSeq Tryz.X19 (cd Tryz.X19.P 19 [1, 1, 1, 1, 1, 1, 1]) (kRet Tryz.X19 19 Q)))) False) (cIf (noHL 0 ([AV.vs a n Tok.none, AV.vs b m Tok.none, I u, X, X, X, X, AV.vs (encL encT (joinR a b)) (joinR a b).length Tok.none, X, I (0 : Int), AV.vs [] 0 Tok.zero, X, X, X, X, X, X, X, X, X, X, X, X, X, X, X, X, X, X, X, X, X, X, X, X, X, X, X, X, X, X, X, X, X, X, X, X, X, X, X, X, X, X, X, X, X, X, X, X, X, X, X, X, X, X, X, X, X, X, X, X, X, AV.vs ([] ++ b) (0 + m) (Tok.own 0), I (↑(0 + m) : Int), I (0 : Int)] ++ List.replicate 68 X)) (WLoop Tryz.X19 (cd Tryz.X19.P 19 [1, 1, 1, 1, 1, 1, 0, 1, 0, 0]) ([AV.vs a n Tok.none, AV.vs b m Tok.none, I u, X, X, X, X, AV.vs (encL encT (joinR a b)) (joinR a b).length Tok.none, X, I (0 : Int), AV.vs [] 0 Tok.zero, X, X, X, X, X, X, X, X, X, X, X, X, X, X, X, X, X, X, X, X, X, X, X, X, X, X, X, X, X, X, X, X, X, X, X, X, X, X, X, X, X, X, X, X, X, X, X, X, X, X, X, X, X, X, X, X, X, X, X, X, X, AV.vs ([] ++ b) (0 + m) (Tok.own 0), I (↑(0 + m) : Int), I (0 : Int)] ++ List.replicate 68 X) (St.mk [] [(0 + m, 3, 77)] []) (kBlock 0 (kSeq Tryz.X19 (cd Tryz.X19.P 19 [1, 1, 1, 1, 1, 1, 1]) (kRet Tryz.X19 19 Q)))) False)) False) False) False) False) (cIf (decide (b.length = m * 3)) (cIf (b.all AV.one) (cIf (decide ((0 + n + m) * 24 ≤ 140737488355328)) (cIf (decide (0 + n + m ≤ 140737488355328)) (cIf (decide (([] ++ a).length = (0 + n) * 3)) (cIf (decide (m = 0)) (cIf (noHL 0 ([AV.vs a n Tok.none, AV.vs b m Tok.none, I u, X, X, X, X, AV.vs (encL encT (joinR a b)) (joinR a b).length Tok.none, X, I (0 : Int), AV.vs [] 0 Tok.zero, X, X, X, X, X, X, X, X, X, X, X, X, X, X, X, X, X, X, X, X, X, X, X, X, X, X, X, X, X, X, X, X, X, X, X, X, X, X, X, X, X, X, X, X, X, X, X, X, X, X, X, X, X, X, X, X, X, X, X, X, X, AV.vs ([] ++ a) (0 + n) (Tok.own 0), I (↑(0 + n) : Int), I (0 : Int)] ++ List.replicate 68 X)) (WLoop Tryz.X19 (cd Tryz.X19.P 19 [1, 1, 1, 1, 1, 1, 0, 1, 0, 0]) ([AV.vs a n Tok.none, AV.vs b m Tok.none, I u, X, X, X, X, AV.vs (encL encT (joinR a b)) (joinR a b).length Tok.none, X, I (0 : Int), AV.vs [] 0 Tok.zero, X, X, X, X, X, X, X, X, X, X, X, X, X, X, X, X, X, X, X, X, X, X, X, X, X, X, X, X, X, X, X, X, X, X, X, X, X, X, X, X, X, X, X, X, X, X, X, X, X, X, X, X, X, X, X, X, X, X, X, X, X, AV.vs ([] ++ a) (0 + n) (Tok.own 0), I (↑(0 + n) : Int), I (0 : Int)] ++ List.replicate 68 X) (St.mk [] [(0 + n, 3, 77)] []) (kBlock 0 (kSeq Tryz.X19 (cd Tryz.X19.P 19 [1, 1, 1, 1, 1, 1, 1]) (kRet Tryz.X19 19 Q)))) False) (cIf (decide ([(0 + n, 3, 77)][0]? = some (0 + n, 3, 77))) (cIf (noHL 0 ([AV.vs a n Tok.none, AV.vs b m Tok.none, I u, X, X, X, X, AV.vs (encL encT (joinR a b)) (joinR a b).length Tok.none, X, I (0 : Int), AV.vs [] 0 Tok.zero, X, X, X, X, X, X, X, X, X, X, X, X, X, X, X, X, X, X, X, X, X, X, X, X, X, X, X, X, X, X, X, X, X, X, X, X, X, X, X, X, X, X, X, X, X, X, X, X, X, X, X, X, X, X, X, X, X, X, X, X, X, AV.vs ([] ++ a ++ b) (0 + n + m) (Tok.own 0), I (↑(0 + n + m) : Int), I (0 : Int)] ++ List.replicate 68 X)) (WLoop Tryz.X19 (cd Tryz.X19.P 19 [1, 1, 1, 1, 1, 1, 0, 1, 0, 0]) ([AV.vs a n Tok.none, AV.vs b m Tok.none, I u, X, X, X, X, AV.vs (encL encT (joinR a b)) (joinR a b).length Tok.none, X, I (0 : Int), AV.vs [] 0 Tok.zero, X, X, X, X, X, X, X, X, X, X, X, X, X, X, X, X, X, X, X, X, X, X, X, X, X, X, X, X, X, X, X, X, X, X, X, X, X, X, X, X, X, X, X, X, X, X, X, X, X, X, X, X, X, X, X, X, X, X, X, X, X, AV.vs ([] ++ a ++ b) (0 + n + m) (Tok.own 0), I (↑(0 + n + m) : Int), I (0 : Int)] ++ List.replicate 68 X) (St.mk [] [(0 + n + m, 3, 77)] []) (kBlock 0 (kSeq Tryz.X19 (cd Tryz.X19.P 19 [1, 1, 1, 1, 1, 1, 1]) (kRet Tryz.X19 19 Q)))) False) False)) False) False) False) False) False)) False) False) False) False)) False) False) False) False) False)) False) False) False) False) False) False) False) False) False)))))) := by kernel_rfl
theorem v19l (a b l ab cs : List AV) (n m k q nd j i : Nat) (u sm : Int) (T : List (Nat × (Nat × Nat))) (Q : CR → Prop) : wpC Tryz.X19 (cd PP 19 [1, 1, 1, 1, 1, 1, 0, 1, 0, 0]) ([.vs a n .none, .vs b m .none, I u, X, X, X, X, .vs l k .none, X, I sm, .vs cs nd (.own j), X, X, X, X, X, X, X, X, X, X, X, X, X, X, X, X, X, X, X, X, X, X, X, X, X, X, X, X, X, X, X, X, X, X, X, X, X, X, X, X, X, X, X, X, X, X, X, X, X, X, X, X, X, X, X, X, X, X, X, X, X, .vs ab q (.own 0), I q, I i] ++ List.replicate 68 X) ⟨[], T, []⟩ (kLoop Tryz.X19 (cd PP 19 [1, 1, 1, 1, 1, 1, 0, 1, 0, 0]) (kBlock 0 (kSeq Tryz.X19 (cd PP 19 [1, 1, 1, 1, 1, 1, 1]) (kRet Tryz.X19 19 Q)))) =
  (cIf (decide ((↑i : Int) < (↑q : Int))) (cIf (decide (i < q)) (cIf (decide (q * 3 = ab.length)) (cIf (decide (3 ≤ (List.drop (i * 3) ab).length)) (cIf (like [I (0 : Int), I (0 : Int), Bo false] (el (List.drop (i * 3) ab) 0 3)) (cIf (noHL 1 ([AV.vs a n Tok.none, AV.vs b m Tok.none, I u, X, X, X, X, AV.vs l k Tok.none, X, I sm, AV.vs cs nd (Tok.own j), X, AV.ptr 0 0, Bo false, X, X, X, X, X, X, X, X, X, X, X, X, X, X, X, X, X, X, X, X, X, X, X, X, X, X, X, X, X, X, X, X, X, X, X, X, X, X, X, X, X, X, X, X, X, X, X, X, X, X, X, X, X, X, X, X, X, X, AV.vs ab q (Tok.own 0), I (↑q : Int), I (↑i : Int), X, X, X, AV.vs cs nd (Tok.own j), I (↑nd : Int), I (0 : Int)] ++ List.replicate 62 X)) (WLoop Tryz.X19 (cd PP 19 [1, 1, 1, 1, 1, 1, 0, 1, 0, 0, 1, 1, 0, 0, 1, 1, 0, 1, 0, 0]) ([AV.vs a n Tok.none, AV.vs b m Tok.none, I u, X, X, X, X, AV.vs l k Tok.none, X, I sm, AV.vs cs nd (Tok.own j), X, AV.ptr 0 0, Bo false, X, X, X, X, X, X, X, X, X, X, X, X, X, X, X, X, X, X, X, X, X, X, X, X, X, X, X, X, X, X, X, X, X, X, X, X, X, X, X, X, X, X, X, X, X, X, X, X, X, X, X, X, X, X, X, X, X, X, AV.vs ab q (Tok.own 0), I (↑q : Int), I (↑i : Int), X, X, X, AV.vs cs nd (Tok.own j), I (↑nd : Int), I (0 : Int)] ++ List.replicate 62 X) (St.mk [some (HB.cells [I (cI (el (List.drop (i * 3) ab) 0 3) 0), I (cI (el (List.drop (i * 3) ab) 0 3) 1), Bo (cB (el (List.drop (i * 3) ab) 0 3) 2)] 77)] T []) (kBlock 2 (kSeq Tryz.X19 (cd PP 19 [1, 1, 1, 1, 1, 1, 0, 1, 0, 0, 1, 1, 0, 0, 1, 1, 1]) (kBlock 1 (kSeq Tryz.X19 (cd PP 19 [1, 1, 1, 1, 1, 1, 0, 1, 0, 0, 1, 1, 1]) (kLoop Tryz.X19 (cd PP 19 [1, 1, 1, 1, 1, 1, 0, 1, 0, 0]) (kBlock 0 (kSeq Tryz.X19 (cd PP 19 [1, 1, 1, 1, 1, 1, 1]) (kRet Tryz.X19 19 Q))))))))) False) False) False) False) False) (True ∧ cIf (decide (0 < n)) (cIf (decide (n * 3 = a.length)) (cIf (decide (0 < a.length)) (cIf (likeOk (AV.ofVal (Value.int IntKind.i64 (0 : Int))) (a.getD 0 X)) (cIf (sm == IntKind.i64.wrap (u - cI a 0)) (cIf (decide (0 < n)) (cIf (decide (n * 3 = a.length)) (cIf (decide (0 < a.length)) (cIf (likeOk (AV.ofVal (Value.int IntKind.i64 (0 : Int))) (a.getD 0 X)) ((∃ (x : List Trn), l = encL encT x ∧ k = x.length ∧ x.length ≤ 1000000) ∧ Q (CR.ret (Bo (onEnc (encL encT) (chkT (cI a 0) u) false l)))) False) False) False) False) (Q (CR.ret (Bo false)))) False) False) False) False)) := by kernel_rfl
theorem v19l2 (a b l ab cs : List AV) (n m k q nd i d : Nat) (td : Tok) (u sm xa xf : Int) (xh kn : Bool) (T : List (Nat × (Nat × Nat))) (Q : CR → Prop) : wpC Tryz.X19 (cd PP 19 [1, 1, 1, 1, 1, 1, 0, 1, 0, 0, 1, 1, 0, 0, 1, 1, 0, 1, 0, 0]) ([.vs a n .none, .vs b m .none, I u, X, X, X, X, .vs l k .none, X, I sm, .vs cs nd td, X, .ptr 0 0, Bo kn, X, X, X, X, X, X, X, X, X, X, X, X, X, X, X, X, X, X, X, X, X, X, X, X, X, X, X, X, X, X, X, X, X, X, X, X, X, X, X, X, X, X, X, X, X, X, X, X, X, X, X, X, X, X, X, X, X, X, .vs ab q (.own 0), I q, I i, X, X, X, .vs cs nd td, I nd, I d] ++ List.replicate 62 X) ⟨[some (.cells [I xa, I xf, Bo xh] 77)], T, []⟩ (kLoop Tryz.X19 (cd PP 19 [1, 1, 1, 1, 1, 1, 0, 1, 0, 0, 1, 1, 0, 0, 1, 1, 0, 1, 0, 0]) (kBlock 2 (kSeq Tryz.X19 (cd PP 19 [1, 1, 1, 1, 1, 1, 0, 1, 0, 0, 1, 1, 0, 0, 1, 1, 1]) (kBlock 1 (kSeq Tryz.X19 (cd PP 19 [1, 1, 1, 1, 1, 1, 0, 1, 0, 0, 1, 1, 1]) (kLoop Tryz.X19 (cd PP 19 [1, 1, 1, 1, 1, 1, 0, 1, 0, 0]) (kBlock 0 (kSeq Tryz.X19 (cd PP 19 [1, 1, 1, 1, 1, 1, 1]) (kRet Tryz.X19 19 Q))))))))) =
  (cIf (decide ((↑d : Int) < (↑nd : Int))) (cIf (decide (d < nd)) (cIf (decide (nd * 2 = cs.length)) (cIf (decide (2 ≤ (List.drop (d * 2) cs).length)) (cIf (like [I (0 : Int), Bo false] (el (List.drop (d * 2) cs) 0 2)) (cIf kn (cIf (noHL 1 ([AV.vs a n Tok.none, AV.vs b m Tok.none, I u, X, X, X, X, AV.vs l k Tok.none, X, I sm, AV.vs cs nd td, X, AV.ptr 0 0, Bo true, X, X, X, X, X, X, X, X, X, X, X, X, X, X, X, X, X, X, X, X, X, X, X, X, X, X, X, X, X, X, X, X, X, X, X, X, X, X, X, X, X, X, X, X, X, X, X, X, X, X, X, X, X, X, X, X, X, X, AV.vs ab q (Tok.own 0), I (↑q : Int), I (↑i : Int), X, X, X, AV.vs cs nd td, I (↑nd : Int), I (IntKind.i64.wrap ((↑d : Int) + (1 : Int)))] ++ List.replicate 62 X)) (WLoop Tryz.X19 (cd PP 19 [1, 1, 1, 1, 1, 1, 0, 1, 0, 0, 1, 1, 0, 0, 1, 1, 0, 1, 0, 0]) ([AV.vs a n Tok.none, AV.vs b m Tok.none, I u, X, X, X, X, AV.vs l k Tok.none, X, I sm, AV.vs cs nd td, X, AV.ptr 0 0, Bo true, X, X, X, X, X, X, X, X, X, X, X, X, X, X, X, X, X, X, X, X, X, X, X, X, X, X, X, X, X, X, X, X, X, X, X, X, X, X, X, X, X, X, X, X, X, X, X, X, X, X, X, X, X, X, X, X, X, X, AV.vs ab q (Tok.own 0), I (↑q : Int), I (↑i : Int), X, X, X, AV.vs cs nd td, I (↑nd : Int), I (IntKind.i64.wrap ((↑d : Int) + (1 : Int)))] ++ List.replicate 62 X) (St.mk [some (HB.cells [I xa, I xf, Bo xh] 77)] T []) (kBlock 2 (kSeq Tryz.X19 (cd PP 19 [1, 1, 1, 1, 1, 1, 0, 1, 0, 0, 1, 1, 0, 0, 1, 1, 1]) (kBlock 1 (kSeq Tryz.X19 (cd PP 19 [1, 1, 1, 1, 1, 1, 0, 1, 0, 0, 1, 1, 1]) (kLoop Tryz.X19 (cd PP 19 [1, 1, 1, 1, 1, 1, 0, 1, 0, 0]) (kBlock 0 (kSeq Tryz.X19 (cd PP 19 [1, 1, 1, 1, 1, 1, 1]) (kRet Tryz.X19 19 Q))))))))) False) (cIf (noHL 1 ([AV.vs a n Tok.none, AV.vs b m Tok.none, I u, X, X, X, X, AV.vs l k Tok.none, X, I sm, AV.vs cs nd td, X, AV.ptr 0 0, Bo (cI (el (List.drop (d * 2) cs) 0 2) 0 == xf && (cB (el (List.drop (d * 2) cs) 0 2) 1 == xh && true)), X, X, X, X, X, X, X, X, X, X, X, X, X, X, X, X, X, X, X, X, X, X, X, X, X, X, X, X, X, X, X, X, X, X, X, X, X, X, X, X, X, X, X, X, X, X, X, X, X, X, X, X, X, X, X, X, X, X, AV.vs ab q (Tok.own 0), I (↑q : Int), I (↑i : Int), X, X, X, AV.vs cs nd td, I (↑nd : Int), I (IntKind.i64.wrap ((↑d : Int) + (1 : Int)))] ++ List.replicate 62 X)) (WLoop Tryz.X19 (cd PP 19 [1, 1, 1, 1, 1, 1, 0, 1, 0, 0, 1, 1, 0, 0, 1, 1, 0, 1, 0, 0]) ([AV.vs a n Tok.none, AV.vs b m Tok.none, I u, X, X, X, X, AV.vs l k Tok.none, X, I sm, AV.vs cs nd td, X, AV.ptr 0 0, Bo (cI (el (List.drop (d * 2) cs) 0 2) 0 == xf && (cB (el (List.drop (d * 2) cs) 0 2) 1 == xh && true)), X, X, X, X, X, X, X, X, X, X, X, X, X, X, X, X, X, X, X, X, X, X, X, X, X, X, X, X, X, X, X, X, X, X, X, X, X, X, X, X, X, X, X, X, X, X, X, X, X, X, X, X, X, X, X, X, X, X, AV.vs ab q (Tok.own 0), I (↑q : Int), I (↑i : Int), X, X, X, AV.vs cs nd td, I (↑nd : Int), I (IntKind.i64.wrap ((↑d : Int) + (1 : Int)))] ++ List.replicate 62 X) (St.mk [some (HB.cells [I xa, I xf, Bo xh] 77)] T []) (kBlock 2 (kSeq Tryz.X19 (cd PP 19 [1, 1, 1, 1, 1, 1, 0, 1, 0, 0, 1, 1, 0, 0, 1, 1, 1]) (kBlock 1 (kSeq Tryz.X19 (cd PP 19 [1, 1, 1, 1, 1, 1, 0, 1, 0, 0, 1, 1, 1]) (kLoop Tryz.X19 (cd PP 19 [1, 1, 1, 1, 1, 1, 0, 1, 0, 0]) (kBlock 0 (kSeq Tryz.X19 (cd PP 19 [1, 1, 1, 1, 1, 1, 1]) (kRet Tryz.X19 19 Q))))))))) False)) False) False) False) False) (cIf (noHL 1 ([AV.vs a n Tok.none, AV.vs b m Tok.none, I u, X, X, X, X, AV.vs l k Tok.none, X, I sm, AV.vs cs nd td, X, AV.ptr 0 0, Bo kn, X, X, X, X, X, X, X, X, X, X, X, X, X, X, X, X, X, X, X, X, X, X, X, X, X, X, X, X, X, X, X, X, X, X, X, X, X, X, X, X, X, X, X, X, X, X, X, X, X, X, X, X, X, X, X, X, X, X, AV.vs ab q (Tok.own 0), I (↑q : Int), I (↑i : Int)] ++ List.replicate 68 X)) (WCut Tryz.X19 (cd PP 19 [1, 1, 1, 1, 1, 1, 0, 1, 0, 0, 1, 1, 0, 0, 1, 1, 1]) ([AV.vs a n Tok.none, AV.vs b m Tok.none, I u, X, X, X, X, AV.vs l k Tok.none, X, I sm, AV.vs cs nd td, X, AV.ptr 0 0, Bo kn, X, X, X, X, X, X, X, X, X, X, X, X, X, X, X, X, X, X, X, X, X, X, X, X, X, X, X, X, X, X, X, X, X, X, X, X, X, X, X, X, X, X, X, X, X, X, X, X, X, X, X, X, X, X, X, X, X, X, AV.vs ab q (Tok.own 0), I (↑q : Int), I (↑i : Int)] ++ List.replicate 68 X) (St.mk [some (HB.cells [I xa, I xf, Bo xh] 77)] T []) (kBlock 1 (kSeq Tryz.X19 (cd PP 19 [1, 1, 1, 1, 1, 1, 0, 1, 0, 0, 1, 1, 1]) (kLoop Tryz.X19 (cd PP 19 [1, 1, 1, 1, 1, 1, 0, 1, 0, 0]) (kBlock 0 (kSeq Tryz.X19 (cd PP 19 [1, 1, 1, 1, 1, 1, 1]) (kRet Tryz.X19 19 Q))))))) False)) := by kernel_rfl
theorem v19z (a b l ab cs : List AV) (n m k q nd j i : Nat) (u sm : Int) (T : List (Nat × (Nat × Nat))) (Q : CR → Prop) : wpC Tryz.X19 (cd PP 19 [1, 1, 1, 1, 1, 1, 0, 1, 0, 0]) ([.vs a n .none, .vs b m .none, I u, X, X, X, X, .vs l k .none, X, I sm, .vs [] 0 .zero, X, X, X, X, X, X, X, X, X, X, X, X, X, X, X, X, X, X, X, X, X, X, X, X, X, X, X, X, X, X, X, X, X, X, X, X, X, X, X, X, X, X, X, X, X, X, X, X, X, X, X, X, X, X, X, X, X, X, X, X, X, .vs ab q (.own 0), I q, I i] ++ List.replicate 68 X) ⟨[], T, []⟩ (kLoop Tryz.X19 (cd PP 19 [1, 1, 1, 1, 1, 1, 0, 1, 0, 0]) (kBlock 0 (kSeq Tryz.X19 (cd PP 19 [1, 1, 1, 1, 1, 1, 1]) (kRet Tryz.X19 19 Q)))) =
  (cIf (decide ((↑i : Int) < (↑q : Int))) (cIf (decide (i < q)) (cIf (decide (q * 3 = ab.length)) (cIf (decide (3 ≤ (List.drop (i * 3) ab).length)) (cIf (like [I (0 : Int), I (0 : Int), Bo false] (el (List.drop (i * 3) ab) 0 3)) (cIf (noHL 1 ([AV.vs a n Tok.none, AV.vs b m Tok.none, I u, X, X, X, X, AV.vs l k Tok.none, X, I sm, AV.vs [] 0 Tok.zero, X, AV.ptr 0 0, Bo false, X, X, X, X, X, X, X, X, X, X, X, X, X, X, X, X, X, X, X, X, X, X, X, X, X, X, X, X, X, X, X, X, X, X, X, X, X, X, X, X, X, X, X, X, X, X, X, X, X, X, X, X, X, X, X, X, X, X, AV.vs ab q (Tok.own 0), I (↑q : Int), I (↑i : Int), X, X, X, AV.vs [] 0 Tok.zero, I (0 : Int), I (0 : Int)] ++ List.replicate 62 X)) (WLoop Tryz.X19 (cd PP 19 [1, 1, 1, 1, 1, 1, 0, 1, 0, 0, 1, 1, 0, 0, 1, 1, 0, 1, 0, 0]) ([AV.vs a n Tok.none, AV.vs b m Tok.none, I u, X, X, X, X, AV.vs l k Tok.none, X, I sm, AV.vs [] 0 Tok.zero, X, AV.ptr 0 0, Bo false, X, X, X, X, X, X, X, X, X, X, X, X, X, X, X, X, X, X, X, X, X, X, X, X, X, X, X, X, X, X, X, X, X, X, X, X, X, X, X, X, X, X, X, X, X, X, X, X, X, X, X, X, X, X, X, X, X, X, AV.vs ab q (Tok.own 0), I (↑q : Int), I (↑i : Int), X, X, X, AV.vs [] 0 Tok.zero, I (0 : Int), I (0 : Int)] ++ List.replicate 62 X) (St.mk [some (HB.cells [I (cI (el (List.drop (i * 3) ab) 0 3) 0), I (cI (el (List.drop (i * 3) ab) 0 3) 1), Bo (cB (el (List.drop (i * 3) ab) 0 3) 2)] 77)] T []) (kBlock 2 (kSeq Tryz.X19 (cd PP 19 [1, 1, 1, 1, 1, 1, 0, 1, 0, 0, 1, 1, 0, 0, 1, 1, 1]) (kBlock 1 (kSeq Tryz.X19 (cd PP 19 [1, 1, 1, 1, 1, 1, 0, 1, 0, 0, 1, 1, 1]) (kLoop Tryz.X19 (cd PP 19 [1, 1, 1, 1, 1, 1, 0, 1, 0, 0]) (kBlock 0 (kSeq Tryz.X19 (cd PP 19 [1, 1, 1, 1, 1, 1, 1]) (kRet Tryz.X19 19 Q))))))))) False) False) False) False) False) (True ∧ cIf (decide (0 < n)) (cIf (decide (n * 3 = a.length)) (cIf (decide (0 < a.length)) (cIf (likeOk (AV.ofVal (Value.int IntKind.i64 (0 : Int))) (a.getD 0 X)) (cIf (sm == IntKind.i64.wrap (u - cI a 0)) (cIf (decide (0 < n)) (cIf (decide (n * 3 = a.length)) (cIf (decide (0 < a.length)) (cIf (likeOk (AV.ofVal (Value.int IntKind.i64 (0 : Int))) (a.getD 0 X)) ((∃ (x : List Trn), l = encL encT x ∧ k = x.length ∧ x.length ≤ 1000000) ∧ Q (CR.ret (Bo (onEnc (encL encT) (chkT (cI a 0) u) false l)))) False) False) False) False) (Q (CR.ret (Bo false)))) False) False) False) False)) := by kernel_rfl
theorem v19co (a b l ab cs : List AV) (n m k q nd j i : Nat) (u sm xa xf : Int) (xh kn : Bool) (T : List (Nat × (Nat × Nat))) (Q : CR → Prop) : wpC Tryz.X19 (cd PP 19 [1, 1, 1, 1, 1, 1, 0, 1, 0, 0, 1, 1, 0, 0, 1, 1, 1]) ([.vs a n .none, .vs b m .none, I u, X, X, X, X, .vs l k .none, X, I sm, .vs cs nd (.own j), X, .ptr 0 0, Bo kn, X, X, X, X, X, X, X, X, X, X, X, X, X, X, X, X, X, X, X, X, X, X, X, X, X, X, X, X, X, X, X, X, X, X, X, X, X, X, X, X, X, X, X, X, X, X, X, X, X, X, X, X, X, X, X, X, X, X, .vs ab q (.own 0), I q, I i] ++ List.replicate 68 X) ⟨[some (.cells [I xa, I xf, Bo xh] 77)], T, []⟩ (kBlock 1 (kSeq Tryz.X19 (cd PP 19 [1, 1, 1, 1, 1, 1, 0, 1, 0, 0, 1, 1, 1]) (kLoop Tryz.X19 (cd PP 19 [1, 1, 1, 1, 1, 1, 0, 1, 0, 0]) (kBlock 0 (kSeq Tryz.X19 (cd PP 19 [1, 1, 1, 1, 1, 1, 1]) (kRet Tryz.X19 19 Q)))))) =
  (cIf kn (cIf (noHL 0 ([AV.vs a n Tok.none, AV.vs b m Tok.none, I u, X, X, X, X, AV.vs l k Tok.none, X, I sm, AV.vs cs nd (Tok.own j), X, X, X, X, X, X, X, X, X, X, X, X, X, X, X, X, X, X, X, X, X, X, X, X, X, X, X, X, X, X, X, X, X, X, X, X, X, X, X, X, X, X, X, X, X, X, X, X, X, X, X, X, X, X, X, X, X, X, X, X, X, AV.vs ab q (Tok.own 0), I (↑q : Int), I (IntKind.i64.wrap ((↑i : Int) + (1 : Int)))] ++ List.replicate 68 X)) (WLoop Tryz.X19 (cd PP 19 [1, 1, 1, 1, 1, 1, 0, 1, 0, 0]) ([AV.vs a n Tok.none, AV.vs b m Tok.none, I u, X, X, X, X, AV.vs l k Tok.none, X, I sm, AV.vs cs nd (Tok.own j), X, X, X, X, X, X, X, X, X, X, X, X, X, X, X, X, X, X, X, X, X, X, X, X, X, X, X, X, X, X, X, X, X, X, X, X, X, X, X, X, X, X, X, X, X, X, X, X, X, X, X, X, X, X, X, X, X, X, X, X, X, AV.vs ab q (Tok.own 0), I (↑q : Int), I (IntKind.i64.wrap ((↑i : Int) + (1 : Int)))] ++ List.replicate 68 X) (St.mk [] T []) (kBlock 0 (kSeq Tryz.X19 (cd PP 19 [1, 1, 1, 1, 1, 1, 1]) (kRet Tryz.X19 19 Q)))) False) (cIf (decide ((nd + 1) * 16 ≤ 140737488355328)) (cIf (decide (nd + 1 ≤ 140737488355328)) (cIf (decide (cs.length = nd * 2)) (cIf (decide ((T ++ [(1, 2, 29)])[j]? = some (nd, 2, 29))) ((∃ (x : List Trn), l = encL encT x ∧ k = x.length ∧ x.length ≤ 1000000) ∧ cIf (decide (0 < m)) (cIf (decide (m * 3 = b.length)) (cIf (decide (0 < b.length)) (cIf (likeOk (AV.ofVal (Value.int IntKind.i64 (0 : Int))) (b.getD 0 X)) (cIf (noHL [some (HB.cells [I xa, I xf, Bo xh] 77)].length ([] ++ [AV.vs a n Tok.none, I (cI b 0), AV.agg [I xf, Bo xh]] ++ [])) ((∃ (x : List Trn), a = encL encT x ∧ n = x.length ∧ x.length ≤ 1000000) ∧ St.mk [some (HB.cells [I xa, I xf, Bo xh] 77)] ((T ++ [(1, 2, 29)]).set j (nd + 1, 2, 29)) [] = St.mk [some (HB.cells [I xa, I xf, Bo xh] 77)] ((T ++ [(1, 2, 29)]).set j (nd + 1, 2, 29)) [] ∧ cIf (noHL [some (HB.cells [I xa, I xf, Bo xh] 77)].length ([] ++ [AV.vs b m Tok.none, I u, AV.agg [I xf, Bo xh]] ++ [])) ((∃ (x : List Trn), b = encL encT x ∧ m = x.length ∧ x.length ≤ 1000000) ∧ St.mk [some (HB.cells [I xa, I xf, Bo xh] 77)] ((T ++ [(1, 2, 29)]).set j (nd + 1, 2, 29)) [] = St.mk [some (HB.cells [I xa, I xf, Bo xh] 77)] ((T ++ [(1, 2, 29)]).set j (nd + 1, 2, 29)) [] ∧ cIf (onEnc (encL encT) (fun (x : List Trn) => spentV x u (Sho.mk xf xh)) (0 : Int) l != IntKind.i64.wrap (onEnc (encL encT) (fun (x : List Trn) => spentV x (cI b 0) (Sho.mk xf xh)) (0 : Int) a + onEnc (encL encT) (fun (x : List Trn) => spentV x u (Sho.mk xf xh)) (0 : Int) b)) (Q (CR.ret (Bo false))) (cIf (noHL 0 ([AV.vs a n Tok.none, AV.vs b m Tok.none, I u, X, X, X, X, AV.vs l k Tok.none, X, I (IntKind.i64.wrap (sm + onEnc (encL encT) (fun (x : List Trn) => spentV x u (Sho.mk xf xh)) (0 : Int) l)), AV.vs (cs ++ [I xf, Bo xh]) (nd + 1) (Tok.own j), X, X, X, X, X, X, X, X, X, X, X, X, X, X, X, X, X, X, X, X, X, X, X, X, X, X, X, X, X, X, X, X, X, X, X, X, X, X, X, X, X, X, X, X, X, X, X, X, X, X, X, X, X, X, X, X, X, X, X, X, X, AV.vs ab q (Tok.own 0), I (↑q : Int), I (IntKind.i64.wrap ((↑i : Int) + (1 : Int)))] ++ List.replicate 68 X)) (WLoop Tryz.X19 (cd PP 19 [1, 1, 1, 1, 1, 1, 0, 1, 0, 0]) ([AV.vs a n Tok.none, AV.vs b m Tok.none, I u, X, X, X, X, AV.vs l k Tok.none, X, I (IntKind.i64.wrap (sm + onEnc (encL encT) (fun (x : List Trn) => spentV x u (Sho.mk xf xh)) (0 : Int) l)), AV.vs (cs ++ [I xf, Bo xh]) (nd + 1) (Tok.own j), X, X, X, X, X, X, X, X, X, X, X, X, X, X, X, X, X, X, X, X, X, X, X, X, X, X, X, X, X, X, X, X, X, X, X, X, X, X, X, X, X, X, X, X, X, X, X, X, X, X, X, X, X, X, X, X, X, X, X, X, X, AV.vs ab q (Tok.own 0), I (↑q : Int), I (IntKind.i64.wrap ((↑i : Int) + (1 : Int)))] ++ List.replicate 68 X) (St.mk [] ((T ++ [(1, 2, 29)]).set j (nd + 1, 2, 29)) []) (kBlock 0 (kSeq Tryz.X19 (cd PP 19 [1, 1, 1, 1, 1, 1, 1]) (kRet Tryz.X19 19 Q)))) False)) False) False) False) False) False) False) False) False) False) False)) := by kernel_rfl
theorem v19cz (a b l ab cs : List AV) (n m k q nd j i : Nat) (u sm xa xf : Int) (xh kn : Bool) (T : List (Nat × (Nat × Nat))) (Q : CR → Prop) : wpC Tryz.X19 (cd PP 19 [1, 1, 1, 1, 1, 1, 0, 1, 0, 0, 1, 1, 0, 0, 1, 1, 1]) ([.vs a n .none, .vs b m .none, I u, X, X, X, X, .vs l k .none, X, I sm, .vs [] 0 .zero, X, .ptr 0 0, Bo kn, X, X, X, X, X, X, X, X, X, X, X, X, X, X, X, X, X, X, X, X, X, X, X, X, X, X, X, X, X, X, X, X, X, X, X, X, X, X, X, X, X, X, X, X, X, X, X, X, X, X, X, X, X, X, X, X, X, X, .vs ab q (.own 0), I q, I i] ++ List.replicate 68 X) ⟨[some (.cells [I xa, I xf, Bo xh] 77)], T, []⟩ (kBlock 1 (kSeq Tryz.X19 (cd PP 19 [1, 1, 1, 1, 1, 1, 0, 1, 0, 0, 1, 1, 1]) (kLoop Tryz.X19 (cd PP 19 [1, 1, 1, 1, 1, 1, 0, 1, 0, 0]) (kBlock 0 (kSeq Tryz.X19 (cd PP 19 [1, 1, 1, 1, 1, 1, 1]) (kRet Tryz.X19 19 Q)))))) =
  (cIf kn (cIf (noHL 0 ([AV.vs a n Tok.none, AV.vs b m Tok.none, I u, X, X, X, X, AV.vs l k Tok.none, X, I sm, AV.vs [] 0 Tok.zero, X, X, X, X, X, X, X, X, X, X, X, X, X, X, X, X, X, X, X, X, X, X, X, X, X, X, X, X, X, X, X, X, X, X, X, X, X, X, X, X, X, X, X, X, X, X, X, X, X, X, X, X, X, X, X, X, X, X, X, X, X, AV.vs ab q (Tok.own 0), I (↑q : Int), I (IntKind.i64.wrap ((↑i : Int) + (1 : Int)))] ++ List.replicate 68 X)) (WLoop Tryz.X19 (cd PP 19 [1, 1, 1, 1, 1, 1, 0, 1, 0, 0]) ([AV.vs a n Tok.none, AV.vs b m Tok.none, I u, X, X, X, X, AV.vs l k Tok.none, X, I sm, AV.vs [] 0 Tok.zero, X, X, X, X, X, X, X, X, X, X, X, X, X, X, X, X, X, X, X, X, X, X, X, X, X, X, X, X, X, X, X, X, X, X, X, X, X, X, X, X, X, X, X, X, X, X, X, X, X, X, X, X, X, X, X, X, X, X, X, X, X, AV.vs ab q (Tok.own 0), I (↑q : Int), I (IntKind.i64.wrap ((↑i : Int) + (1 : Int)))] ++ List.replicate 68 X) (St.mk [] T []) (kBlock 0 (kSeq Tryz.X19 (cd PP 19 [1, 1, 1, 1, 1, 1, 1]) (kRet Tryz.X19 19 Q)))) False) ((∃ (x : List Trn), l = encL encT x ∧ k = x.length ∧ x.length ≤ 1000000) ∧ cIf (decide (0 < m)) (cIf (decide (m * 3 = b.length)) (cIf (decide (0 < b.length)) (cIf (likeOk (AV.ofVal (Value.int IntKind.i64 (0 : Int))) (b.getD 0 X)) (cIf (noHL [some (HB.cells [I xa, I xf, Bo xh] 77)].length ([] ++ [AV.vs a n Tok.none, I (cI b 0), AV.agg [I xf, Bo xh]] ++ [])) ((∃ (x : List Trn), a = encL encT x ∧ n = x.length ∧ x.length ≤ 1000000) ∧ St.mk [some (HB.cells [I xa, I xf, Bo xh] 77)] (T ++ [(1, 2, 29)] ++ [(1, 2, 29)]) [] = St.mk [some (HB.cells [I xa, I xf, Bo xh] 77)] (T ++ [(1, 2, 29)] ++ [(1, 2, 29)]) [] ∧ cIf (noHL [some (HB.cells [I xa, I xf, Bo xh] 77)].length ([] ++ [AV.vs b m Tok.none, I u, AV.agg [I xf, Bo xh]] ++ [])) ((∃ (x : List Trn), b = encL encT x ∧ m = x.length ∧ x.length ≤ 1000000) ∧ St.mk [some (HB.cells [I xa, I xf, Bo xh] 77)] (T ++ [(1, 2, 29)] ++ [(1, 2, 29)]) [] = St.mk [some (HB.cells [I xa, I xf, Bo xh] 77)] (T ++ [(1, 2, 29)] ++ [(1, 2, 29)]) [] ∧ cIf (onEnc (encL encT) (fun (x : List Trn) => spentV x u (Sho.mk xf xh)) (0 : Int) l != IntKind.i64.wrap (onEnc (encL encT) (fun (x : List Trn) => spentV x (cI b 0) (Sho.mk xf xh)) (0 : Int) a + onEnc (encL encT) (fun (x : List Trn) => spentV x u (Sho.mk xf xh)) (0 : Int) b)) (Q (CR.ret (Bo false))) (cIf (noHL 0 ([AV.vs a n Tok.none, AV.vs b m Tok.none, I u, X, X, X, X, AV.vs l k Tok.none, X, I (IntKind.i64.wrap (sm + onEnc (encL encT) (fun (x : List Trn) => spentV x u (Sho.mk xf xh)) (0 : Int) l)), AV.vs [I xf, Bo xh] 1 (Tok.own (T ++ [(1, 2, 29)]).length), X, X, X, X, X, X, X, X, X, X, X, X, X, X, X, X, X, X, X, X, X, X, X, X, X, X, X, X, X, X, X, X, X, X, X, X, X, X, X, X, X, X, X, X, X, X, X, X, X, X, X, X, X, X, X, X, X, X, X, X, X, AV.vs ab q (Tok.own 0), I (↑q : Int), I (IntKind.i64.wrap ((↑i : Int) + (1 : Int)))] ++ List.replicate 68 X)) (WLoop Tryz.X19 (cd PP 19 [1, 1, 1, 1, 1, 1, 0, 1, 0, 0]) ([AV.vs a n Tok.none, AV.vs b m Tok.none, I u, X, X, X, X, AV.vs l k Tok.none, X, I (IntKind.i64.wrap (sm + onEnc (encL encT) (fun (x : List Trn) => spentV x u (Sho.mk xf xh)) (0 : Int) l)), AV.vs [I xf, Bo xh] 1 (Tok.own (T ++ [(1, 2, 29)]).length), X, X, X, X, X, X, X, X, X, X, X, X, X, X, X, X, X, X, X, X, X, X, X, X, X, X, X, X, X, X, X, X, X, X, X, X, X, X, X, X, X, X, X, X, X, X, X, X, X, X, X, X, X, X, X, X, X, X, X, X, X, AV.vs ab q (Tok.own 0), I (↑q : Int), I (IntKind.i64.wrap ((↑i : Int) + (1 : Int)))] ++ List.replicate 68 X) (St.mk [] (T ++ [(1, 2, 29)] ++ [(1, 2, 29)]) []) (kBlock 0 (kSeq Tryz.X19 (cd PP 19 [1, 1, 1, 1, 1, 1, 1]) (kRet Tryz.X19 19 Q)))) False)) False) False) False) False) False) False)) := by kernel_rfl
end Go.Proofs
/-! TT -/
set_option maxRecDepth 100000
set_option linter.unusedVariables false
set_option linter.unusedSimpArgs false
namespace Go.Ev
def encSh (x : Sho) : List AV := [I x.fl, Bo x.ho]
theorem eSh : EncOk encSh 2 := ⟨fun _ => rfl, fun x y h => by cases x; cases y; simp [encSh] at h; simp [h], fun _ _ => rfl, fun _ _ => rfl, fun _ => rfl⟩
theorem Sh_like (x : Sho) : like [I (0 : Int), Bo false] (encSh x) = true := rfl
theorem Sh_c0 (x : Sho) : cI (encSh x) 0 = x.fl := rfl
theorem Sh_c1 (x : Sho) : cB (encSh x) 1 = x.ho := rfl
/-- The two timelines and their join. -/
structure TwoT (xs ys : List Trn) (u : Int) : Prop where
  lx : xs.length ≤ 200
  ly : ys.length ≤ 200
  px : 0 < xs.length
  py : 0 < ys.length
  cx : chkT (xs.getD 0 zTrn).at' (ys.getD 0 zTrn).at' xs = true
  cy : chkT (ys.getD 0 zTrn).at' u ys = true
theorem getD_app_left {xs ys : List Trn} (h : 0 < xs.length) : (xs ++ ys).getD 0 zTrn = xs.getD 0 zTrn := by
  rw [List.getD_eq_getElem?_getD, List.getElem?_append_left h, List.getD_eq_getElem?_getD]
theorem last_app {xs ys : List Trn} (h : 0 < ys.length) : (xs ++ ys).getD ((xs ++ ys).length - 1) zTrn = ys.getD (ys.length - 1) zTrn := by
  rw [List.getD_eq_getElem?_getD, List.length_append, List.getElem?_append_right (by omega), List.getD_eq_getElem?_getD]
  congr 2
  omega
theorem getD_drop1 {ys : List Trn} (h : 1 < ys.length) : (ys.drop 1).getD ((ys.drop 1).length - 1) zTrn = ys.getD (ys.length - 1) zTrn := by
  rw [List.getD_eq_getElem?_getD, List.getElem?_drop, List.length_drop, List.getD_eq_getElem?_getD]
  congr 2
  omega
theorem TwoT.joined {xs ys : List Trn} {u : Int} (h : TwoT xs ys u) (hj : joinE xs ys = 0) : chkT (xs.getD 0 zTrn).at' u (joinL xs ys) = true ∧ (joinL xs ys).getD 0 zTrn = xs.getD 0 zTrn ∧ 0 < (joinL xs ys).length ∧
    (∀ s, spS u s (joinL xs ys) = spS (ys.getD 0 zTrn).at' s xs + spS u s ys) ∧ ∀ x ∈ joinL xs ys, x ∈ xs ++ ys := by
  obtain ⟨a1, a2, a3, a4, a5⟩ := Go.Proofs.chkT_parts h.cx
  obtain ⟨b1, b2, b3, b4, b5⟩ := Go.Proofs.chkT_parts h.cy
  have nx : nrmB xs = true := by unfold nrmB; rw [a2, dt a3]; rfl
  have ny : nrmB ys = true := by unfold nrmB; rw [b2, dt b3]; rfl
  have e : joinL xs ys = if sameS (xs.getD (xs.length - 1) zTrn) (ys.getD 0 zTrn) then xs ++ ys.drop 1 else xs ++ ys := by unfold joinL; rw [if_pos hj]
  have hn := join_nrm nx ny a5
  rw [← e] at hn
  have hx0 : xs ≠ [] := by intro q; rw [q] at a3; simp at a3
  have hy0 : ys ≠ [] := by intro q; rw [q] at b3; simp at b3
  have hs : ∀ s, spS u s (joinL xs ys) = spS (ys.getD 0 zTrn).at' s xs + spS u s ys := fun s => by rw [e]; exact spS_join xs ys u s hx0 hy0
  have hg : (joinL xs ys).getD 0 zTrn = xs.getD 0 zTrn := by
    rw [e]; split <;> exact getD_app_left a3
  have hp : 0 < (joinL xs ys).length := by
    rw [e]; split <;> (rw [List.length_append]; omega)
  have r1 : 0 ≤ (xs.getD 0 zTrn).at' ∧ (xs.getD 0 zTrn).at' < (ys.getD 0 zTrn).at' := by
    unfold rangedB at a1; simp only [Bool.and_eq_true, decide_eq_true_eq] at a1; exact a1.1
  have r2 : (ys.getD 0 zTrn).at' < u ∧ u ≤ 144001440 := by
    unfold rangedB at b1; simp only [Bool.and_eq_true, decide_eq_true_eq] at b1; exact ⟨b1.1.2, b1.2⟩
  have hl : ((joinL xs ys).getD ((joinL xs ys).length - 1) zTrn).at' < u := by
    rw [e]
    split
    · rcases Nat.lt_or_ge 1 ys.length with q | q
      · rw [last_app (by rw [List.length_drop]; omega), getD_drop1 q]; exact b5
      · rw [List.drop_eq_nil_of_le q, List.append_nil]; omega
    · rw [last_app b3]; exact b5
  refine ⟨?_, hg, hp, hs, ?_⟩
  · unfold chkT
    rw [hn, hg, dt rfl, dt hl]
    have : rangedB (xs.getD 0 zTrn).at' u = true := by unfold rangedB; simp only [Bool.and_eq_true, decide_eq_true_eq]; omega
    rw [this]; rfl
  · intro x hx
    rw [e] at hx
    split at hx
    · rcases List.mem_append.1 hx with q | q
      · exact List.mem_append_left _ q
      · exact List.mem_append_right _ (List.mem_of_mem_drop q)
    · exact hx
theorem spentV_ok {l : List Trn} {f u : Int} (h : chkT f u l = true) (s : Sho) : spentV l u s = spS u s l := by
  obtain ⟨a1, a2, a3, a4, a5⟩ := Go.Proofs.chkT_parts h
  unfold spentV
  rw [if_neg (by omega), a4, h, if_pos rfl]
theorem spS_range {l : List Trn} {f u : Int} (h : chkT f u l = true) (s : Sho) : 0 ≤ spS u s l ∧ spS u s l ≤ 144001440 := by
  obtain ⟨a1, a2, a3, a4, a5⟩ := Go.Proofs.chkT_parts h
  have := spS_bd u s a2 a5 (by intro q; rw [q] at a3; simp at a3)
  unfold rangedB at a1; simp only [Bool.and_eq_true, decide_eq_true_eq] at a1
  omega
theorem sumS_range {l : List Trn} {f u : Int} (h : chkT f u l = true) : ∀ S : List Sho, 0 ≤ sumS u l S ∧ sumS u l S ≤ S.length * 144001440
  | [] => by simp [sumS]
  | s :: S => by
    have h1 := spS_range h s
    have h2 := sumS_range h S
    simp only [sumS, List.length_cons]
    omega
end Go.Ev
namespace Go.Proofs
open Go Go.Ev
attribute [local irreducible] wpF wpC cd
theorem step19 {c : Code} {env : Env} {S : St} {k : Kont} (h : wpC Tryz.X19 c env S (kLoop Tryz.X19 c k)) : WLoop Tryz.X19 c env S k := WLoop_step Tryz.bok (((((Cts.nil _).cons ct26).cons ct71).cons ct59).cons ct68) h
theorem cut19 {c : Code} {env : Env} {S : St} {k : Kont} (h : wpC Tryz.X19 c env S k) : WCut Tryz.X19 c env S k := WCut_step Tryz.bok (((((Cts.nil _).cons ct26).cons ct71).cons ct59).cons ct68) h
noncomputable abbrev K19 (Q : CR → Prop) : Kont := kBlock 0 (kSeq Tryz.X19 (cd PP 19 [1, 1, 1, 1, 1, 1, 1]) (kRet Tryz.X19 19 Q))
noncomputable abbrev J19 (Q : CR → Prop) : Kont := kBlock 1 (kSeq Tryz.X19 (cd PP 19 [1, 1, 1, 1, 1, 1, 0, 1, 0, 0, 1, 1, 1]) (kLoop Tryz.X19 (cd PP 19 [1, 1, 1, 1, 1, 1, 0, 1, 0, 0]) (K19 Q)))
abbrev E19 (xs ys zs : List Trn) (u sm : Int) (dv : AV) (i : Nat) : Env := [.vs (encL encT xs) xs.length .none, .vs (encL encT ys) ys.length .none, I u, X, X, X, X, .vs (encL encT zs) zs.length .none, X, I sm, dv, X, X, X, X, X, X, X, X, X, X, X, X, X, X, X, X, X, X, X, X, X, X, X, X, X, X, X, X, X, X, X, X, X, X, X, X, X, X, X, X, X, X, X, X, X, X, X, X, X, X, X, X, X, X, X, X, X, X, X, X, X, .vs (encL encT (xs ++ ys)) (xs ++ ys).length (.own 0), I (xs ++ ys).length, I i] ++ List.replicate 68 X
abbrev F19 (xs ys zs : List Trn) (u sm : Int) (dv : AV) (kn : Bool) (i : Nat) : Env := [.vs (encL encT xs) xs.length .none, .vs (encL encT ys) ys.length .none, I u, X, X, X, X, .vs (encL encT zs) zs.length .none, X, I sm, dv, X, .ptr 0 0, Bo kn, X, X, X, X, X, X, X, X, X, X, X, X, X, X, X, X, X, X, X, X, X, X, X, X, X, X, X, X, X, X, X, X, X, X, X, X, X, X, X, X, X, X, X, X, X, X, X, X, X, X, X, X, X, X, X, X, X, X, .vs (encL encT (xs ++ ys)) (xs ++ ys).length (.own 0), I (xs ++ ys).length, I i] ++ List.replicate 68 X
abbrev G19 (xs ys zs : List Trn) (u sm : Int) (dv : AV) (kn : Bool) (i nd d : Nat) : Env := [.vs (encL encT xs) xs.length .none, .vs (encL encT ys) ys.length .none, I u, X, X, X, X, .vs (encL encT zs) zs.length .none, X, I sm, dv, X, .ptr 0 0, Bo kn, X, X, X, X, X, X, X, X, X, X, X, X, X, X, X, X, X, X, X, X, X, X, X, X, X, X, X, X, X, X, X, X, X, X, X, X, X, X, X, X, X, X, X, X, X, X, X, X, X, X, X, X, X, X, X, X, X, X, .vs (encL encT (xs ++ ys)) (xs ++ ys).length (.own 0), I (xs ++ ys).length, I i, X, X, X, dv, I nd, I d] ++ List.replicate 62 X
theorem nE {xs ys zs : List Trn} {u sm : Int} {D : List Sho} {t : Tok} {i n : Nat} : noHL n (E19 xs ys zs u sm (.vs (encL encSh D) D.length t) i) = true := by
  unfold E19
  simp only [noHL_append, noHL, noH, eT.noHL', eSh.noHL', noHL_rep, Bool.true_and]
theorem nF {xs ys zs : List Trn} {u sm : Int} {D : List Sho} {t : Tok} {kn : Bool} {i : Nat} : noHL 1 (F19 xs ys zs u sm (.vs (encL encSh D) D.length t) kn i) = true := by
  unfold F19
  simp [noHL_append, noHL, noH, eT.noHL', eSh.noHL', noHL_rep]
theorem nG {xs ys zs : List Trn} {u sm : Int} {D : List Sho} {t : Tok} {kn : Bool} {i nd d : Nat} : noHL 1 (G19 xs ys zs u sm (.vs (encL encSh D) D.length t) kn i nd d) = true := by
  unfold G19
  simp [noHL_append, noHL, noH, eT.noHL', eSh.noHL', noHL_rep]
/-- The list of what is known already. -/
theorem known_loop {xs ys zs : List Trn} {u sm : Int} {D : List Sho} {t : Tok} {i : Nat} {x : Trn} {T : List (Nat × (Nat × Nat))} (hD : D.length ≤ 1000) (Q : CR → Prop) (h : ∀ kn, (kn = true ↔ x.sh ∈ D) → WCut Tryz.X19 (cd PP 19 [1, 1, 1, 1, 1, 1, 0, 1, 0, 0, 1, 1, 0, 0, 1, 1, 1]) (F19 xs ys zs u sm (.vs (encL encSh D) D.length t) kn i) ⟨[some (.cells [I x.at', I x.fl, Bo x.ho] 77)], T, []⟩ (J19 Q)) :
    ∀ (e d : Nat) (kn : Bool), D.length - d = e → d ≤ D.length → (kn = true ↔ x.sh ∈ D.take d) →
    WLoop Tryz.X19 (cd PP 19 [1, 1, 1, 1, 1, 1, 0, 1, 0, 0, 1, 1, 0, 0, 1, 1, 0, 1, 0, 0]) (G19 xs ys zs u sm (.vs (encL encSh D) D.length t) kn i D.length d) ⟨[some (.cells [I x.at', I x.fl, Bo x.ho] 77)], T, []⟩ (kBlock 2 (kSeq Tryz.X19 (cd PP 19 [1, 1, 1, 1, 1, 1, 0, 1, 0, 0, 1, 1, 0, 0, 1, 1, 1]) (J19 Q))) := by
  intro e
  induction e with
  | zero =>
    intro d kn hd hi hk
    have hi' : d = D.length := by omega
    subst hi'
    rw [List.take_length] at hk
    refine step19 ((v19l2 (encL encT xs) (encL encT ys) (encL encT zs) (encL encT (xs ++ ys)) (encL encSh D) xs.length ys.length zs.length (xs ++ ys).length D.length i D.length t u sm x.at' x.fl x.ho kn T Q).mpr (cIf_neg (by simp) (cIf_pos nF (h kn hk))))
  | succ e ih =>
    intro d kn hd hi hk
    have hlt : d < D.length := by omega
    have e1 : D.length - (d + 1) = e := by omega
    have w1 : IntKind.i64.wrap ((d : Int) + 1) = ((d + 1 : Nat) : Int) := wrap_id (by omega) (by omega)
    have h1 : (d : Int) < D.length := by omega
    obtain ⟨y, hy, _⟩ := drop_cons hlt
    have htk : D.take (d + 1) = D.take d ++ [y] := by rw [List.take_add_one, hy]; rfl
    refine step19 ((v19l2 (encL encT xs) (encL encT ys) (encL encT zs) (encL encT (xs ++ ys)) (encL encSh D) xs.length ys.length zs.length (xs ++ ys).length D.length i d t u sm x.at' x.fl x.ho kn T Q).mpr ?_)
    rw [dt h1, dt hlt, eSh.gl, eSh.gd hlt, eSh.el hy, Sh_like, w1]
    refine cIf_pos rfl (cIf_pos rfl (cIf_pos rfl (cIf_pos rfl (cIf_pos rfl (cIf_intro (fun hkn => cIf_pos nG ?_) (fun hkn => cIf_pos nG ?_))))))
    · refine ih (d + 1) true e1 hlt ?_
      rw [htk, List.mem_append]
      exact ⟨fun _ => .inl (hk.1 hkn), fun _ => rfl⟩
    · have hno : ¬ x.sh ∈ D.take d := fun hm => by rw [hk.2 hm] at hkn; cases hkn
      refine ih (d + 1) _ e1 hlt ?_
      rw [htk, List.mem_append, Sh_c0, Sh_c1]
      simp only [Bool.and_true, Bool.and_eq_true, beq_iff_eq, List.mem_singleton]
      constructor
      · rintro ⟨q1, q2⟩
        right
        cases y
        simp only [Trn.sh, Sho.mk.injEq]
        exact ⟨q1.symm, q2.symm⟩
      · rintro (q | q)
        · exact (hno q).elim
        · rw [← q]; exact ⟨rfl, rfl⟩

/-- What is known of the list of shows that are done. -/
def Dn (D : List Sho) (t : Tok) (T : List (Nat × (Nat × Nat))) : Prop := (D = [] ∧ t = .zero) ∨ ∃ j, t = .own j ∧ T[j]? = some (D.length, (2, 29))
theorem enc_snoc (D : List Sho) (x : Trn) : encL encSh D ++ [I x.fl, Bo x.ho] = encL encSh (D ++ [x.sh]) := by
  rw [encL_app]; rfl
theorem any_snoc {D : List Sho} {s : Sho} (hn : D.Nodup) (hs : s ∉ D) : (D ++ [s]).Nodup := by
  rw [List.nodup_append]
  refine ⟨hn, by simp, ?_⟩
  intro a ha b hb
  rw [List.mem_singleton] at hb
  subst hb
  rintro rfl
  exact hs ha
section
variable {xs ys : List Trn} {u : Int} (H : TwoT xs ys u) (hj : joinE xs ys = 0)
include H hj
theorem spent19 (Q : CR → Prop) (hQ : Q (rB true)) : ∀ (d i : Nat) (sm : Int) (D : List Sho) (t : Tok) (T : List (Nat × (Nat × Nat))), (xs ++ ys).length - i = d → i ≤ (xs ++ ys).length → Dn D t T → D.Nodup → D.length ≤ i → (∀ x ∈ (xs ++ ys).take i, x.sh ∈ D) → sm = sumS u (joinL xs ys) D →
    WLoop Tryz.X19 (cd PP 19 [1, 1, 1, 1, 1, 1, 0, 1, 0, 0]) (E19 xs ys (joinL xs ys) u sm (.vs (encL encSh D) D.length t) i) ⟨[], T, []⟩ (K19 Q) := by
  obtain ⟨c1, c2, c3, c4, c5⟩ := H.joined hj
  obtain ⟨x0, hx0, _⟩ := drop_cons H.px
  obtain ⟨y0, hy0, _⟩ := drop_cons H.py
  have q0 : xs.getD 0 zTrn = x0 := getD_of hx0
  have r0 : ys.getD 0 zTrn = y0 := getD_of hy0
  have hlen : (xs ++ ys).length ≤ 400 := by rw [List.length_append]; have := H.lx; have := H.ly; omega
  have hzl : (joinL xs ys).length ≤ 1000000 := by have := joinL_len xs ys; have := H.lx; have := H.ly; omega
  have z0 : ∀ l : List Trn, encL encT l = List.drop (0 * 3) (encL encT l) := fun _ => rfl
  have g1 : decide (0 < (encL encT xs).length) = true := dt (by rw [eT.lenL]; have := H.px; omega)
  have g2 : likeOk (AV.ofVal (Value.int IntKind.i64 (0 : Int))) ((encL encT xs).getD 0 X) = true := by rw [z0, eT.ld0 hx0 (by decide)]; rfl
  have g3 : cI (encL encT xs) 0 = x0.at' := by rw [z0, eT.cI0 hx0 (by decide)]; rfl
  have k1 : decide (0 < (encL encT ys).length) = true := dt (by rw [eT.lenL]; have := H.py; omega)
  have k2 : likeOk (AV.ofVal (Value.int IntKind.i64 (0 : Int))) ((encL encT ys).getD 0 X) = true := by rw [z0, eT.ld0 hy0 (by decide)]; rfl
  have k3 : cI (encL encT ys) 0 = y0.at' := by rw [z0, eT.cI0 hy0 (by decide)]; rfl
  have p1 : ∃ x, encL encT xs = encL encT x ∧ xs.length = x.length ∧ x.length ≤ 1000000 := ⟨xs, rfl, rfl, by have := H.lx; omega⟩
  have p2 : ∃ x, encL encT ys = encL encT x ∧ ys.length = x.length ∧ x.length ≤ 1000000 := ⟨ys, rfl, rfl, by have := H.ly; omega⟩
  have p3 : ∃ x, encL encT (joinL xs ys) = encL encT x ∧ (joinL xs ys).length = x.length ∧ x.length ≤ 1000000 := ⟨joinL xs ys, rfl, rfl, hzl⟩
  have hcx := H.cx
  have hcy := H.cy
  rw [q0] at c1 c2
  rw [r0] at c4
  rw [q0, r0] at hcx
  rw [r0] at hcy
  have wux : IntKind.i64.wrap (u - x0.at') = u - x0.at' := by
    have := (chkT_parts c1).1
    unfold rangedB at this; simp only [Bool.and_eq_true, decide_eq_true_eq] at this
    exact wrap_id (by omega) (by omega)
  have hspent : ∀ s : Sho, spentV (joinL xs ys) u s = spentV xs y0.at' s + spentV ys u s := fun s => by
    rw [spentV_ok c1, spentV_ok hcx, spentV_ok hcy, c4]
  have hrange : ∀ s : Sho, 0 ≤ spentV (joinL xs ys) u s ∧ spentV (joinL xs ys) u s ≤ 144001440 := fun s => by
    rw [spentV_ok c1]; exact spS_range c1 s
  intro d
  induction d with
  | zero =>
    intro i sm D t T hd hi hD hnd hDl hall hsm
    have hi' : i = (xs ++ ys).length := by omega
    subst hi'
    rw [List.take_length] at hall
    have hsum : sm = u - x0.at' := by
      rw [hsm, sumS_all (joinL xs ys) u D hnd (fun x hx => hall x (c5 x hx)) (by intro q; rw [q] at c3; simp at c3), c2]
    have tail : cIf (sm == IntKind.i64.wrap (u - x0.at')) ((∃ (x : List Trn), encL encT (joinL xs ys) = encL encT x ∧ (joinL xs ys).length = x.length ∧ x.length ≤ 1000000) ∧ Q (CR.ret (Bo (onEnc (encL encT) (chkT x0.at' u) false (encL encT (joinL xs ys)))))) (Q (CR.ret (Bo false))) := by
      rw [wux, hsum, eT.on (by decide), c1]
      exact cIf_pos (by simp) ⟨p3, hQ⟩
    rcases hD with ⟨rfl, rfl⟩ | ⟨j, rfl, hj'⟩
    · refine step19 ((v19z (encL encT xs) (encL encT ys) (encL encT (joinL xs ys)) (encL encT (xs ++ ys)) [] xs.length ys.length (joinL xs ys).length (xs ++ ys).length 0 0 _ u sm T Q).mpr (cIf_neg (by simp) ⟨trivial, ?_⟩))
      rw [dt H.px, eT.gl, g1, g2, g3]
      exact tail
    · refine step19 ((v19l (encL encT xs) (encL encT ys) (encL encT (joinL xs ys)) (encL encT (xs ++ ys)) (encL encSh D) xs.length ys.length (joinL xs ys).length (xs ++ ys).length D.length j _ u sm T Q).mpr (cIf_neg (by simp) ⟨trivial, ?_⟩))
      rw [dt H.px, eT.gl, g1, g2, g3]
      exact tail
  | succ d ih =>
    intro i sm D t T hd hi hD hnd hDl hall hsm
    have hlt : i < (xs ++ ys).length := by omega
    have e1 : (xs ++ ys).length - (i + 1) = d := by omega
    have w1 : IntKind.i64.wrap ((i : Int) + 1) = ((i + 1 : Nat) : Int) := wrap_id (by omega) (by omega)
    have h1 : (i : Int) < (xs ++ ys).length := by omega
    obtain ⟨x, hx, _⟩ := drop_cons hlt
    have htk : (xs ++ ys).take (i + 1) = (xs ++ ys).take i ++ [x] := by rw [List.take_add_one, hx]; rfl
    have hsr := sumS_range c1 D
    have hall1 : x.sh ∈ D → ∀ y ∈ (xs ++ ys).take (i + 1), y.sh ∈ D := fun hm y hy => by
      rw [htk, List.mem_append, List.mem_singleton] at hy
      rcases hy with hy | rfl
      · exact hall y hy
      · exact hm
    have hall2 : ∀ y ∈ (xs ++ ys).take (i + 1), y.sh ∈ D ++ [x.sh] := fun y hy => by
      rw [htk, List.mem_append, List.mem_singleton] at hy
      rw [List.mem_append, List.mem_singleton]
      rcases hy with hy | rfl
      · exact .inl (hall y hy)
      · exact .inr rfl
    have hb1 := hrange x.sh
    have wsm : IntKind.i64.wrap (sm + spentV (joinL xs ys) u x.sh) = sumS u (joinL xs ys) (D ++ [x.sh]) := by
      have hbd : (D.length : Int) * 144001440 ≤ 400 * 144001440 := by
        have : (D.length : Int) ≤ 400 := by omega
        omega
      rw [sumS_app, hsm, wrap_id (by omega) (by omega)]
      simp only [sumS]
      rw [spentV_ok c1]
      omega
    have wsp : IntKind.i64.wrap (spentV xs y0.at' x.sh + spentV ys u x.sh) = spentV (joinL xs ys) u x.sh := by
      rw [← hspent, wrap_id (by omega) (by omega)]
    have hinner : WLoop Tryz.X19 (cd PP 19 [1, 1, 1, 1, 1, 1, 0, 1, 0, 0, 1, 1, 0, 0, 1, 1, 0, 1, 0, 0]) (G19 xs ys (joinL xs ys) u sm (.vs (encL encSh D) D.length t) false i D.length 0) ⟨[some (.cells [I x.at', I x.fl, Bo x.ho] 77)], T, []⟩ (kBlock 2 (kSeq Tryz.X19 (cd PP 19 [1, 1, 1, 1, 1, 1, 0, 1, 0, 0, 1, 1, 0, 0, 1, 1, 1]) (J19 Q))) := by
      refine known_loop (by omega) Q (fun kn hk => cut19 ?_) _ 0 false rfl (Nat.zero_le _) (by simp)
      have hkt : kn = true → WLoop Tryz.X19 (cd PP 19 [1, 1, 1, 1, 1, 1, 0, 1, 0, 0]) (E19 xs ys (joinL xs ys) u sm (.vs (encL encSh D) D.length t) (i + 1)) ⟨[], T, []⟩ (K19 Q) := fun h => ih (i + 1) sm D t T e1 hlt hD hnd (by omega) (hall1 (hk.1 h)) hsm
      have hkf : ∀ t' T', kn = false → Dn (D ++ [x.sh]) t' T' → WLoop Tryz.X19 (cd PP 19 [1, 1, 1, 1, 1, 1, 0, 1, 0, 0]) (E19 xs ys (joinL xs ys) u (sumS u (joinL xs ys) (D ++ [x.sh])) (.vs (encL encSh (D ++ [x.sh])) (D ++ [x.sh]).length t') (i + 1)) ⟨[], T', []⟩ (K19 Q) := fun t' T' h hD' => by
        have hno : x.sh ∉ D := fun hm => by rw [hk.2 hm] at h; cases h
        exact ih (i + 1) _ _ t' T' e1 hlt hD' (any_snoc hnd hno) (by rw [List.length_append, List.length_singleton]; omega) hall2 rfl
      rcases hD with ⟨rfl, rfl⟩ | ⟨j, rfl, hj'⟩
      · refine (v19cz (encL encT xs) (encL encT ys) (encL encT (joinL xs ys)) (encL encT (xs ++ ys)) [] xs.length ys.length (joinL xs ys).length (xs ++ ys).length 0 0 i u sm x.at' x.fl x.ho kn T Q).mpr ?_
        refine cIf_intro (fun h => cIf_pos ?_ ?_) (fun h => ⟨p3, ?_⟩)
        · rw [w1]; exact nE (D := [])
        · rw [w1]; exact hkt h
        · rw [dt H.py, eT.gl, k1, k2, k3, eT.on (by decide), eT.on (by decide), eT.on (by decide), show Sho.mk x.fl x.ho = x.sh from rfl, wsp, wsm, w1]
          refine cIf_pos rfl (cIf_pos rfl (cIf_pos rfl (cIf_pos rfl (cIf_pos (by simp [noHL, noH, eT.noHL']) ⟨p1, rfl, cIf_pos (by simp [noHL, noH, eT.noHL']) ⟨p2, rfl, cIf_neg (by simp) (cIf_pos (nE (D := [x.sh])) ?_)⟩⟩))))
          exact hkf (.own (T ++ [(1, 2, 29)]).length) (T ++ [(1, 2, 29)] ++ [(1, 2, 29)]) h (.inr ⟨_, rfl, by simp⟩)
      · refine (v19co (encL encT xs) (encL encT ys) (encL encT (joinL xs ys)) (encL encT (xs ++ ys)) (encL encSh D) xs.length ys.length (joinL xs ys).length (xs ++ ys).length D.length j i u sm x.at' x.fl x.ho kn T Q).mpr ?_
        have hjl := (List.getElem?_eq_some_iff.1 hj').1
        have t1 : (T ++ [(1, 2, 29)])[j]? = some (D.length, 2, 29) := by rw [List.getElem?_append_left hjl]; exact hj'
        have b1 : (D.length + 1) * 16 ≤ 140737488355328 := by omega
        have b2 : D.length + 1 ≤ 140737488355328 := by omega
        refine cIf_intro (fun h => cIf_pos ?_ ?_) (fun h => ?_)
        · rw [w1]; exact nE
        · rw [w1]; exact hkt h
        · rw [dt b1, dt b2, dt (eSh.lenL D), dt t1, dt H.py, eT.gl, k1, k2, k3, eT.on (by decide), eT.on (by decide), eT.on (by decide), show Sho.mk x.fl x.ho = x.sh from rfl, wsp, wsm, w1, enc_snoc]
          have hl1 : (D ++ [x.sh]).length = D.length + 1 := by rw [List.length_append]; rfl
          refine cIf_pos rfl (cIf_pos rfl (cIf_pos rfl (cIf_pos rfl ⟨p3, cIf_pos rfl (cIf_pos rfl (cIf_pos rfl (cIf_pos rfl (cIf_pos (by simp [noHL, noH, eT.noHL']) ⟨p1, rfl, cIf_pos (by simp [noHL, noH, eT.noHL']) ⟨p2, rfl, cIf_neg (by simp) (cIf_pos (by rw [← hl1]; exact nE (D := D ++ [x.sh])) ?_)⟩⟩))))⟩)))
          have := hkf (.own j) ((T ++ [(1, 2, 29)]).set j (D.length + 1, 2, 29)) h (.inr ⟨j, rfl, by rw [List.getElem?_set_self (by rw [List.length_append]; omega), hl1]⟩)
          rw [hl1] at this
          exact this
    rcases hD with ⟨rfl, rfl⟩ | ⟨j, rfl, hj'⟩
    · refine step19 ((v19z (encL encT xs) (encL encT ys) (encL encT (joinL xs ys)) (encL encT (xs ++ ys)) [] xs.length ys.length (joinL xs ys).length (xs ++ ys).length 0 0 i u sm T Q).mpr ?_)
      rw [dt h1, dt hlt, eT.gl, eT.gd hlt, eT.el hx, T_like, T_c0, T_c1, T_c2]
      exact cIf_pos rfl (cIf_pos rfl (cIf_pos rfl (cIf_pos rfl (cIf_pos rfl (cIf_pos (nG (D := [])) hinner)))))
    · refine step19 ((v19l (encL encT xs) (encL encT ys) (encL encT (joinL xs ys)) (encL encT (xs ++ ys)) (encL encSh D) xs.length ys.length (joinL xs ys).length (xs ++ ys).length D.length j i u sm T Q).mpr ?_)
      rw [dt h1, dt hlt, eT.gl, eT.gd hlt, eT.el hx, T_like, T_c0, T_c1, T_c2]
      exact cIf_pos rfl (cIf_pos rfl (cIf_pos rfl (cIf_pos rfl (cIf_pos rfl (cIf_pos nG hinner)))))
end

noncomputable def R19 : Spc := fun args => match args with
  | [.vs a n .none, .vs b m .none, .int .i64 u] => some ((∃ x, a = encL encT x ∧ n = x.length ∧ ∀ t ∈ x, okT t) ∧ (∃ y, b = encL encT y ∧ m = y.length ∧ ∀ t ∈ y, okT t), rB true)
  | _ => none
theorem ct19 : Ct Tryz.B.c0 19 R19 := Ct.of_wp (l := [(68, R68), (59, R59), (71, R71), (26, R26)]) (lm := lm19) (tp := []) (ct := [17]) (sm := [(9, 0), (13, 1), (17, 1), (23, 0), (24, 0)]) Tryz.bok (((((Cts.nil _).cons ct26).cons ct71).cons ct59).cons ct68) ⟨_, _, Tryz.func19, rfl⟩ fun args D r hR hD => by
  unfold R19 at hR
  split at hR <;> cases hR
  rename_i a n b m u
  obtain ⟨⟨xs, rfl, rfl, _⟩, ⟨ys, rfl, rfl, _⟩⟩ := hD
  refine ⟨by simp [noHL, noH, eT.noHL'], ?_⟩
  rw [show scrubL 0 [AV.vs (encL encT xs) xs.length .none, AV.vs (encL encT ys) ys.length .none, AV.int IntKind.i64 u] = [.vs (encL encT xs) xs.length .none, .vs (encL encT ys) ys.length .none, I u] by simp [scrubL, scrub, eT.scL, Tok.scrub]]
  show wpF Tryz.X19 19 _ _
  rw [v19]
  refine cIf_intro (fun h1 => ⟨trivial, rfl⟩) (fun h1 => cIf_intro (fun h2 => ⟨trivial, rfl⟩) (fun h2 => cIf_intro (fun h3 => ⟨trivial, rfl⟩) (fun h3 => cIf_intro (fun h4 => ⟨trivial, rfl⟩) (fun h4 => ?_))))
  have h1 : xs.length ≤ 200 := by have := of_decide_eq_false h1; omega
  have h2 : ys.length ≤ 200 := by have := of_decide_eq_false h2; omega
  have h3 : 0 < xs.length := by simp at h3; exact List.length_pos_iff.2 h3
  have h4 : 0 < ys.length := by simp at h4; exact List.length_pos_iff.2 h4
  refine ⟨⟨xs, ys, rfl, rfl, rfl, rfl, by omega, by omega⟩, ?_⟩
  rw [joinX_eq, joinR_eq]
  obtain ⟨x0, hx0, _⟩ := drop_cons h3
  obtain ⟨y0, hy0, _⟩ := drop_cons h4
  have z0 : ∀ l : List Trn, encL encT l = List.drop (0 * 3) (encL encT l) := fun _ => rfl
  have g1 : decide (0 < (encL encT xs).length) = true := dt (by rw [eT.lenL]; omega)
  have g2 : likeOk (AV.ofVal (Value.int IntKind.i64 (0 : Int))) ((encL encT xs).getD 0 X) = true := by rw [z0, eT.ld0 hx0 (by decide)]; rfl
  have g3 : cI (encL encT xs) 0 = x0.at' := by rw [z0, eT.cI0 hx0 (by decide)]; rfl
  have k1 : decide (0 < (encL encT ys).length) = true := dt (by rw [eT.lenL]; omega)
  have k2 : likeOk (AV.ofVal (Value.int IntKind.i64 (0 : Int))) ((encL encT ys).getD 0 X) = true := by rw [z0, eT.ld0 hy0 (by decide)]; rfl
  have k3 : cI (encL encT ys) 0 = y0.at' := by rw [z0, eT.cI0 hy0 (by decide)]; rfl
  have p1 : ∃ x, encL encT xs = encL encT x ∧ xs.length = x.length ∧ x.length ≤ 1000000 := ⟨xs, rfl, rfl, by omega⟩
  have p2 : ∃ x, encL encT ys = encL encT x ∧ ys.length = x.length ∧ x.length ≤ 1000000 := ⟨ys, rfl, rfl, by omega⟩
  have b1 : (0 + xs.length) * 24 ≤ 140737488355328 := by omega
  have b2 : 0 + xs.length ≤ 140737488355328 := by omega
  have b3 : ¬ xs.length = 0 := by omega
  have b4 : (0 + xs.length + ys.length) * 24 ≤ 140737488355328 := by omega
  have b5 : 0 + xs.length + ys.length ≤ 140737488355328 := by omega
  have b6 : ¬ ys.length = 0 := by omega
  refine cIf_intro (fun h5 => ⟨trivial, rfl⟩) (fun h5 => ?_)
  have hj : joinE xs ys = 0 := by simpa using h5
  rw [dt h3, dt h4, g1, g2, g3, k1, k2, k3, eT.gl, eT.gl]
  refine cIf_pos rfl (cIf_pos rfl (cIf_pos rfl (cIf_pos rfl (cIf_pos rfl (cIf_pos rfl (cIf_pos rfl (cIf_pos rfl (cIf_pos (by simp [noHL, noH, eT.noHL']) ⟨p1, rfl, ?_⟩))))))))
  rw [eT.on (by decide), eT.on (by decide)]
  refine cIf_intro (fun h6 => ⟨trivial, rfl⟩) (fun h6 => cIf_pos rfl (cIf_pos rfl (cIf_pos rfl (cIf_pos rfl (cIf_pos (by simp [noHL, noH, eT.noHL']) ⟨p2, rfl, cIf_intro (fun h7 => ⟨trivial, rfl⟩) (fun h7 => ?_)⟩)))))
  have h6 : chkT x0.at' y0.at' xs = true := by simpa using h6
  have h7 : chkT y0.at' u ys = true := by simpa using h7
  have H : TwoT xs ys u := ⟨h1, h2, h3, h4, by rw [getD_of hx0, getD_of hy0]; exact h6, by rw [getD_of hy0]; exact h7⟩
  rw [dt (eT.lenL xs), eT.oneL, dt b1, dt b2, df b3, dt (eT.lenL ys), eT.oneL, dt b4, dt b5, df b6]
  refine cIf_pos rfl (cIf_pos rfl (cIf_pos rfl (cIf_pos rfl (cIf_neg rfl (cIf_pos rfl (cIf_pos rfl (cIf_pos rfl (cIf_pos rfl (cIf_pos (dt (by rw [List.nil_append, Nat.zero_add]; exact eT.lenL xs)) (cIf_neg rfl (cIf_pos (by simp) ?_)))))))))))
  rw [List.nil_append, ← encL_app, Nat.zero_add, ← List.length_append]
  refine cIf_pos (nE (D := [])) ?_
  exact spent19 H hj (fun r' => r' = rB true) rfl _ 0 0 [] .zero [((xs ++ ys).length, 3, 77)] rfl (Nat.zero_le _) (.inl ⟨rfl, rfl⟩) List.nodup_nil (by simp) (by simp) rfl
end Go.Proofs
