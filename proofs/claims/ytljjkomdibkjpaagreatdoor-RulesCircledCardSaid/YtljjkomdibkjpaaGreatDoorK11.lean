/- Contracts of functions of the program and of the reference. -/
import Derived.Test.YtljjkomdibkjpaaGreatDoorK10
set_option linter.unusedVariables false
set_option linter.unusedSimpArgs false
/-! VC22 -/
set_option maxRecDepth 100000
set_option linter.unusedVariables false
namespace Go.Proofs
open Go Go.Ev
/-- The rules that fire. -/
def firesL (rs : List Rul) (p q : Prf) : List Nat := (List.range rs.length).filter (thR rs p q)
def tkZ (l : List Nat) : Tok := if l = [] then .zero else .none
noncomputable def fiD (l a b : List AV) : List Nat × Int := on3 l a b ([], 0) fun rs p q => if bothE rs p q = 0 then (firesL rs p q, 0) else ([], bothE rs p q)
noncomputable def RFi : Spc := fun args => match args with
  | [.agg [.vs l len .none], .agg a, .agg b] => some (lawD l len a b, .ret (.tup [.vs (encD (fiD l a b).1) (fiD l a b).1.length (tkZ (fiD l a b).1), I (fiD l a b).2]))
  | _ => none
noncomputable def R34 : Spc := fun args => match args with
  | [.vs a n _, .vs b m _] => some ((∃ x, a = encD x ∧ n = x.length ∧ x.length ≤ 1000) ∧ ∃ y, b = encD y ∧ m = y.length ∧ y.length ≤ 1000, rB (onEnc encD (fun x => onEnc encD (fun y => x == y) false b) false a))
  | _ => none
def lm31 : List (Nat × List Nat) := [(6, [4, 5, 9, 20, 21, 22]), (11, [9])]
noncomputable def Tryz.X31 : WCx := Tryz.B.wcx [(77, R77), (80, R80)] lm31 [] [] [(6, 3)]
def lm32 : List (Nat × List Nat) := [(10, [3, 4, 5, 11, 12]), (15, [11])]
noncomputable def Tryz.X32 : WCx := Tryz.B.wcx [(70, R70), (81, R81), (82, R82)] lm32
def lm34 : List (Nat × List Nat) := [(4, [0, 1, 5]), (8, [])]
noncomputable def Tryz.X34 : WCx := Tryz.B.wcx [] lm34
noncomputable def dvR (l a b : List AV) : Int × Int × Int := on3 l a b (0, 0, 0) fun rs p q => decR (rkR rs) (thR rs p q) (thR rs q p) (List.range rs.length) (-1) (-1) 0
noncomputable def R83 : Spc := fun args => match args with
  | [.agg [.vs l len .none], .agg a, .agg b] => some ((∃ rs, l = encRs rs ∧ len = rs.length ∧ okRs rs) ∧ (∃ p, a = encP p) ∧ ∃ q, b = encP q, .ret (.agg [U (kindV (dvR l a b).1 (dvR l a b).2.1), I (dvR l a b).1, I (dvR l a b).2.1, I (dvR l a b).2.2]))
  | _ => none
def lm83 : List (Nat × List Nat) := [(3, [3, 4, 5, 6, 7, 8]), (9, [3, 4, 5, 6, 7, 8, 9, 10, 11]), (11, [3, 4, 5, 6, 7, 8, 10, 11]), (13, [3, 4, 5, 6, 7, 8, 11]), (15, [6, 7])]
noncomputable def Tryz.X83 : WCx := Tryz.B.wcx [(82, R82)] lm83 [] [9, 11, 13, 15] [(3, 5), (9, 6), (11, 5), (13, 5), (15, 5)]
/-- The reference's decision, its error. -/
noncomputable def deR (rs : List Rul) (p q : Prf) : Int × Int × Int × Int := if bothE rs p q = 0 then (kindV (decR (rkR rs) (thR rs p q) (thR rs q p) (List.range rs.length) (-1) (-1) 0).1 (decR (rkR rs) (thR rs p q) (thR rs q p) (List.range rs.length) (-1) (-1) 0).2.1, (decR (rkR rs) (thR rs p q) (thR rs q p) (List.range rs.length) (-1) (-1) 0).1, (decR (rkR rs) (thR rs p q) (thR rs q p) (List.range rs.length) (-1) (-1) 0).2.1, 0) else (0, 0, 0, bothE rs p q)
noncomputable def dvS (l a b : List AV) : Int × Int × Int × Int := on3 l a b (0, 0, 0, 0) deR
noncomputable def R33 : Spc := fun args => match args with
  | [.agg [.vs l len .none], .agg a, .agg b] => some (lawD l len a b, .ret (.tup [.agg [U (dvS l a b).1, I (dvS l a b).2.1, I (dvS l a b).2.2.1], I (dvS l a b).2.2.2]))
  | _ => none
noncomputable def Tryz.X33 : WCx := Tryz.B.wcx [(70, R70), (81, R81), (83, R83)]
def R8 : Spc := fun args => match args with
  | [.agg [.vs l len .none], .agg a, .agg b] => some (lawD l len a b, rB true)
  | _ => none
noncomputable def l8 : List (FuncId × Spc) := [(20, R20), (24, R24), (28, R28), (31, RFi), (32, RFi), (33, R33), (34, R34)]
noncomputable def Tryz.X8 : WCx := Tryz.B.wcx l8
theorem v34 (a b : List AV) (n m : Nat) (ta tb : Tok) (Q : CR → Prop) : wpF Tryz.X34 34 [.vs a n ta, .vs b m tb] Q =
  (cIf ((↑n : Int) != (↑m : Int)) (Q (CR.ret (Bo false))) (WLoop Tryz.X34 (cd Tryz.X34.P 34 [1, 1, 0, 1, 0, 0]) ([AV.vs a n ta, AV.vs b m tb, X, X, X, I (0 : Int)] ++ List.replicate 20 X) (St.mk [] [] []) (kBlock 0 (kSeq Tryz.X34 (cd Tryz.X34.P 34 [1, 1, 1]) (kRet Tryz.X34 34 Q))))) := by kernel_rfl
theorem v34l (a b : List AV) (n m : Nat) (ta tb : Tok) (i : Int) (Q : CR → Prop) : wpC Tryz.X34 (cd PP 34 [1, 1, 0, 1, 0, 0]) ([.vs a n ta, .vs b m tb, X, X, X, I i] ++ List.replicate 20 X) ⟨[], [], []⟩ (kLoop Tryz.X34 (cd PP 34 [1, 1, 0, 1, 0, 0]) (kBlock 0 (kSeq Tryz.X34 (cd PP 34 [1, 1, 1]) (kRet Tryz.X34 34 Q)))) =
  (cIf (decide (i < (↑n : Int))) (cIf (decide ((0 : Int) ≤ i)) (cIf (decide (i.toNat < n)) (cIf (decide (n * 1 = a.length)) (cIf (decide (0 < (List.drop (i.toNat * 1) a).length)) (cIf (likeOk (AV.ofVal (Value.int IntKind.i64 (0 : Int))) ((List.drop (i.toNat * 1) a).getD 0 X)) (cIf (decide ((0 : Int) ≤ i)) (cIf (decide (i.toNat < m)) (cIf (decide (m * 1 = b.length)) (cIf (decide (0 < (List.drop (i.toNat * 1) b).length)) (cIf (likeOk (AV.ofVal (Value.int IntKind.i64 (0 : Int))) ((List.drop (i.toNat * 1) b).getD 0 X)) (cIf (cI (List.drop (i.toNat * 1) a) 0 != cI (List.drop (i.toNat * 1) b) 0) (Q (CR.ret (Bo false))) (WLoop Tryz.X34 (cd PP 34 [1, 1, 0, 1, 0, 0]) ([AV.vs a n ta, AV.vs b m tb, X, X, X, I (IntKind.i64.wrap (i + (1 : Int)))] ++ List.replicate 20 X) (St.mk [] [] []) (kBlock 0 (kSeq Tryz.X34 (cd PP 34 [1, 1, 1]) (kRet Tryz.X34 34 Q))))) False) False) False) False) False) False) False) False) False) False) (Q (CR.ret (Bo true)))) := by kernel_rfl
theorem v31 (l : List AV) (len : Nat) (p q : Prf) (Q : CR → Prop) : wpF Tryz.X31 31 [.agg [.vs l len .none], .agg (encP p), .agg (encP q)] Q =
  (((∃ (rs : List Rul), l = encRs rs ∧ len = rs.length ∧ wfRs rs) ∧ (∃ (p_1 : Prf), (encP p) = encP p_1) ∧ ∃ (q_1 : Prf), (encP q) = encP q_1) ∧ cIf (onEnc encRs (fun (rs : List Rul) => onEnc encP (fun (p : Prf) => onEnc encP (fun (q : Prf) => bothE rs p q) (0 : Int) (encP q)) (0 : Int) (encP p)) (0 : Int) l != (0 : Int)) (Q (CR.ret (AV.tup [AV.vs [] 0 Tok.zero, AV.int IntKind.i64 (onEnc encRs (fun (rs : List Rul) => onEnc encP (fun (p : Prf) => onEnc encP (fun (q : Prf) => bothE rs p q) (0 : Int) (encP q)) (0 : Int) (encP p)) (0 : Int) l)]))) (cIf (noHL 3 ([X, X, X, X, AV.ptr 1 0, AV.ptr 2 0, X, X, X, AV.vs [] 0 Tok.zero, X, X, X, X, X, X, X, X, X, X, AV.vs l len Tok.none, I (↑len : Int), I (0 : Int)] ++ List.replicate 15 X)) (cIf ([some (HB.cells [AV.vs l len Tok.none] 25), some (HB.cells (encP p) 40), some (HB.cells (encP q) 40)].all (okBlk 3)) (WLoop Tryz.X31 (cd Tryz.X31.P 31 [1, 1, 1, 0, 1, 0, 0]) ([X, X, X, X, AV.ptr 1 0, AV.ptr 2 0, X, X, X, AV.vs [] 0 Tok.zero, X, X, X, X, X, X, X, X, X, X, AV.vs l len Tok.none, I (↑len : Int), I (0 : Int)] ++ List.replicate 15 X) (St.mk [some (HB.cells [AV.vs l len Tok.none] 25), some (HB.cells (encP p) 40), some (HB.cells (encP q) 40)] [] []) (kBlock 0 (kSeq Tryz.X31 (cd Tryz.X31.P 31 [1, 1, 1, 1]) (kRet Tryz.X31 31 Q)))) False) False)) := by kernel_rfl
theorem v31z (rl : List AV) (l : List AV) (len : Nat) (p q : Prf) (i : Int) (Q : CR → Prop) : wpC Tryz.X31 (cd PP 31 [1, 1, 1, 0, 1, 0, 0]) ([X, X, X, X, .ptr 1 0, .ptr 2 0, X, X, X, .vs [] 0 .zero, X, X, X, X, X, X, X, X, X, X, .vs l len .none, I len, I i] ++ List.replicate 15 X) ⟨[some (.cells rl 25), some (.cells (encP p) 40), some (.cells (encP q) 40)], [], []⟩ (kLoop Tryz.X31 (cd PP 31 [1, 1, 1, 0, 1, 0, 0]) (kBlock 0 (kSeq Tryz.X31 (cd PP 31 [1, 1, 1, 1]) (kRet Tryz.X31 31 Q)))) =
  (cIf (decide (i < (↑len : Int))) (cIf (decide ((0 : Int) ≤ i)) (cIf (decide (i.toNat < len)) (cIf (decide (len * 8 = l.length)) (cIf (decide (8 ≤ (List.drop (i.toNat * 8) l).length)) (cIf (like zR (el (List.drop (i.toNat * 8) l) 0 8)) (((∃ (t : Tst), (elT3 (el (List.drop (i.toNat * 8) l) 0 8)) = encT t ∧ wfT t ∧ shT t = true) ∧ (∃ (a : Prf), (encP p) = encP a) ∧ ∃ (b : Prf), (encP q) = encP b) ∧ cIf (onEnc encT (fun (t : Tst) => onEnc encP (fun (a : Prf) => onEnc encP (fun (b : Prf) => hoT t a b) false (encP q)) false (encP p)) false (elT3 (el (List.drop (i.toNat * 8) l) 0 8))) (cIf (noHL 3 ([X, X, X, X, AV.ptr 1 0, AV.ptr 2 0, X, X, X, AV.vs [I i] 1 (Tok.own 1), X, X, X, X, X, X, X, X, X, X, AV.vs l len Tok.none, I (↑len : Int), I (IntKind.i64.wrap (i + (1 : Int)))] ++ List.replicate 15 X)) (cIf ([some (HB.cells rl 25), some (HB.cells (encP p) 40), some (HB.cells (encP q) 40)].all (okBlk 3)) (WLoop Tryz.X31 (cd PP 31 [1, 1, 1, 0, 1, 0, 0]) ([X, X, X, X, AV.ptr 1 0, AV.ptr 2 0, X, X, X, AV.vs [I i] 1 (Tok.own 1), X, X, X, X, X, X, X, X, X, X, AV.vs l len Tok.none, I (↑len : Int), I (IntKind.i64.wrap (i + (1 : Int)))] ++ List.replicate 15 X) (St.mk [some (HB.cells rl 25), some (HB.cells (encP p) 40), some (HB.cells (encP q) 40)] [(1, 1, 3), (1, 1, 3)] []) (kBlock 0 (kSeq Tryz.X31 (cd PP 31 [1, 1, 1, 1]) (kRet Tryz.X31 31 Q)))) False) False) (cIf (noHL 3 ([X, X, X, X, AV.ptr 1 0, AV.ptr 2 0, X, X, X, AV.vs [] 0 Tok.zero, X, X, X, X, X, X, X, X, X, X, AV.vs l len Tok.none, I (↑len : Int), I (IntKind.i64.wrap (i + (1 : Int)))] ++ List.replicate 15 X)) (cIf ([some (HB.cells rl 25), some (HB.cells (encP p) 40), some (HB.cells (encP q) 40)].all (okBlk 3)) (WLoop Tryz.X31 (cd PP 31 [1, 1, 1, 0, 1, 0, 0]) ([X, X, X, X, AV.ptr 1 0, AV.ptr 2 0, X, X, X, AV.vs [] 0 Tok.zero, X, X, X, X, X, X, X, X, X, X, AV.vs l len Tok.none, I (↑len : Int), I (IntKind.i64.wrap (i + (1 : Int)))] ++ List.replicate 15 X) (St.mk [some (HB.cells rl 25), some (HB.cells (encP p) 40), some (HB.cells (encP q) 40)] [] []) (kBlock 0 (kSeq Tryz.X31 (cd PP 31 [1, 1, 1, 1]) (kRet Tryz.X31 31 Q)))) False) False)) False) False) False) False) False) (Q (CR.ret (AV.tup [AV.vs [] 0 Tok.zero, I (0 : Int)])))) := by kernel_rfl
theorem v31o (rl : List AV) (l cs : List AV) (len n k : Nat) (T : List (Nat × (Nat × Nat))) (p q : Prf) (i : Int) (Q : CR → Prop) : wpC Tryz.X31 (cd PP 31 [1, 1, 1, 0, 1, 0, 0]) ([X, X, X, X, .ptr 1 0, .ptr 2 0, X, X, X, .vs cs n (.own k), X, X, X, X, X, X, X, X, X, X, .vs l len .none, I len, I i] ++ List.replicate 15 X) ⟨[some (.cells rl 25), some (.cells (encP p) 40), some (.cells (encP q) 40)], T, []⟩ (kLoop Tryz.X31 (cd PP 31 [1, 1, 1, 0, 1, 0, 0]) (kBlock 0 (kSeq Tryz.X31 (cd PP 31 [1, 1, 1, 1]) (kRet Tryz.X31 31 Q)))) =
  (cIf (decide (i < (↑len : Int))) (cIf (decide ((0 : Int) ≤ i)) (cIf (decide (i.toNat < len)) (cIf (decide (len * 8 = l.length)) (cIf (decide (8 ≤ (List.drop (i.toNat * 8) l).length)) (cIf (like zR (el (List.drop (i.toNat * 8) l) 0 8)) (((∃ (t : Tst), (elT3 (el (List.drop (i.toNat * 8) l) 0 8)) = encT t ∧ wfT t ∧ shT t = true) ∧ (∃ (a : Prf), (encP p) = encP a) ∧ ∃ (b : Prf), (encP q) = encP b) ∧ cIf (onEnc encT (fun (t : Tst) => onEnc encP (fun (a : Prf) => onEnc encP (fun (b : Prf) => hoT t a b) false (encP q)) false (encP p)) false (elT3 (el (List.drop (i.toNat * 8) l) 0 8))) (cIf (decide ((n + 1) * 8 ≤ 140737488355328)) (cIf (decide (n + 1 ≤ 140737488355328)) (cIf (decide (cs.length = n * 1)) (cIf (decide ((T ++ [(1, 1, 3)])[k]? = some (n, 1, 3))) (cIf (noHL 3 ([X, X, X, X, AV.ptr 1 0, AV.ptr 2 0, X, X, X, AV.vs (cs ++ [I i]) (n + 1) (Tok.own k), X, X, X, X, X, X, X, X, X, X, AV.vs l len Tok.none, I (↑len : Int), I (IntKind.i64.wrap (i + (1 : Int)))] ++ List.replicate 15 X)) (cIf ([some (HB.cells rl 25), some (HB.cells (encP p) 40), some (HB.cells (encP q) 40)].all (okBlk 3)) (WLoop Tryz.X31 (cd PP 31 [1, 1, 1, 0, 1, 0, 0]) ([X, X, X, X, AV.ptr 1 0, AV.ptr 2 0, X, X, X, AV.vs (cs ++ [I i]) (n + 1) (Tok.own k), X, X, X, X, X, X, X, X, X, X, AV.vs l len Tok.none, I (↑len : Int), I (IntKind.i64.wrap (i + (1 : Int)))] ++ List.replicate 15 X) (St.mk [some (HB.cells rl 25), some (HB.cells (encP p) 40), some (HB.cells (encP q) 40)] ((T ++ [(1, 1, 3)]).set k (n + 1, 1, 3)) []) (kBlock 0 (kSeq Tryz.X31 (cd PP 31 [1, 1, 1, 1]) (kRet Tryz.X31 31 Q)))) False) False) False) False) False) False) (cIf (noHL 3 ([X, X, X, X, AV.ptr 1 0, AV.ptr 2 0, X, X, X, AV.vs cs n (Tok.own k), X, X, X, X, X, X, X, X, X, X, AV.vs l len Tok.none, I (↑len : Int), I (IntKind.i64.wrap (i + (1 : Int)))] ++ List.replicate 15 X)) (cIf ([some (HB.cells rl 25), some (HB.cells (encP p) 40), some (HB.cells (encP q) 40)].all (okBlk 3)) (WLoop Tryz.X31 (cd PP 31 [1, 1, 1, 0, 1, 0, 0]) ([X, X, X, X, AV.ptr 1 0, AV.ptr 2 0, X, X, X, AV.vs cs n (Tok.own k), X, X, X, X, X, X, X, X, X, X, AV.vs l len Tok.none, I (↑len : Int), I (IntKind.i64.wrap (i + (1 : Int)))] ++ List.replicate 15 X) (St.mk [some (HB.cells rl 25), some (HB.cells (encP p) 40), some (HB.cells (encP q) 40)] T []) (kBlock 0 (kSeq Tryz.X31 (cd PP 31 [1, 1, 1, 1]) (kRet Tryz.X31 31 Q)))) False) False)) False) False) False) False) False) (kRet Tryz.X31 31 Q EX.ret [X, X, X, X, X, X, AV.vs cs n (Tok.own k), I (0 : Int), X, AV.vs cs n (Tok.own k), X, X, X, X, X, X, X, X, X, X, X, X, X, X, X, X, X, X, X, X, X, X, X, X, X, X, X, AV.vs cs n (Tok.own k)] (St.mk [some (HB.cells rl 25), some (HB.cells (encP p) 40), some (HB.cells (encP q) 40)] T []))) := by kernel_rfl
theorem v32 (l : List AV) (len : Nat) (p q : Prf) (Q : CR → Prop) : wpF Tryz.X32 32 [.agg [.vs l len .none], .agg (encP p), .agg (encP q)] Q =
  ((∃ (rs : List Rul), l = encRs rs ∧ len = rs.length ∧ wfRs rs) ∧ cIf (onEnc encRs chk (0 : Int) l != (0 : Int)) (Q (CR.ret (AV.tup [AV.vs [] 0 Tok.zero, I (onEnc encRs chk (0 : Int) l)]))) (True ∧ True ∧ cIf (!okP p.cl p.vi p.cr p.le) (Q (CR.ret (AV.tup [AV.vs [] 0 Tok.zero, I (1 : Int)]))) (cIf (!okP q.cl q.vi q.cr q.le) (Q (CR.ret (AV.tup [AV.vs [] 0 Tok.zero, I (1 : Int)]))) (WLoop Tryz.X32 (cd Tryz.X32.P 32 [1, 1, 1, 1, 1, 1, 1, 0, 1, 0, 0]) ([X, X, X, AV.ptr 0 0, AV.ptr 1 0, AV.ptr 2 0, X, X, X, X, X, AV.vs [] 0 Tok.zero, I (0 : Int)] ++ List.replicate 38 X) (St.mk [some (HB.cells [AV.vs l len Tok.none] 25), some (HB.cells (encP p) 40), some (HB.cells (encP q) 40)] [] []) (kBlock 0 (kSeq Tryz.X32 (cd Tryz.X32.P 32 [1, 1, 1, 1, 1, 1, 1, 1]) (kRet Tryz.X32 32 Q))))))) := by kernel_rfl
theorem v32z (l : List AV) (len : Nat) (p q : Prf) (i : Int) (Q : CR → Prop) : wpC Tryz.X32 (cd PP 32 [1, 1, 1, 1, 1, 1, 1, 0, 1, 0, 0]) ([X, X, X, .ptr 0 0, .ptr 1 0, .ptr 2 0, X, X, X, X, X, .vs [] 0 .zero, I i] ++ List.replicate 38 X) ⟨[some (.cells [.vs l len .none] 25), some (.cells (encP p) 40), some (.cells (encP q) 40)], [], []⟩ (kLoop Tryz.X32 (cd PP 32 [1, 1, 1, 1, 1, 1, 1, 0, 1, 0, 0]) (kBlock 0 (kSeq Tryz.X32 (cd PP 32 [1, 1, 1, 1, 1, 1, 1, 1]) (kRet Tryz.X32 32 Q)))) =
  (cIf (decide (i < (↑len : Int))) (cIf (decide ((0 : Int) ≤ i)) (cIf (decide (i.toNat < len)) (cIf (decide (len * 8 = l.length)) (cIf (decide (5 ≤ (List.drop 3 (List.drop (i.toNat * 8) l)).length)) (cIf (like zT (el (List.drop 3 (List.drop (i.toNat * 8) l)) 0 5)) (cIf (noHL [some (HB.cells [AV.vs l len Tok.none] 25), some (HB.cells (encP p) 40), some (HB.cells (encP q) 40)].length ([] ++ [AV.agg (elT (el (List.drop 3 (List.drop (i.toNat * 8) l)) 0 5)), AV.agg (encP p), AV.agg (encP q)] ++ [])) (((∃ (t : Tst), (elT (el (List.drop 3 (List.drop (i.toNat * 8) l)) 0 5)) = encT t ∧ wfT t) ∧ (∃ (a : Prf), (encP p) = encP a) ∧ ∃ (b : Prf), (encP q) = encP b) ∧ St.mk [some (HB.cells [AV.vs l len Tok.none] 25), some (HB.cells (encP p) 40), some (HB.cells (encP q) 40)] [] [] = St.mk [some (HB.cells [AV.vs l len Tok.none] 25), some (HB.cells (encP p) 40), some (HB.cells (encP q) 40)] [] [] ∧ cIf (onEnc encT (fun (t : Tst) => onEnc encP (fun (a : Prf) => onEnc encP (fun (b : Prf) => hoT t a b) false (encP q)) false (encP p)) false (elT (el (List.drop 3 (List.drop (i.toNat * 8) l)) 0 5))) (WLoop Tryz.X32 (cd PP 32 [1, 1, 1, 1, 1, 1, 1, 0, 1, 0, 0]) ([X, X, X, AV.ptr 0 0, AV.ptr 1 0, AV.ptr 2 0, X, X, X, X, X, AV.vs [I i] 1 (Tok.own 1), I (IntKind.i64.wrap (i + (1 : Int)))] ++ List.replicate 38 X) (St.mk [some (HB.cells [AV.vs l len Tok.none] 25), some (HB.cells (encP p) 40), some (HB.cells (encP q) 40)] [(1, 1, 3), (1, 1, 3)] []) (kBlock 0 (kSeq Tryz.X32 (cd PP 32 [1, 1, 1, 1, 1, 1, 1, 1]) (kRet Tryz.X32 32 Q)))) (WLoop Tryz.X32 (cd PP 32 [1, 1, 1, 1, 1, 1, 1, 0, 1, 0, 0]) ([X, X, X, AV.ptr 0 0, AV.ptr 1 0, AV.ptr 2 0, X, X, X, X, X, AV.vs [] 0 Tok.zero, I (IntKind.i64.wrap (i + (1 : Int)))] ++ List.replicate 38 X) (St.mk [some (HB.cells [AV.vs l len Tok.none] 25), some (HB.cells (encP p) 40), some (HB.cells (encP q) 40)] [] []) (kBlock 0 (kSeq Tryz.X32 (cd PP 32 [1, 1, 1, 1, 1, 1, 1, 1]) (kRet Tryz.X32 32 Q))))) False) False) False) False) False) False) (Q (CR.ret (AV.tup [AV.vs [] 0 Tok.zero, I (0 : Int)])))) := by kernel_rfl
theorem v32o (l cs : List AV) (len n k : Nat) (T : List (Nat × (Nat × Nat))) (p q : Prf) (i : Int) (Q : CR → Prop) : wpC Tryz.X32 (cd PP 32 [1, 1, 1, 1, 1, 1, 1, 0, 1, 0, 0]) ([X, X, X, .ptr 0 0, .ptr 1 0, .ptr 2 0, X, X, X, X, X, .vs cs n (.own k), I i] ++ List.replicate 38 X) ⟨[some (.cells [.vs l len .none] 25), some (.cells (encP p) 40), some (.cells (encP q) 40)], T, []⟩ (kLoop Tryz.X32 (cd PP 32 [1, 1, 1, 1, 1, 1, 1, 0, 1, 0, 0]) (kBlock 0 (kSeq Tryz.X32 (cd PP 32 [1, 1, 1, 1, 1, 1, 1, 1]) (kRet Tryz.X32 32 Q)))) =
  (cIf (decide (i < (↑len : Int))) (cIf (decide ((0 : Int) ≤ i)) (cIf (decide (i.toNat < len)) (cIf (decide (len * 8 = l.length)) (cIf (decide (5 ≤ (List.drop 3 (List.drop (i.toNat * 8) l)).length)) (cIf (like zT (el (List.drop 3 (List.drop (i.toNat * 8) l)) 0 5)) (cIf (noHL [some (HB.cells [AV.vs l len Tok.none] 25), some (HB.cells (encP p) 40), some (HB.cells (encP q) 40)].length ([] ++ [AV.agg (elT (el (List.drop 3 (List.drop (i.toNat * 8) l)) 0 5)), AV.agg (encP p), AV.agg (encP q)] ++ [])) (((∃ (t : Tst), (elT (el (List.drop 3 (List.drop (i.toNat * 8) l)) 0 5)) = encT t ∧ wfT t) ∧ (∃ (a : Prf), (encP p) = encP a) ∧ ∃ (b : Prf), (encP q) = encP b) ∧ St.mk [some (HB.cells [AV.vs l len Tok.none] 25), some (HB.cells (encP p) 40), some (HB.cells (encP q) 40)] T [] = St.mk [some (HB.cells [AV.vs l len Tok.none] 25), some (HB.cells (encP p) 40), some (HB.cells (encP q) 40)] T [] ∧ cIf (onEnc encT (fun (t : Tst) => onEnc encP (fun (a : Prf) => onEnc encP (fun (b : Prf) => hoT t a b) false (encP q)) false (encP p)) false (elT (el (List.drop 3 (List.drop (i.toNat * 8) l)) 0 5))) (cIf (decide ((n + 1) * 8 ≤ 140737488355328)) (cIf (decide (n + 1 ≤ 140737488355328)) (cIf (decide (cs.length = n * 1)) (cIf (decide ((T ++ [(1, 1, 3)])[k]? = some (n, 1, 3))) (WLoop Tryz.X32 (cd PP 32 [1, 1, 1, 1, 1, 1, 1, 0, 1, 0, 0]) ([X, X, X, AV.ptr 0 0, AV.ptr 1 0, AV.ptr 2 0, X, X, X, X, X, AV.vs (cs ++ [I i]) (n + 1) (Tok.own k), I (IntKind.i64.wrap (i + (1 : Int)))] ++ List.replicate 38 X) (St.mk [some (HB.cells [AV.vs l len Tok.none] 25), some (HB.cells (encP p) 40), some (HB.cells (encP q) 40)] ((T ++ [(1, 1, 3)]).set k (n + 1, 1, 3)) []) (kBlock 0 (kSeq Tryz.X32 (cd PP 32 [1, 1, 1, 1, 1, 1, 1, 1]) (kRet Tryz.X32 32 Q)))) False) False) False) False) (WLoop Tryz.X32 (cd PP 32 [1, 1, 1, 1, 1, 1, 1, 0, 1, 0, 0]) ([X, X, X, AV.ptr 0 0, AV.ptr 1 0, AV.ptr 2 0, X, X, X, X, X, AV.vs cs n (Tok.own k), I (IntKind.i64.wrap (i + (1 : Int)))] ++ List.replicate 38 X) (St.mk [some (HB.cells [AV.vs l len Tok.none] 25), some (HB.cells (encP p) 40), some (HB.cells (encP q) 40)] T []) (kBlock 0 (kSeq Tryz.X32 (cd PP 32 [1, 1, 1, 1, 1, 1, 1, 1]) (kRet Tryz.X32 32 Q))))) False) False) False) False) False) False) (kRet Tryz.X32 32 Q EX.ret [X, X, X, X, X, X, AV.vs cs n (Tok.own k), I (0 : Int), X, X, X, AV.vs cs n (Tok.own k), X, X, X, X, X, X, X, X, X, X, X, X, X, X, X, X, X, X, X, X, X, X, X, X, X, X, X, X, X, X, X, X, X, X, X, X, X, X, AV.vs cs n (Tok.own k)] (St.mk [some (HB.cells [AV.vs l len Tok.none] 25), some (HB.cells (encP p) 40), some (HB.cells (encP q) 40)] T []))) := by kernel_rfl
theorem v83 (l : List AV) (len : Nat) (p q : Prf) (Q : CR → Prop) : wpF Tryz.X83 83 [.agg [.vs l len .none], .agg (encP p), .agg (encP q)] Q =
  (cIf ([some (HB.cells [AV.vs l len Tok.none] 25), some (HB.cells (encP p) 40), some (HB.cells (encP q) 40), some (HB.cells [U (0 : Int), I (0 : Int), I (0 : Int), I (0 : Int)] 115), some (HB.cells [U (0 : Int), I (-1 : Int), I (-1 : Int), I (0 : Int)] 115)].all (okBlk 5)) (WLoop Tryz.X83 (cd Tryz.X83.P 83 [1, 1, 0, 1, 0, 0]) ([X, X, X, AV.ptr 0 0, AV.ptr 1 0, AV.ptr 2 0, AV.ptr 3 0, AV.ptr 4 0, I (0 : Int)] ++ List.replicate 84 X) (St.mk [some (HB.cells [AV.vs l len Tok.none] 25), some (HB.cells (encP p) 40), some (HB.cells (encP q) 40), some (HB.cells [U (0 : Int), I (0 : Int), I (0 : Int), I (0 : Int)] 115), some (HB.cells [U (0 : Int), I (-1 : Int), I (-1 : Int), I (0 : Int)] 115)] [] []) (kBlock 0 (kSeq Tryz.X83 (cd Tryz.X83.P 83 [1, 1, 1]) (kRet Tryz.X83 83 Q)))) False) := by kernel_rfl
theorem v83l (l : List AV) (len : Nat) (p q : Prf) (v w r i : Int) (Q : CR → Prop) : wpC Tryz.X83 (cd PP 83 [1, 1, 0, 1, 0, 0]) ([X, X, X, .ptr 0 0, .ptr 1 0, .ptr 2 0, .ptr 3 0, .ptr 4 0, I i] ++ List.replicate 84 X) ⟨[some (.cells [.vs l len .none] 25), some (.cells (encP p) 40), some (.cells (encP q) 40), some (.cells [U 0, I 0, I 0, I 0] 115), some (.cells [U 0, I v, I w, I r] 115)], [], []⟩ (kLoop Tryz.X83 (cd PP 83 [1, 1, 0, 1, 0, 0]) (kBlock 0 (kSeq Tryz.X83 (cd PP 83 [1, 1, 1]) (kRet Tryz.X83 83 Q)))) =
  (cIf (decide (i < (↑len : Int))) (cIf (decide ((0 : Int) ≤ i)) (cIf (decide (i.toNat < len)) (cIf (decide (len * 8 = l.length)) (cIf (decide (8 ≤ (List.drop (i.toNat * 8) l).length)) (cIf (like zR (el (List.drop (i.toNat * 8) l) 0 8)) (cIf (decide (cI (el (List.drop (i.toNat * 8) l) 0 8) 1 < r)) (cIf ([some (HB.cells [AV.vs l len Tok.none] 25), some (HB.cells (encP p) 40), some (HB.cells (encP q) 40), some (HB.cells [U (0 : Int), I (0 : Int), I (0 : Int), I (0 : Int)] 115), some (HB.cells [U (0 : Int), I v, I w, I r] 115)].all (okBlk 5)) (WLoop Tryz.X83 (cd PP 83 [1, 1, 0, 1, 0, 0]) ([X, X, X, AV.ptr 0 0, AV.ptr 1 0, AV.ptr 2 0, AV.ptr 3 0, AV.ptr 4 0, I (IntKind.i64.wrap (i + (1 : Int)))] ++ List.replicate 84 X) (St.mk [some (HB.cells [AV.vs l len Tok.none] 25), some (HB.cells (encP p) 40), some (HB.cells (encP q) 40), some (HB.cells [U (0 : Int), I (0 : Int), I (0 : Int), I (0 : Int)] 115), some (HB.cells [U (0 : Int), I v, I w, I r] 115)] [] []) (kBlock 0 (kSeq Tryz.X83 (cd PP 83 [1, 1, 1]) (kRet Tryz.X83 83 Q)))) False) (((∃ (t : Tst), (elT3 (el (List.drop (i.toNat * 8) l) 0 8)) = encT t ∧ wfT t) ∧ (∃ (a : Prf), (encP p) = encP a) ∧ ∃ (b : Prf), (encP q) = encP b) ∧ ((∃ (t : Tst), (elT3 (el (List.drop (i.toNat * 8) l) 0 8)) = encT t ∧ wfT t) ∧ (∃ (a : Prf), (encP q) = encP a) ∧ ∃ (b : Prf), (encP p) = encP b) ∧ cIf ([some (HB.cells [AV.vs l len Tok.none] 25), some (HB.cells (encP p) 40), some (HB.cells (encP q) 40), some (HB.cells [U (0 : Int), I (0 : Int), I (0 : Int), I (0 : Int)] 115), some (HB.cells [U (0 : Int), I v, I w, I r] 115), some (HB.cells (elR (el (List.drop (i.toNat * 8) l) 0 8)) 73)].all (okBlk 6)) (WCut Tryz.X83 (cd PP 83 [1, 1, 0, 1, 0, 0, 1, 0, 0, 1, 1, 1, 1]) ([X, X, X, AV.ptr 0 0, AV.ptr 1 0, AV.ptr 2 0, AV.ptr 3 0, AV.ptr 4 0, I i, AV.ptr 5 0, AV.bool (onEnc encT (fun (t : Tst) => onEnc encP (fun (a : Prf) => onEnc encP (fun (b : Prf) => hoT t a b) false (encP q)) false (encP p)) false (elT3 (el (List.drop (i.toNat * 8) l) 0 8))), AV.bool (onEnc encT (fun (t : Tst) => onEnc encP (fun (a : Prf) => onEnc encP (fun (b : Prf) => hoT t a b) false (encP p)) false (encP q)) false (elT3 (el (List.drop (i.toNat * 8) l) 0 8)))] ++ List.replicate 81 X) (St.mk [some (HB.cells [AV.vs l len Tok.none] 25), some (HB.cells (encP p) 40), some (HB.cells (encP q) 40), some (HB.cells [U (0 : Int), I (0 : Int), I (0 : Int), I (0 : Int)] 115), some (HB.cells [U (0 : Int), I v, I w, I r] 115), some (HB.cells (elR (el (List.drop (i.toNat * 8) l) 0 8)) 73)] [] []) (kBlock 1 (kSeq Tryz.X83 (cd PP 83 [1, 1, 0, 1, 0, 0, 1, 1]) (kLoop Tryz.X83 (cd PP 83 [1, 1, 0, 1, 0, 0]) (kBlock 0 (kSeq Tryz.X83 (cd PP 83 [1, 1, 1]) (kRet Tryz.X83 83 Q))))))) False)) False) False) False) False) False) (cIf ([some (HB.cells [AV.vs l len Tok.none] 25), some (HB.cells (encP p) 40), some (HB.cells (encP q) 40), some (HB.cells [U (0 : Int), I (0 : Int), I (0 : Int), I (0 : Int)] 115), some (HB.cells [U (0 : Int), I v, I w, I r] 115)].all (okBlk 5)) (WCut Tryz.X83 (cd PP 83 [1, 1, 1]) ([X, X, X, X, X, X, AV.ptr 3 0, AV.ptr 4 0] ++ List.replicate 85 X) (St.mk [some (HB.cells [AV.vs l len Tok.none] 25), some (HB.cells (encP p) 40), some (HB.cells (encP q) 40), some (HB.cells [U (0 : Int), I (0 : Int), I (0 : Int), I (0 : Int)] 115), some (HB.cells [U (0 : Int), I v, I w, I r] 115)] [] []) (kRet Tryz.X83 83 Q)) False)) := by kernel_rfl
theorem v83a (l : List AV) (len : Nat) (p q : Prf) (x : Rul) (t b : Bool) (v w r i : Int) (Q : CR → Prop) : wpC Tryz.X83 (cd PP 83 [1, 1, 0, 1, 0, 0, 1, 0, 0, 1, 1, 1, 1]) ([X, X, X, .ptr 0 0, .ptr 1 0, .ptr 2 0, .ptr 3 0, .ptr 4 0, I i, .ptr 5 0, Bo t, Bo b] ++ List.replicate 81 X) ⟨[some (.cells [.vs l len .none] 25), some (.cells (encP p) 40), some (.cells (encP q) 40), some (.cells [U 0, I 0, I 0, I 0] 115), some (.cells [U 0, I v, I w, I r] 115), some (.cells (encR x) 73)], [], []⟩ (kBlock 1 (kSeq Tryz.X83 (cd PP 83 [1, 1, 0, 1, 0, 0, 1, 1]) (kLoop Tryz.X83 (cd PP 83 [1, 1, 0, 1, 0, 0]) (kBlock 0 (kSeq Tryz.X83 (cd PP 83 [1, 1, 1]) (kRet Tryz.X83 83 Q)))))) =
  (cIf t (cIf (decide (x.rank > r)) (cIf ([some (HB.cells [AV.vs l len Tok.none] 25), some (HB.cells (encP p) 40), some (HB.cells (encP q) 40), some (HB.cells [U (0 : Int), I (0 : Int), I (0 : Int), I (0 : Int)] 115), some (HB.cells [U (0 : Int), I (-1 : Int), I (-1 : Int), I x.rank] 115)].all (okBlk 5)) (WCut Tryz.X83 (cd PP 83 [1, 1, 0, 1, 0, 0, 1, 0, 0, 1, 1, 1, 1, 1]) ([X, X, X, AV.ptr 0 0, AV.ptr 1 0, AV.ptr 2 0, AV.ptr 3 0, AV.ptr 4 0, I i, X, Bo t, Bo b] ++ List.replicate 81 X) (St.mk [some (HB.cells [AV.vs l len Tok.none] 25), some (HB.cells (encP p) 40), some (HB.cells (encP q) 40), some (HB.cells [U (0 : Int), I (0 : Int), I (0 : Int), I (0 : Int)] 115), some (HB.cells [U (0 : Int), I (-1 : Int), I (-1 : Int), I x.rank] 115)] [] []) (kBlock 1 (kSeq Tryz.X83 (cd PP 83 [1, 1, 0, 1, 0, 0, 1, 1]) (kLoop Tryz.X83 (cd PP 83 [1, 1, 0, 1, 0, 0]) (kBlock 0 (kSeq Tryz.X83 (cd PP 83 [1, 1, 1]) (kRet Tryz.X83 83 Q))))))) False) (cIf ([some (HB.cells [AV.vs l len Tok.none] 25), some (HB.cells (encP p) 40), some (HB.cells (encP q) 40), some (HB.cells [U (0 : Int), I (0 : Int), I (0 : Int), I (0 : Int)] 115), some (HB.cells [U (0 : Int), I v, I w, I r] 115)].all (okBlk 5)) (WCut Tryz.X83 (cd PP 83 [1, 1, 0, 1, 0, 0, 1, 0, 0, 1, 1, 1, 1, 1]) ([X, X, X, AV.ptr 0 0, AV.ptr 1 0, AV.ptr 2 0, AV.ptr 3 0, AV.ptr 4 0, I i, X, Bo t, Bo b] ++ List.replicate 81 X) (St.mk [some (HB.cells [AV.vs l len Tok.none] 25), some (HB.cells (encP p) 40), some (HB.cells (encP q) 40), some (HB.cells [U (0 : Int), I (0 : Int), I (0 : Int), I (0 : Int)] 115), some (HB.cells [U (0 : Int), I v, I w, I r] 115)] [] []) (kBlock 1 (kSeq Tryz.X83 (cd PP 83 [1, 1, 0, 1, 0, 0, 1, 1]) (kLoop Tryz.X83 (cd PP 83 [1, 1, 0, 1, 0, 0]) (kBlock 0 (kSeq Tryz.X83 (cd PP 83 [1, 1, 1]) (kRet Tryz.X83 83 Q))))))) False)) (cIf b (cIf (decide (x.rank > r)) (cIf ([some (HB.cells [AV.vs l len Tok.none] 25), some (HB.cells (encP p) 40), some (HB.cells (encP q) 40), some (HB.cells [U (0 : Int), I (0 : Int), I (0 : Int), I (0 : Int)] 115), some (HB.cells [U (0 : Int), I (-1 : Int), I (-1 : Int), I x.rank] 115)].all (okBlk 5)) (WCut Tryz.X83 (cd PP 83 [1, 1, 0, 1, 0, 0, 1, 0, 0, 1, 1, 1, 1, 1]) ([X, X, X, AV.ptr 0 0, AV.ptr 1 0, AV.ptr 2 0, AV.ptr 3 0, AV.ptr 4 0, I i, X, Bo t, Bo b] ++ List.replicate 81 X) (St.mk [some (HB.cells [AV.vs l len Tok.none] 25), some (HB.cells (encP p) 40), some (HB.cells (encP q) 40), some (HB.cells [U (0 : Int), I (0 : Int), I (0 : Int), I (0 : Int)] 115), some (HB.cells [U (0 : Int), I (-1 : Int), I (-1 : Int), I x.rank] 115)] [] []) (kBlock 1 (kSeq Tryz.X83 (cd PP 83 [1, 1, 0, 1, 0, 0, 1, 1]) (kLoop Tryz.X83 (cd PP 83 [1, 1, 0, 1, 0, 0]) (kBlock 0 (kSeq Tryz.X83 (cd PP 83 [1, 1, 1]) (kRet Tryz.X83 83 Q))))))) False) (cIf ([some (HB.cells [AV.vs l len Tok.none] 25), some (HB.cells (encP p) 40), some (HB.cells (encP q) 40), some (HB.cells [U (0 : Int), I (0 : Int), I (0 : Int), I (0 : Int)] 115), some (HB.cells [U (0 : Int), I v, I w, I r] 115)].all (okBlk 5)) (WCut Tryz.X83 (cd PP 83 [1, 1, 0, 1, 0, 0, 1, 0, 0, 1, 1, 1, 1, 1]) ([X, X, X, AV.ptr 0 0, AV.ptr 1 0, AV.ptr 2 0, AV.ptr 3 0, AV.ptr 4 0, I i, X, Bo t, Bo b] ++ List.replicate 81 X) (St.mk [some (HB.cells [AV.vs l len Tok.none] 25), some (HB.cells (encP p) 40), some (HB.cells (encP q) 40), some (HB.cells [U (0 : Int), I (0 : Int), I (0 : Int), I (0 : Int)] 115), some (HB.cells [U (0 : Int), I v, I w, I r] 115)] [] []) (kBlock 1 (kSeq Tryz.X83 (cd PP 83 [1, 1, 0, 1, 0, 0, 1, 1]) (kLoop Tryz.X83 (cd PP 83 [1, 1, 0, 1, 0, 0]) (kBlock 0 (kSeq Tryz.X83 (cd PP 83 [1, 1, 1]) (kRet Tryz.X83 83 Q))))))) False)) (cIf ([some (HB.cells [AV.vs l len Tok.none] 25), some (HB.cells (encP p) 40), some (HB.cells (encP q) 40), some (HB.cells [U (0 : Int), I (0 : Int), I (0 : Int), I (0 : Int)] 115), some (HB.cells [U (0 : Int), I v, I w, I r] 115)].all (okBlk 5)) (WCut Tryz.X83 (cd PP 83 [1, 1, 0, 1, 0, 0, 1, 0, 0, 1, 1, 1, 1, 1]) ([X, X, X, AV.ptr 0 0, AV.ptr 1 0, AV.ptr 2 0, AV.ptr 3 0, AV.ptr 4 0, I i, X, Bo t, Bo b] ++ List.replicate 81 X) (St.mk [some (HB.cells [AV.vs l len Tok.none] 25), some (HB.cells (encP p) 40), some (HB.cells (encP q) 40), some (HB.cells [U (0 : Int), I (0 : Int), I (0 : Int), I (0 : Int)] 115), some (HB.cells [U (0 : Int), I v, I w, I r] 115)] [] []) (kBlock 1 (kSeq Tryz.X83 (cd PP 83 [1, 1, 0, 1, 0, 0, 1, 1]) (kLoop Tryz.X83 (cd PP 83 [1, 1, 0, 1, 0, 0]) (kBlock 0 (kSeq Tryz.X83 (cd PP 83 [1, 1, 1]) (kRet Tryz.X83 83 Q))))))) False))) := by kernel_rfl
theorem v83b (l : List AV) (len : Nat) (p q : Prf) (t b : Bool) (v w r i : Int) (Q : CR → Prop) : wpC Tryz.X83 (cd PP 83 [1, 1, 0, 1, 0, 0, 1, 0, 0, 1, 1, 1, 1, 1]) ([X, X, X, .ptr 0 0, .ptr 1 0, .ptr 2 0, .ptr 3 0, .ptr 4 0, I i, X, Bo t, Bo b] ++ List.replicate 81 X) ⟨[some (.cells [.vs l len .none] 25), some (.cells (encP p) 40), some (.cells (encP q) 40), some (.cells [U 0, I 0, I 0, I 0] 115), some (.cells [U 0, I v, I w, I r] 115)], [], []⟩ (kBlock 1 (kSeq Tryz.X83 (cd PP 83 [1, 1, 0, 1, 0, 0, 1, 1]) (kLoop Tryz.X83 (cd PP 83 [1, 1, 0, 1, 0, 0]) (kBlock 0 (kSeq Tryz.X83 (cd PP 83 [1, 1, 1]) (kRet Tryz.X83 83 Q)))))) =
  (cIf t (cIf (decide (v < (0 : Int))) (cIf ([some (HB.cells [AV.vs l len Tok.none] 25), some (HB.cells (encP p) 40), some (HB.cells (encP q) 40), some (HB.cells [U (0 : Int), I (0 : Int), I (0 : Int), I (0 : Int)] 115), some (HB.cells [U (0 : Int), I i, I w, I r] 115)].all (okBlk 5)) (WCut Tryz.X83 (cd PP 83 [1, 1, 0, 1, 0, 0, 1, 0, 0, 1, 1, 1, 1, 1, 1]) ([X, X, X, AV.ptr 0 0, AV.ptr 1 0, AV.ptr 2 0, AV.ptr 3 0, AV.ptr 4 0, I i, X, X, Bo b] ++ List.replicate 81 X) (St.mk [some (HB.cells [AV.vs l len Tok.none] 25), some (HB.cells (encP p) 40), some (HB.cells (encP q) 40), some (HB.cells [U (0 : Int), I (0 : Int), I (0 : Int), I (0 : Int)] 115), some (HB.cells [U (0 : Int), I i, I w, I r] 115)] [] []) (kBlock 1 (kSeq Tryz.X83 (cd PP 83 [1, 1, 0, 1, 0, 0, 1, 1]) (kLoop Tryz.X83 (cd PP 83 [1, 1, 0, 1, 0, 0]) (kBlock 0 (kSeq Tryz.X83 (cd PP 83 [1, 1, 1]) (kRet Tryz.X83 83 Q))))))) False) (cIf ([some (HB.cells [AV.vs l len Tok.none] 25), some (HB.cells (encP p) 40), some (HB.cells (encP q) 40), some (HB.cells [U (0 : Int), I (0 : Int), I (0 : Int), I (0 : Int)] 115), some (HB.cells [U (0 : Int), I v, I w, I r] 115)].all (okBlk 5)) (WCut Tryz.X83 (cd PP 83 [1, 1, 0, 1, 0, 0, 1, 0, 0, 1, 1, 1, 1, 1, 1]) ([X, X, X, AV.ptr 0 0, AV.ptr 1 0, AV.ptr 2 0, AV.ptr 3 0, AV.ptr 4 0, I i, X, X, Bo b] ++ List.replicate 81 X) (St.mk [some (HB.cells [AV.vs l len Tok.none] 25), some (HB.cells (encP p) 40), some (HB.cells (encP q) 40), some (HB.cells [U (0 : Int), I (0 : Int), I (0 : Int), I (0 : Int)] 115), some (HB.cells [U (0 : Int), I v, I w, I r] 115)] [] []) (kBlock 1 (kSeq Tryz.X83 (cd PP 83 [1, 1, 0, 1, 0, 0, 1, 1]) (kLoop Tryz.X83 (cd PP 83 [1, 1, 0, 1, 0, 0]) (kBlock 0 (kSeq Tryz.X83 (cd PP 83 [1, 1, 1]) (kRet Tryz.X83 83 Q))))))) False)) (cIf ([some (HB.cells [AV.vs l len Tok.none] 25), some (HB.cells (encP p) 40), some (HB.cells (encP q) 40), some (HB.cells [U (0 : Int), I (0 : Int), I (0 : Int), I (0 : Int)] 115), some (HB.cells [U (0 : Int), I v, I w, I r] 115)].all (okBlk 5)) (WCut Tryz.X83 (cd PP 83 [1, 1, 0, 1, 0, 0, 1, 0, 0, 1, 1, 1, 1, 1, 1]) ([X, X, X, AV.ptr 0 0, AV.ptr 1 0, AV.ptr 2 0, AV.ptr 3 0, AV.ptr 4 0, I i, X, X, Bo b] ++ List.replicate 81 X) (St.mk [some (HB.cells [AV.vs l len Tok.none] 25), some (HB.cells (encP p) 40), some (HB.cells (encP q) 40), some (HB.cells [U (0 : Int), I (0 : Int), I (0 : Int), I (0 : Int)] 115), some (HB.cells [U (0 : Int), I v, I w, I r] 115)] [] []) (kBlock 1 (kSeq Tryz.X83 (cd PP 83 [1, 1, 0, 1, 0, 0, 1, 1]) (kLoop Tryz.X83 (cd PP 83 [1, 1, 0, 1, 0, 0]) (kBlock 0 (kSeq Tryz.X83 (cd PP 83 [1, 1, 1]) (kRet Tryz.X83 83 Q))))))) False)) := by kernel_rfl
theorem v83c (l : List AV) (len : Nat) (p q : Prf) (b : Bool) (v w r i : Int) (Q : CR → Prop) : wpC Tryz.X83 (cd PP 83 [1, 1, 0, 1, 0, 0, 1, 0, 0, 1, 1, 1, 1, 1, 1]) ([X, X, X, .ptr 0 0, .ptr 1 0, .ptr 2 0, .ptr 3 0, .ptr 4 0, I i, X, X, Bo b] ++ List.replicate 81 X) ⟨[some (.cells [.vs l len .none] 25), some (.cells (encP p) 40), some (.cells (encP q) 40), some (.cells [U 0, I 0, I 0, I 0] 115), some (.cells [U 0, I v, I w, I r] 115)], [], []⟩ (kBlock 1 (kSeq Tryz.X83 (cd PP 83 [1, 1, 0, 1, 0, 0, 1, 1]) (kLoop Tryz.X83 (cd PP 83 [1, 1, 0, 1, 0, 0]) (kBlock 0 (kSeq Tryz.X83 (cd PP 83 [1, 1, 1]) (kRet Tryz.X83 83 Q)))))) =
  (cIf b (cIf (decide (w < (0 : Int))) (cIf ([some (HB.cells [AV.vs l len Tok.none] 25), some (HB.cells (encP p) 40), some (HB.cells (encP q) 40), some (HB.cells [U (0 : Int), I (0 : Int), I (0 : Int), I (0 : Int)] 115), some (HB.cells [U (0 : Int), I v, I i, I r] 115)].all (okBlk 5)) (WLoop Tryz.X83 (cd PP 83 [1, 1, 0, 1, 0, 0]) ([X, X, X, AV.ptr 0 0, AV.ptr 1 0, AV.ptr 2 0, AV.ptr 3 0, AV.ptr 4 0, I (IntKind.i64.wrap (i + (1 : Int)))] ++ List.replicate 84 X) (St.mk [some (HB.cells [AV.vs l len Tok.none] 25), some (HB.cells (encP p) 40), some (HB.cells (encP q) 40), some (HB.cells [U (0 : Int), I (0 : Int), I (0 : Int), I (0 : Int)] 115), some (HB.cells [U (0 : Int), I v, I i, I r] 115)] [] []) (kBlock 0 (kSeq Tryz.X83 (cd PP 83 [1, 1, 1]) (kRet Tryz.X83 83 Q)))) False) (cIf ([some (HB.cells [AV.vs l len Tok.none] 25), some (HB.cells (encP p) 40), some (HB.cells (encP q) 40), some (HB.cells [U (0 : Int), I (0 : Int), I (0 : Int), I (0 : Int)] 115), some (HB.cells [U (0 : Int), I v, I w, I r] 115)].all (okBlk 5)) (WLoop Tryz.X83 (cd PP 83 [1, 1, 0, 1, 0, 0]) ([X, X, X, AV.ptr 0 0, AV.ptr 1 0, AV.ptr 2 0, AV.ptr 3 0, AV.ptr 4 0, I (IntKind.i64.wrap (i + (1 : Int)))] ++ List.replicate 84 X) (St.mk [some (HB.cells [AV.vs l len Tok.none] 25), some (HB.cells (encP p) 40), some (HB.cells (encP q) 40), some (HB.cells [U (0 : Int), I (0 : Int), I (0 : Int), I (0 : Int)] 115), some (HB.cells [U (0 : Int), I v, I w, I r] 115)] [] []) (kBlock 0 (kSeq Tryz.X83 (cd PP 83 [1, 1, 1]) (kRet Tryz.X83 83 Q)))) False)) (cIf ([some (HB.cells [AV.vs l len Tok.none] 25), some (HB.cells (encP p) 40), some (HB.cells (encP q) 40), some (HB.cells [U (0 : Int), I (0 : Int), I (0 : Int), I (0 : Int)] 115), some (HB.cells [U (0 : Int), I v, I w, I r] 115)].all (okBlk 5)) (WLoop Tryz.X83 (cd PP 83 [1, 1, 0, 1, 0, 0]) ([X, X, X, AV.ptr 0 0, AV.ptr 1 0, AV.ptr 2 0, AV.ptr 3 0, AV.ptr 4 0, I (IntKind.i64.wrap (i + (1 : Int)))] ++ List.replicate 84 X) (St.mk [some (HB.cells [AV.vs l len Tok.none] 25), some (HB.cells (encP p) 40), some (HB.cells (encP q) 40), some (HB.cells [U (0 : Int), I (0 : Int), I (0 : Int), I (0 : Int)] 115), some (HB.cells [U (0 : Int), I v, I w, I r] 115)] [] []) (kBlock 0 (kSeq Tryz.X83 (cd PP 83 [1, 1, 1]) (kRet Tryz.X83 83 Q)))) False)) := by kernel_rfl
theorem v83e (l : List AV) (len : Nat) (p q : Prf) (v w r : Int) (Q : CR → Prop) : wpC Tryz.X83 (cd PP 83 [1, 1, 1]) ([X, X, X, X, X, X, .ptr 3 0, .ptr 4 0] ++ List.replicate 85 X) ⟨[some (.cells [.vs l len .none] 25), some (.cells (encP p) 40), some (.cells (encP q) 40), some (.cells [U 0, I 0, I 0, I 0] 115), some (.cells [U 0, I v, I w, I r] 115)], [], []⟩ (kRet Tryz.X83 83 Q) =
  (cIf (decide (v ≥ (0 : Int))) (cIf (decide (w ≥ (0 : Int))) (Q (CR.ret (AV.agg [U (3 : Int), I v, I w, I r]))) (Q (CR.ret (AV.agg [U (1 : Int), I v, I w, I r])))) (cIf (decide (w ≥ (0 : Int))) (Q (CR.ret (AV.agg [U (2 : Int), I v, I w, I r]))) (Q (CR.ret (AV.agg [U (0 : Int), I v, I w, I r]))))) := by kernel_rfl
theorem v33 (l : List AV) (len : Nat) (p q : Prf) (Q : CR → Prop) : wpF Tryz.X33 33 [.agg [.vs l len .none], .agg (encP p), .agg (encP q)] Q =
  ((∃ (rs : List Rul), l = encRs rs ∧ len = rs.length ∧ wfRs rs) ∧ cIf (onEnc encRs chk (0 : Int) l != (0 : Int)) (Q (CR.ret (AV.tup [AV.agg [U (0 : Int), I (0 : Int), I (0 : Int)], I (onEnc encRs chk (0 : Int) l)]))) (True ∧ True ∧ cIf (!okP p.cl p.vi p.cr p.le) (Q (CR.ret (AV.tup [AV.agg [U (0 : Int), I (0 : Int), I (0 : Int)], I (1 : Int)]))) (cIf (!okP q.cl q.vi q.cr q.le) (Q (CR.ret (AV.tup [AV.agg [U (0 : Int), I (0 : Int), I (0 : Int)], I (1 : Int)]))) (((∃ (rs : List Rul), l = encRs rs ∧ len = rs.length ∧ okRs rs) ∧ (∃ (p_1 : Prf), (encP p) = encP p_1) ∧ ∃ (q_1 : Prf), (encP q) = encP q_1) ∧ Q (CR.ret (AV.tup [AV.agg [AV.int IntKind.u8 (kindV (dvR l (encP p) (encP q)).fst (dvR l (encP p) (encP q)).snd.fst), AV.int IntKind.i64 (dvR l (encP p) (encP q)).fst, AV.int IntKind.i64 (dvR l (encP p) (encP q)).snd.fst], I (0 : Int)])))))) := by kernel_rfl
theorem v8 (l : List AV) (len : Nat) (p q : Prf) (Q : CR → Prop) : wpF Tryz.X8 8 [.agg [.vs l len .none], .agg (encP p), .agg (encP q)] Q =
  ((∃ (rs : List Rul), l = encRs rs ∧ len = rs.length ∧ wfRs rs ∧ (0 : Int) ≤ (200 : Int) ∧ (200 : Int) ≤ (1000 : Int)) ∧ cIf (!onEnc encRs (fewB (200 : Int)) false l) (True ∧ Q (CR.ret (Bo true))) (lawD l len (encP p) (encP q) ∧ lawD l len (encP p) (encP q) ∧ ((∃ (rs : List Rul), l = encRs rs ∧ len = rs.length ∧ wfRs rs) ∧ (∃ (p_1 : Prf), (encP p) = encP p_1) ∧ ∃ (q_1 : Prf), (encP q) = encP q_1) ∧ lawD l len (encP p) (encP q) ∧ True ∧ cIf ((fiD l (encP p) (encP q)).snd == (fiD l (encP p) (encP q)).snd) (((∃ (x : List Nat), encD (fiD l (encP p) (encP q)).fst = encD x ∧ (fiD l (encP p) (encP q)).fst.length = x.length ∧ x.length ≤ 1000) ∧ ∃ (y : List Nat), encD (fiD l (encP p) (encP q)).fst = encD y ∧ (fiD l (encP p) (encP q)).fst.length = y.length ∧ y.length ≤ 1000) ∧ cIf (onEnc encD (fun (x : List Nat) => onEnc encD (fun (y : List Nat) => x == y) false (encD (fiD l (encP p) (encP q)).fst)) false (encD (fiD l (encP p) (encP q)).fst)) (cIf ((dvD l (encP p) (encP q)).fst == (dvS l (encP p) (encP q)).fst && ((dvD l (encP p) (encP q)).snd.fst == (dvS l (encP p) (encP q)).snd.fst && ((dvD l (encP p) (encP q)).snd.snd.fst == (dvS l (encP p) (encP q)).snd.snd.fst && true))) (Q (CR.ret (AV.bool ((dvD l (encP p) (encP q)).snd.snd.snd == (dvS l (encP p) (encP q)).snd.snd.snd)))) (Q (CR.ret (Bo false)))) (Q (CR.ret (Bo false)))) (Q (CR.ret (Bo false))))) := by kernel_rfl
end Go.Proofs
/-! C22 -/
set_option maxRecDepth 100000
set_option linter.unusedVariables false
namespace Go.Proofs
open Go Go.Ev
/-! The same lists. -/
theorem same_loop {x y : List Nat} (ta tb : Tok) (hxy : x.length = y.length) (hx : x.length ≤ 1000) {Q : CR → Prop} : ∀ (d i : Nat), x.length - i = d → i ≤ x.length → Q (.ret (Bo (x.drop i == y.drop i))) →
    WLoop Tryz.X34 (cd PP 34 [1, 1, 0, 1, 0, 0]) ([.vs (encD x) x.length ta, .vs (encD y) y.length tb, X, X, X, I i] ++ List.replicate 20 X) ⟨[], [], []⟩ (kBlock 0 (kSeq Tryz.X34 (cd PP 34 [1, 1, 1]) (kRet Tryz.X34 34 Q))) := by
  intro d
  induction d with
  | zero =>
    intro i hd hi hQ
    have hi' : i = x.length := by omega
    subst hi'
    rw [List.drop_length, hxy, List.drop_length] at hQ
    refine WLoop_unroll (C := Tryz.X34) (wcx_ones Tryz.bok (Cts.nil _)) (wcx_ok Tryz.bok (Cts.nil _)) ?_
    rw [v34l]
    exact cIf_neg (decide_eq_false (by omega)) hQ
  | succ d ih =>
    intro i hd hi hQ
    have h1 : i < x.length := by omega
    have h2 : i < y.length := by omega
    obtain ⟨a, ha, hda⟩ := drop_cons h1
    obtain ⟨b, hb, hdb⟩ := drop_cons h2
    rw [hda, hdb] at hQ
    have ga : gN x i = a := by simp [gN, List.getD_eq_getElem?_getD, ha]
    have gb : gN y i = b := by simp [gN, List.getD_eq_getElem?_getD, hb]
    refine WLoop_unroll (C := Tryz.X34) (wcx_ones Tryz.bok (Cts.nil _)) (wcx_ok Tryz.bok (Cts.nil _)) ?_
    rw [v34l, wA1 (a := i) (by omega), encD_dc h1, encD_dc h2, ga, gb]
    refine cIf_pos (decide_eq_true (by omega)) (cIf_pos (row_nn _) (cIf_pos (row_in h1) (cIf_pos (decide_eq_true (by rw [encD_len]; omega)) (cIf_pos (encD_dlen h1) (cIf_pos (encD_dl h1) (cIf_pos (row_nn _) (cIf_pos (row_in h2) (cIf_pos (decide_eq_true (by rw [encD_len]; omega)) (cIf_pos (encD_dlen h2) (cIf_pos (encD_dl h2) ?_))))))))))
    refine cIf_intro (fun h => ?_) (fun h => ?_)
    · have : (a :: x.drop (i + 1) == b :: y.drop (i + 1)) = false := by
        have hn : a ≠ b := fun e => by subst e; simp at h
        simp [hn]
      rw [this] at hQ
      exact hQ
    · have hn : a = b := by have h' : (a : Int) = b := (by simpa using h); omega
      refine ih (i + 1) (by omega) (by omega) ?_
      subst hn
      simpa using hQ
theorem ct34 : Ct Tryz.B.c0 34 R34 := Ct.of_wp (l := []) (lm := lm34) Tryz.bok (Cts.nil _) ⟨_, _, Tryz.func34, rfl⟩ fun args D r hR hD => by
  unfold R34 at hR
  split at hR <;> cases hR
  rename_i _ _ ta _ _ tb
  obtain ⟨⟨x, rfl, rfl, hx⟩, y, rfl, rfl, hy⟩ := hD
  refine ⟨by simp [noHL, noH, encD_noH], ?_⟩
  rw [show scrubL 0 [AV.vs (encD x) x.length ta, AV.vs (encD y) y.length tb] = [AV.vs (encD x) x.length (ta.scrub 0), AV.vs (encD y) y.length (tb.scrub 0)] by simp [scrubL, scrub, encD_sc], onEnc_eq encD_inj, onEnc_eq encD_inj]
  show wpF Tryz.X34 34 _ _
  rw [v34]
  refine cIf_intro (fun h => ?_) (fun h => ?_)
  · have hn : x ≠ y := fun e => by subst e; simp at h
    rw [show (x == y) = false by simpa using hn]
  · have hn : x.length = y.length := by have h' : (x.length : Int) = y.length := (by simpa using h); omega
    exact same_loop _ _ hn hx x.length 0 (by omega) (by omega) rfl
/-! The rules that fire. -/
theorem fires_len (rs : List Rul) (p q : Prf) : (firesL rs p q).length ≤ rs.length := by
  unfold firesL
  exact Nat.le_trans (List.length_filter_le _ _) (by simp)
theorem range_drop {n i : Nat} (h : i < n) : (List.range n).drop i = i :: (List.range n).drop (i + 1) := by
  obtain ⟨a, ha, hd⟩ := drop_cons (l := List.range n) (i := i) (by simpa using h)
  rw [List.getElem?_range h] at ha
  rw [hd, ← Option.some.inj ha]
theorem pubF (C : Cx) (hs : List (Option HB)) (acc : List Nat) (n k : Nat) (Q : CR → Prop) (hQ : Q (.ret (.tup [.vs (encD acc) n .none, I 0]))) : optW (pub C hs 0 (.tup [.vs (encD acc) n (.own k), I 0])) (fun r' => Q (.ret (scrub 0 r'))) := by
  refine optW_some (v := .tup [.vs (encD acc) n (.own k), I 0]) ?_ ?_
  · simp [pub, pubL, noH, encD_noH]
  · show Q (.ret (.tup [.vs (scrubL 0 (encD acc)) n .none, I 0]))
    rw [encD_sc]
    exact hQ
theorem encD_app (l : List Nat) (i : Nat) : encD l ++ [I (i : Int)] = encD (l ++ [i]) := by simp [encD]
theorem tk_app {α : Type} {T : List α} {k : Nat} {x : α} (y z : α) (h : T[k]? = some x) : (T ++ [y])[k]? = some x ∧ ((T ++ [y]).set k z)[k]? = some z := by
  have hk := (List.getElem?_eq_some_iff.1 h).1
  refine ⟨by rw [List.getElem?_append_left hk]; exact h, ?_⟩
  rw [List.getElem?_set_self (by simp; omega)]
theorem hoE (t : Tst) (p q : Prf) : onEnc encT (fun t => onEnc encP (fun a => onEnc encP (fun b => hoT t a b) false (encP q)) false (encP p)) false (encT t) = hoT t p q := by
  rw [onEnc_eq (fun _ _ => encT_inj _ _), onEnc_eq encP_inj, onEnc_eq encP_inj]
theorem tkZ_cons (a : Nat) (l : List Nat) : tkZ (a :: l) = .none := rfl
theorem c31 : Cts Tryz.B [(77, R77), (80, R80)] := ((Cts.nil _).cons ct80).cons ct77
section
variable {rs : List Rul} (hrs : okRs rs) (hsh : ∀ x ∈ rs, shT x.t = true) {p q : Prf} {Q : CR → Prop}
theorem blk31 (rl : List AV) (hrl : noHL 3 rl = true) (p q : Prf) : [some (HB.cells rl 25), some (HB.cells (encP p) 40), some (HB.cells (encP q) 40)].all (okBlk 3) = true := by
  simp [okBlk, noHB, noHL, noH, hrl, noH_encP]
theorem env31 (cs : List AV) (n : Nat) (tk : Tok) (i : Int) (hcs : noHL 3 cs = true) : noHL 3 ([X, X, X, X, .ptr 1 0, .ptr 2 0, X, X, X, .vs cs n tk, X, X, X, X, X, X, X, X, X, X, .vs (encRs rs) rs.length .none, I rs.length, I i] ++ List.replicate 15 X) = true := by
  refine noHL_app ?_ (noHL_rep 3 15)
  simp [noHL, noH, hcs, noH_encRs]
include hrs hsh
theorem f31o {rl : List AV} (hrl : noHL 3 rl = true) : ∀ (d i : Nat) (acc : List Nat) (k : Nat) (T : List (Nat × (Nat × Nat))), rs.length - i = d → i ≤ rs.length → acc.length ≤ i → T[k]? = some (acc.length, 1, 3) → Q (.ret (.tup [.vs (encD (acc ++ ((List.range rs.length).drop i).filter (thR rs p q))) (acc ++ ((List.range rs.length).drop i).filter (thR rs p q)).length .none, I 0])) →
    WLoop Tryz.X31 (cd PP 31 [1, 1, 1, 0, 1, 0, 0]) ([X, X, X, X, .ptr 1 0, .ptr 2 0, X, X, X, .vs (encD acc) acc.length (.own k), X, X, X, X, X, X, X, X, X, X, .vs (encRs rs) rs.length .none, I rs.length, I i] ++ List.replicate 15 X) ⟨[some (.cells rl 25), some (.cells (encP p) 40), some (.cells (encP q) 40)], T, []⟩ (kBlock 0 (kSeq Tryz.X31 (cd PP 31 [1, 1, 1, 1]) (kRet Tryz.X31 31 Q))) := by
  have hn := hrs.2.1
  intro d
  induction d with
  | zero =>
    intro i acc k T hd hi ha hT hQ
    have hi' : i = rs.length := by omega
    subst hi'
    rw [List.drop_of_length_le (by simp), List.filter_nil, List.append_nil] at hQ
    refine WLoop_unroll (C := Tryz.X31) (wcx_ones Tryz.bok c31) (wcx_ok Tryz.bok c31) ?_
    rw [v31o]
    refine cIf_neg (decide_eq_false (by omega)) ?_
    exact pubF _ _ acc acc.length k Q hQ
  | succ d ih =>
    intro i acc k T hd hi ha hT hQ
    have hlt : i < rs.length := by omega
    obtain ⟨x, hx⟩ : ∃ x, rs[i]? = some x := ⟨_, List.getElem?_eq_getElem hlt⟩
    have hxm := List.mem_of_getElem? hx
    have hth : thR rs p q i = hoT x.t p q := by simp only [thR, hx]
    rw [range_drop hlt] at hQ
    obtain ⟨t1, t2⟩ := tk_app (1, 1, 3) (acc.length + 1, 1, 3) hT
    refine WLoop_unroll (C := Tryz.X31) (wcx_ones Tryz.bok c31) (wcx_ok Tryz.bok c31) ?_
    rw [v31o, Int.toNat_natCast i, encRs_el hx, elT3_enc, wA1 (a := i) (by omega), hoE, encD_app]
    refine cIf_pos (decide_eq_true (by omega)) (cIf_pos (row_nn _) (cIf_pos (decide_eq_true hlt) (cIf_pos (decide_eq_true (encRs_len rs).symm) (cIf_pos (decide_eq_true (enc_drop_len (encRs_len rs) hlt)) (cIf_pos (encR_like x) ⟨⟨⟨x.t, rfl, (hrs.1.2 x hxm).1, hsh x hxm⟩, ⟨p, rfl⟩, q, rfl⟩, ?_⟩)))))
    refine cIf_intro (fun h => ?_) (fun h => ?_)
    · rw [List.filter_cons_of_pos (by rw [hth]; exact h), List.append_cons] at hQ
      refine cIf_pos (decide_eq_true (by omega)) (cIf_pos (decide_eq_true (by omega)) (cIf_pos (decide_eq_true (by rw [encD_len]; omega)) (cIf_pos (decide_eq_true t1) (cIf_pos (env31 _ _ _ _ (encD_noH _ _)) (cIf_pos (blk31 rl hrl p q) ?_)))))
      have := ih (i + 1) (acc ++ [i]) k ((T ++ [(1, 1, 3)]).set k (acc.length + 1, 1, 3)) (by omega) (by omega) (by simp; omega) (by rw [t2, List.length_append]; rfl) hQ
      rw [List.length_append] at this
      exact this
    · rw [List.filter_cons_of_neg (by rw [hth, h]; simp)] at hQ
      exact cIf_pos (env31 _ _ _ _ (encD_noH _ _)) (cIf_pos (blk31 rl hrl p q) (ih (i + 1) acc k T (by omega) (by omega) (by omega) hT hQ))
theorem f31z {rl : List AV} (hrl : noHL 3 rl = true) : ∀ (d i : Nat), rs.length - i = d → i ≤ rs.length → Q (.ret (.tup [.vs (encD (((List.range rs.length).drop i).filter (thR rs p q))) (((List.range rs.length).drop i).filter (thR rs p q)).length (tkZ (((List.range rs.length).drop i).filter (thR rs p q))), I 0])) →
    WLoop Tryz.X31 (cd PP 31 [1, 1, 1, 0, 1, 0, 0]) ([X, X, X, X, .ptr 1 0, .ptr 2 0, X, X, X, .vs [] 0 .zero, X, X, X, X, X, X, X, X, X, X, .vs (encRs rs) rs.length .none, I rs.length, I i] ++ List.replicate 15 X) ⟨[some (.cells rl 25), some (.cells (encP p) 40), some (.cells (encP q) 40)], [], []⟩ (kBlock 0 (kSeq Tryz.X31 (cd PP 31 [1, 1, 1, 1]) (kRet Tryz.X31 31 Q))) := by
  have hn := hrs.2.1
  intro d
  induction d with
  | zero =>
    intro i hd hi hQ
    have hi' : i = rs.length := by omega
    subst hi'
    rw [List.drop_of_length_le (by simp), List.filter_nil] at hQ
    refine WLoop_unroll (C := Tryz.X31) (wcx_ones Tryz.bok c31) (wcx_ok Tryz.bok c31) ?_
    rw [v31z]
    exact cIf_neg (decide_eq_false (by omega)) hQ
  | succ d ih =>
    intro i hd hi hQ
    have hlt : i < rs.length := by omega
    obtain ⟨x, hx⟩ : ∃ x, rs[i]? = some x := ⟨_, List.getElem?_eq_getElem hlt⟩
    have hxm := List.mem_of_getElem? hx
    have hth : thR rs p q i = hoT x.t p q := by simp only [thR, hx]
    rw [range_drop hlt] at hQ
    refine WLoop_unroll (C := Tryz.X31) (wcx_ones Tryz.bok c31) (wcx_ok Tryz.bok c31) ?_
    rw [v31z, Int.toNat_natCast i, encRs_el hx, elT3_enc, wA1 (a := i) (by omega), hoE]
    refine cIf_pos (decide_eq_true (by omega)) (cIf_pos (row_nn _) (cIf_pos (decide_eq_true hlt) (cIf_pos (decide_eq_true (encRs_len rs).symm) (cIf_pos (decide_eq_true (enc_drop_len (encRs_len rs) hlt)) (cIf_pos (encR_like x) ⟨⟨⟨x.t, rfl, (hrs.1.2 x hxm).1, hsh x hxm⟩, ⟨p, rfl⟩, q, rfl⟩, ?_⟩)))))
    refine cIf_intro (fun h => ?_) (fun h => ?_)
    · rw [List.filter_cons_of_pos (by rw [hth]; exact h), tkZ_cons] at hQ
      refine cIf_pos (env31 _ _ _ _ rfl) (cIf_pos (blk31 rl hrl p q) ?_)
      exact f31o hrs hsh hrl d (i + 1) [i] 1 [(1, 1, 3), (1, 1, 3)] (by omega) (by omega) (by simp) rfl hQ
    · rw [List.filter_cons_of_neg (by rw [hth, h]; simp)] at hQ
      exact cIf_pos (env31 _ _ _ _ rfl) (cIf_pos (blk31 rl hrl p q) (ih (i + 1) (by omega) (by omega) hQ))
end
theorem fiD_eq (rs : List Rul) (p q : Prf) : fiD (encRs rs) (encP p) (encP q) = if bothE rs p q = 0 then (firesL rs p q, 0) else ([], bothE rs p q) := by
  unfold fiD on3
  rw [onEnc_eq encRs_inj, onEnc_eq encP_inj, onEnc_eq encP_inj]
theorem bothO (rs : List Rul) (p q : Prf) : onEnc encRs (fun rs => onEnc encP (fun p => onEnc encP (fun q => bothE rs p q) 0 (encP q)) 0 (encP p)) 0 (encRs rs) = bothE rs p q := by
  rw [onEnc_eq encRs_inj, onEnc_eq encP_inj, onEnc_eq encP_inj]
theorem ct31 : Ct Tryz.B.c0 31 RFi := Ct.of_wp (l := [(77, R77), (80, R80)]) (lm := lm31) (tp := []) (ct := []) (sm := [(6, 3)]) Tryz.bok c31 ⟨_, _, Tryz.func31, rfl⟩ fun args D r hR hD => by
  unfold RFi at hR
  split at hR <;> cases hR
  obtain ⟨⟨rs, rfl, rfl, hw⟩, ⟨p, rfl⟩, q, rfl⟩ := hD
  refine ⟨by simp [noHL, noH, noH_encRs, noH_encP], ?_⟩
  rw [show scrubL 0 [AV.agg [.vs (encRs rs) rs.length .none], .agg (encP p), .agg (encP q)] = [AV.agg [.vs (encRs rs) rs.length .none], .agg (encP p), .agg (encP q)] by simp [scrubL, scrub, sc_encRs, Tok.scrub, sc_encP], fiD_eq]
  show wpF Tryz.X31 31 _ _
  rw [v31, bothO]
  refine ⟨⟨⟨rs, rfl, rfl, hw⟩, ⟨p, rfl⟩, q, rfl⟩, cIf_intro (fun h => ?_) (fun h => ?_)⟩
  · have h : ¬ bothE rs p q = 0 := by simpa using h
    rw [if_neg h]; rfl
  · have h : bothE rs p q = 0 := by simpa using h
    obtain ⟨h1, h2, _⟩ := chk_ok hw (both_chk h)
    rw [if_pos h]
    have hrl : noHL 3 [AV.vs (encRs rs) rs.length .none] = true := by simp [noHL, noH, noH_encRs]
    exact cIf_pos (env31 _ _ _ _ rfl) (cIf_pos (blk31 _ hrl p q) (f31z h1 h2 hrl rs.length 0 (by omega) (by omega) rfl))
theorem c32 : Cts Tryz.B [(70, R70), (81, R81), (82, R82)] := (((Cts.nil _).cons ct82).cons ct81).cons ct70
section
variable {rs : List Rul} (hrs : okRs rs) {p q : Prf} {Q : CR → Prop}
theorem len32 {i : Nat} (h : i < rs.length) : 5 ≤ (List.drop 3 (List.drop (i * 8) (encRs rs))).length := by
  have := enc_drop_len (encRs_len rs) h
  rw [List.length_drop]
  omega
theorem a32 (x : Rul) (p q : Prf) (n : Nat) : noHL n ([] ++ [AV.agg (encT x.t), .agg (encP p), .agg (encP q)] ++ []) = true := by simp [noHL, noH, noH_encT, noH_encP]
include hrs
theorem f32o : ∀ (d i : Nat) (acc : List Nat) (k : Nat) (T : List (Nat × (Nat × Nat))), rs.length - i = d → i ≤ rs.length → acc.length ≤ i → T[k]? = some (acc.length, 1, 3) → Q (.ret (.tup [.vs (encD (acc ++ ((List.range rs.length).drop i).filter (thR rs p q))) (acc ++ ((List.range rs.length).drop i).filter (thR rs p q)).length .none, I 0])) →
    WLoop Tryz.X32 (cd PP 32 [1, 1, 1, 1, 1, 1, 1, 0, 1, 0, 0]) ([X, X, X, .ptr 0 0, .ptr 1 0, .ptr 2 0, X, X, X, X, X, .vs (encD acc) acc.length (.own k), I i] ++ List.replicate 38 X) ⟨[some (.cells [.vs (encRs rs) rs.length .none] 25), some (.cells (encP p) 40), some (.cells (encP q) 40)], T, []⟩ (kBlock 0 (kSeq Tryz.X32 (cd PP 32 [1, 1, 1, 1, 1, 1, 1, 1]) (kRet Tryz.X32 32 Q))) := by
  have hn := hrs.2.1
  intro d
  induction d with
  | zero =>
    intro i acc k T hd hi ha hT hQ
    have hi' : i = rs.length := by omega
    subst hi'
    rw [List.drop_of_length_le (by simp), List.filter_nil, List.append_nil] at hQ
    refine WLoop_unroll (C := Tryz.X32) (wcx_ones Tryz.bok c32) (wcx_ok Tryz.bok c32) ?_
    rw [v32o]
    refine cIf_neg (decide_eq_false (by omega)) ?_
    exact pubF _ _ acc acc.length k Q hQ
  | succ d ih =>
    intro i acc k T hd hi ha hT hQ
    have hlt : i < rs.length := by omega
    obtain ⟨x, hx⟩ : ∃ x, rs[i]? = some x := ⟨_, List.getElem?_eq_getElem hlt⟩
    have hxm := List.mem_of_getElem? hx
    have hth : thR rs p q i = hoT x.t p q := by simp only [thR, hx]
    rw [range_drop hlt] at hQ
    obtain ⟨t1, t2⟩ := tk_app (1, 1, 3) (acc.length + 1, 1, 3) hT
    refine WLoop_unroll (C := Tryz.X32) (wcx_ones Tryz.bok c32) (wcx_ok Tryz.bok c32) ?_
    rw [v32o, Int.toNat_natCast i, encRs_elT hx, encT_w, wA1 (a := i) (by omega), hoE, encD_app]
    refine cIf_pos (decide_eq_true (by omega)) (cIf_pos (row_nn _) (cIf_pos (decide_eq_true hlt) (cIf_pos (decide_eq_true (encRs_len rs).symm) (cIf_pos (decide_eq_true (len32 hlt)) (cIf_pos (encT_like x.t) (cIf_pos (a32 x p q _) ⟨⟨⟨x.t, rfl, (hrs.1.2 x hxm).1⟩, ⟨p, rfl⟩, q, rfl⟩, rfl, ?_⟩))))))
    refine cIf_intro (fun h => ?_) (fun h => ?_)
    · rw [List.filter_cons_of_pos (by rw [hth]; exact h), List.append_cons] at hQ
      refine cIf_pos (decide_eq_true (by omega)) (cIf_pos (decide_eq_true (by omega)) (cIf_pos (decide_eq_true (by rw [encD_len]; omega)) (cIf_pos (decide_eq_true t1) ?_)))
      have := ih (i + 1) (acc ++ [i]) k ((T ++ [(1, 1, 3)]).set k (acc.length + 1, 1, 3)) (by omega) (by omega) (by simp; omega) (by rw [t2, List.length_append]; rfl) hQ
      rw [List.length_append] at this
      exact this
    · rw [List.filter_cons_of_neg (by rw [hth, h]; simp)] at hQ
      exact ih (i + 1) acc k T (by omega) (by omega) (by omega) hT hQ
theorem f32z : ∀ (d i : Nat), rs.length - i = d → i ≤ rs.length → Q (.ret (.tup [.vs (encD (((List.range rs.length).drop i).filter (thR rs p q))) (((List.range rs.length).drop i).filter (thR rs p q)).length (tkZ (((List.range rs.length).drop i).filter (thR rs p q))), I 0])) →
    WLoop Tryz.X32 (cd PP 32 [1, 1, 1, 1, 1, 1, 1, 0, 1, 0, 0]) ([X, X, X, .ptr 0 0, .ptr 1 0, .ptr 2 0, X, X, X, X, X, .vs [] 0 .zero, I i] ++ List.replicate 38 X) ⟨[some (.cells [.vs (encRs rs) rs.length .none] 25), some (.cells (encP p) 40), some (.cells (encP q) 40)], [], []⟩ (kBlock 0 (kSeq Tryz.X32 (cd PP 32 [1, 1, 1, 1, 1, 1, 1, 1]) (kRet Tryz.X32 32 Q))) := by
  have hn := hrs.2.1
  intro d
  induction d with
  | zero =>
    intro i hd hi hQ
    have hi' : i = rs.length := by omega
    subst hi'
    rw [List.drop_of_length_le (by simp), List.filter_nil] at hQ
    refine WLoop_unroll (C := Tryz.X32) (wcx_ones Tryz.bok c32) (wcx_ok Tryz.bok c32) ?_
    rw [v32z]
    exact cIf_neg (decide_eq_false (by omega)) hQ
  | succ d ih =>
    intro i hd hi hQ
    have hlt : i < rs.length := by omega
    obtain ⟨x, hx⟩ : ∃ x, rs[i]? = some x := ⟨_, List.getElem?_eq_getElem hlt⟩
    have hxm := List.mem_of_getElem? hx
    have hth : thR rs p q i = hoT x.t p q := by simp only [thR, hx]
    rw [range_drop hlt] at hQ
    refine WLoop_unroll (C := Tryz.X32) (wcx_ones Tryz.bok c32) (wcx_ok Tryz.bok c32) ?_
    rw [v32z, Int.toNat_natCast i, encRs_elT hx, encT_w, wA1 (a := i) (by omega), hoE]
    refine cIf_pos (decide_eq_true (by omega)) (cIf_pos (row_nn _) (cIf_pos (decide_eq_true hlt) (cIf_pos (decide_eq_true (encRs_len rs).symm) (cIf_pos (decide_eq_true (len32 hlt)) (cIf_pos (encT_like x.t) (cIf_pos (a32 x p q _) ⟨⟨⟨x.t, rfl, (hrs.1.2 x hxm).1⟩, ⟨p, rfl⟩, q, rfl⟩, rfl, ?_⟩))))))
    refine cIf_intro (fun h => ?_) (fun h => ?_)
    · rw [List.filter_cons_of_pos (by rw [hth]; exact h), tkZ_cons] at hQ
      exact f32o hrs d (i + 1) [i] 1 [(1, 1, 3), (1, 1, 3)] (by omega) (by omega) (by simp) rfl hQ
    · rw [List.filter_cons_of_neg (by rw [hth, h]; simp)] at hQ
      exact ih (i + 1) (by omega) (by omega) hQ
end
theorem bothE_p {rs : List Rul} {p q : Prf} (h : chk rs = 0) (h1 : okP p.cl p.vi p.cr p.le = false) : bothE rs p q = 1 := by
  unfold bothE pOk
  rw [if_pos h, h1]
  cases okP q.cl q.vi q.cr q.le <;> rfl
theorem bothE_q {rs : List Rul} {p q : Prf} (h : chk rs = 0) (h1 : okP p.cl p.vi p.cr p.le = true) (h2 : okP q.cl q.vi q.cr q.le = false) : bothE rs p q = 1 := by
  unfold bothE pOk
  rw [if_pos h, h1, h2]
  rfl
theorem bothE_0 {rs : List Rul} {p q : Prf} (h : chk rs = 0) (h1 : okP p.cl p.vi p.cr p.le = true) (h2 : okP q.cl q.vi q.cr q.le = true) : bothE rs p q = 0 := by
  unfold bothE pOk
  rw [if_pos h, h1, h2]
  rfl
theorem bothE_c {rs : List Rul} {p q : Prf} (h : ¬ chk rs = 0) : bothE rs p q = chk rs := by
  unfold bothE
  rw [if_neg h]
theorem ct32 : Ct Tryz.B.c0 32 RFi := Ct.of_wp (l := [(70, R70), (81, R81), (82, R82)]) (lm := lm32) (tp := []) (ct := []) (sm := []) Tryz.bok c32 ⟨_, _, Tryz.func32, rfl⟩ fun args D r hR hD => by
  unfold RFi at hR
  split at hR <;> cases hR
  obtain ⟨⟨rs, rfl, rfl, hw⟩, ⟨p, rfl⟩, q, rfl⟩ := hD
  refine ⟨by simp [noHL, noH, noH_encRs, noH_encP], ?_⟩
  rw [show scrubL 0 [AV.agg [.vs (encRs rs) rs.length .none], .agg (encP p), .agg (encP q)] = [AV.agg [.vs (encRs rs) rs.length .none], .agg (encP p), .agg (encP q)] by simp [scrubL, scrub, sc_encRs, Tok.scrub, sc_encP], fiD_eq]
  show wpF Tryz.X32 32 _ _
  rw [v32, onEnc_eq encRs_inj]
  refine ⟨⟨rs, rfl, rfl, hw⟩, cIf_intro (fun h => ?_) (fun h => ⟨trivial, trivial, cIf_intro (fun h1 => ?_) (fun h1 => cIf_intro (fun h2 => ?_) (fun h2 => ?_))⟩)⟩
  · have h : ¬ chk rs = 0 := by simpa using h
    rw [bothE_c h, if_neg h]; rfl
  · have h : chk rs = 0 := by simpa using h
    rw [bothE_p h (by simpa using h1)]; rfl
  · have h : chk rs = 0 := by simpa using h
    rw [bothE_q h (by simpa using h1) (by simpa using h2)]; rfl
  · have h : chk rs = 0 := by simpa using h
    rw [bothE_0 h (by simpa using h1) (by simpa using h2), if_pos rfl]
    exact f32z (chk_ok hw h).1 rs.length 0 (by omega) (by omega) rfl
/-! The reference's decision. -/
theorem c83 : Cts Tryz.B [(82, R82)] := (Cts.nil _).cons ct82
abbrev hs83 (rs : List Rul) (p q : Prf) (v w r : Int) : List (Option HB) := [some (.cells [.vs (encRs rs) rs.length .none] 25), some (.cells (encP p) 40), some (.cells (encP q) 40), some (.cells [U 0, I 0, I 0, I 0] 115), some (.cells [U 0, I v, I w, I r] 115)]
def fin83 (x : Int × Int × Int) : CR := .ret (.agg [U (kindV x.1 x.2.1), I x.1, I x.2.1, I x.2.2])
section
variable {rs : List Rul} (hrs : okRs rs) {p q : Prf} {Q : CR → Prop}
theorem hs83_ok (rs : List Rul) (p q : Prf) (v w r : Int) : (hs83 rs p q v w r).all (okBlk 5) = true := by
  simp [okBlk, noHB, noHL, noH, noH_encRs, noH_encP]
theorem hs83_ok6 (rs : List Rul) (p q : Prf) (v w r : Int) (x : Rul) : (hs83 rs p q v w r ++ [some (HB.cells (encR x) 73)]).all (okBlk 6) = true := by
  simp [okBlk, noHB, noHL, noH, noH_encRs, noH_encP, noH_encR]
theorem fin_83 (v w r : Int) (hQ : Q (fin83 (v, w, r))) :
    WCut Tryz.X83 (cd PP 83 [1, 1, 1]) ([X, X, X, X, X, X, .ptr 3 0, .ptr 4 0] ++ List.replicate 85 X) ⟨hs83 rs p q v w r, [], []⟩ (kRet Tryz.X83 83 Q) := by
  refine WCut_of (C := Tryz.X83) (wcx_ones Tryz.bok c83) (wcx_ok Tryz.bok c83) ?_
  rw [v83e]
  unfold fin83 kindV at hQ
  refine cIf_intro (fun h => cIf_intro (fun h2 => ?_) (fun h2 => ?_)) (fun h => cIf_intro (fun h2 => ?_) (fun h2 => ?_))
  · rw [if_pos ⟨of_decide_eq_true h, of_decide_eq_true h2⟩] at hQ; exact hQ
  · have h := of_decide_eq_true h
    have h2 := of_decide_eq_false h2
    rw [if_neg (fun x => h2 x.2), if_pos h] at hQ; exact hQ
  · have h := of_decide_eq_false h
    have h2 := of_decide_eq_true h2
    rw [if_neg (fun x => h x.1), if_neg h, if_pos h2] at hQ; exact hQ
  · have h := of_decide_eq_false h
    have h2 := of_decide_eq_false h2
    rw [if_neg (fun x => h x.1), if_neg h, if_neg h2] at hQ; exact hQ
include hrs
theorem loop83 : ∀ (d i : Nat) (v w r : Int), rs.length - i = d → i ≤ rs.length →
    Q (fin83 (decR (rkR rs) (thR rs p q) (thR rs q p) ((List.range rs.length).drop i) v w r)) →
    WLoop Tryz.X83 (cd PP 83 [1, 1, 0, 1, 0, 0]) ([X, X, X, .ptr 0 0, .ptr 1 0, .ptr 2 0, .ptr 3 0, .ptr 4 0, I i] ++ List.replicate 84 X) ⟨hs83 rs p q v w r, [], []⟩ (kBlock 0 (kSeq Tryz.X83 (cd PP 83 [1, 1, 1]) (kRet Tryz.X83 83 Q))) := by
  have hn := hrs.2.1
  intro d
  induction d with
  | zero =>
    intro i v w r hd hi hQ
    have hi' : i = rs.length := by omega
    subst hi'
    rw [List.drop_of_length_le (by simp)] at hQ
    refine WLoop_unroll (C := Tryz.X83) (wcx_ones Tryz.bok c83) (wcx_ok Tryz.bok c83) ?_
    rw [v83l]
    exact cIf_neg (decide_eq_false (by omega)) (cIf_pos (hs83_ok rs p q v w r) (fin_83 v w r hQ))
  | succ d ih =>
    intro i v w r hd hi hQ
    have hlt : i < rs.length := by omega
    obtain ⟨x, hx⟩ : ∃ x, rs[i]? = some x := ⟨_, List.getElem?_eq_getElem hlt⟩
    have hxm := List.mem_of_getElem? hx
    have hrk : rkR rs i = x.rank := by simp only [rkR, hx]
    have hth : thR rs p q i = hoT x.t p q := by simp only [thR, hx]
    have hbk : thR rs q p i = hoT x.t q p := by simp only [thR, hx]
    have cont : ∀ v' w' r' : Int, Q (fin83 (decR (rkR rs) (thR rs p q) (thR rs q p) ((List.range rs.length).drop (i + 1)) v' w' r')) → _ := fun v' w' r' h => ih (i + 1) v' w' r' (by omega) (by omega) h
    rw [range_drop hlt] at hQ
    simp only [decR] at hQ
    rw [hrk, hth, hbk] at hQ
    have three : ∀ (b : Bool) (v' w' r' : Int), Q (fin83 (decR (rkR rs) (thR rs p q) (thR rs q p) ((List.range rs.length).drop (i + 1)) v' (if (b && decide (w' < 0)) = true then (i : Int) else w') r')) →
        WCut Tryz.X83 (cd PP 83 [1, 1, 0, 1, 0, 0, 1, 0, 0, 1, 1, 1, 1, 1, 1]) ([X, X, X, .ptr 0 0, .ptr 1 0, .ptr 2 0, .ptr 3 0, .ptr 4 0, I i, X, X, Bo b] ++ List.replicate 81 X) ⟨hs83 rs p q v' w' r', [], []⟩ (kBlock 1 (kSeq Tryz.X83 (cd PP 83 [1, 1, 0, 1, 0, 0, 1, 1]) (kLoop Tryz.X83 (cd PP 83 [1, 1, 0, 1, 0, 0]) (kBlock 0 (kSeq Tryz.X83 (cd PP 83 [1, 1, 1]) (kRet Tryz.X83 83 Q)))))) := by
      intro b v' w' r' h
      refine WCut_of (C := Tryz.X83) (wcx_ones Tryz.bok c83) (wcx_ok Tryz.bok c83) ?_
      rw [v83c, wA1 (a := i) (by omega)]
      refine cIf_intro (fun h1 => cIf_intro (fun h2 => ?_) (fun h2 => ?_)) (fun h1 => ?_)
      · rw [if_pos (by rw [h1, h2]; rfl)] at h
        exact cIf_pos (hs83_ok rs p q v' i r') (cont _ _ _ h)
      · rw [if_neg (by rw [h1, h2]; simp)] at h
        exact cIf_pos (hs83_ok rs p q v' w' r') (cont _ _ _ h)
      · rw [if_neg (by rw [h1]; simp)] at h
        exact cIf_pos (hs83_ok rs p q v' w' r') (cont _ _ _ h)
    have two : ∀ (a b : Bool) (v' w' r' : Int), Q (fin83 (decR (rkR rs) (thR rs p q) (thR rs q p) ((List.range rs.length).drop (i + 1)) (if (a && decide (v' < 0)) = true then (i : Int) else v') (if (b && decide (w' < 0)) = true then (i : Int) else w') r')) →
        WCut Tryz.X83 (cd PP 83 [1, 1, 0, 1, 0, 0, 1, 0, 0, 1, 1, 1, 1, 1]) ([X, X, X, .ptr 0 0, .ptr 1 0, .ptr 2 0, .ptr 3 0, .ptr 4 0, I i, X, Bo a, Bo b] ++ List.replicate 81 X) ⟨hs83 rs p q v' w' r', [], []⟩ (kBlock 1 (kSeq Tryz.X83 (cd PP 83 [1, 1, 0, 1, 0, 0, 1, 1]) (kLoop Tryz.X83 (cd PP 83 [1, 1, 0, 1, 0, 0]) (kBlock 0 (kSeq Tryz.X83 (cd PP 83 [1, 1, 1]) (kRet Tryz.X83 83 Q)))))) := by
      intro a b v' w' r' h
      refine WCut_of (C := Tryz.X83) (wcx_ones Tryz.bok c83) (wcx_ok Tryz.bok c83) ?_
      rw [v83b]
      refine cIf_intro (fun h1 => cIf_intro (fun h2 => ?_) (fun h2 => ?_)) (fun h1 => ?_)
      · rw [if_pos (c := (a && decide (v' < 0)) = true) (by rw [h1, h2]; rfl)] at h
        exact cIf_pos (hs83_ok rs p q i w' r') (three b _ _ _ h)
      · rw [if_neg (c := (a && decide (v' < 0)) = true) (by rw [h1, h2]; simp)] at h
        exact cIf_pos (hs83_ok rs p q v' w' r') (three b _ _ _ h)
      · rw [if_neg (c := (a && decide (v' < 0)) = true) (by rw [h1]; simp)] at h
        exact cIf_pos (hs83_ok rs p q v' w' r') (three b _ _ _ h)
    refine WLoop_unroll (C := Tryz.X83) (wcx_ones Tryz.bok c83) (wcx_ok Tryz.bok c83) ?_
    rw [v83l, Int.toNat_natCast i, encRs_el hx, encR_w, elT3_enc, wA1 (a := i) (by omega), hoE, hoE]
    refine cIf_pos (decide_eq_true (by omega)) (cIf_pos (row_nn _) (cIf_pos (decide_eq_true hlt) (cIf_pos (decide_eq_true (encRs_len rs).symm) (cIf_pos (decide_eq_true (enc_drop_len (encRs_len rs) hlt)) (cIf_pos (encR_like x) ?_)))))
    show cIf (decide (x.rank < r)) _ _
    refine cIf_intro (fun hb => ?_) (fun hb => ?_)
    · rw [if_pos (of_decide_eq_true hb)] at hQ
      exact cIf_pos (hs83_ok rs p q v w r) (cont _ _ _ hQ)
    · rw [if_neg (of_decide_eq_false hb)] at hQ
      refine ⟨⟨⟨x.t, rfl, (hrs.1.2 x hxm).1⟩, ⟨p, rfl⟩, q, rfl⟩, ⟨⟨x.t, rfl, (hrs.1.2 x hxm).1⟩, ⟨q, rfl⟩, p, rfl⟩, cIf_pos (hs83_ok6 rs p q v w r x) ?_⟩
      refine WCut_of (C := Tryz.X83) (wcx_ones Tryz.bok c83) (wcx_ok Tryz.bok c83) ?_
      rw [v83a]
      refine cIf_intro (fun h1 => cIf_intro (fun h2 => ?_) (fun h2 => ?_)) (fun h1 => cIf_intro (fun h3 => cIf_intro (fun h2 => ?_) (fun h2 => ?_)) (fun h3 => ?_))
      · rw [if_pos (c := ((hoT x.t p q || hoT x.t q p) && decide (x.rank > r)) = true) (by rw [h1, h2]; rfl)] at hQ
        exact cIf_pos (hs83_ok rs p q (-1) (-1) x.rank) (two _ _ _ _ _ hQ)
      · rw [if_neg (c := ((hoT x.t p q || hoT x.t q p) && decide (x.rank > r)) = true) (by rw [h2]; simp)] at hQ
        exact cIf_pos (hs83_ok rs p q v w r) (two _ _ _ _ _ hQ)
      · rw [if_pos (c := ((hoT x.t p q || hoT x.t q p) && decide (x.rank > r)) = true) (by rw [h3, h2]; simp)] at hQ
        exact cIf_pos (hs83_ok rs p q (-1) (-1) x.rank) (two _ _ _ _ _ hQ)
      · rw [if_neg (c := ((hoT x.t p q || hoT x.t q p) && decide (x.rank > r)) = true) (by rw [h2]; simp)] at hQ
        exact cIf_pos (hs83_ok rs p q v w r) (two _ _ _ _ _ hQ)
      · rw [if_neg (c := ((hoT x.t p q || hoT x.t q p) && decide (x.rank > r)) = true) (by rw [h1, h3]; simp)] at hQ
        exact cIf_pos (hs83_ok rs p q v w r) (two _ _ _ _ _ hQ)
end
theorem dvR_eq (rs : List Rul) (p q : Prf) : dvR (encRs rs) (encP p) (encP q) = decR (rkR rs) (thR rs p q) (thR rs q p) (List.range rs.length) (-1) (-1) 0 := by
  unfold dvR on3
  rw [onEnc_eq encRs_inj, onEnc_eq encP_inj, onEnc_eq encP_inj]
theorem dvS_eq (rs : List Rul) (p q : Prf) : dvS (encRs rs) (encP p) (encP q) = deR rs p q := by
  unfold dvS on3
  rw [onEnc_eq encRs_inj, onEnc_eq encP_inj, onEnc_eq encP_inj]
theorem ct83 : Ct Tryz.B.c0 83 R83 := Ct.of_wp (l := [(82, R82)]) (lm := lm83) (tp := []) (ct := [9, 11, 13, 15]) (sm := [(3, 5), (9, 6), (11, 5), (13, 5), (15, 5)]) Tryz.bok c83 ⟨_, _, Tryz.func83, rfl⟩ fun args D r hR hD => by
  unfold R83 at hR
  split at hR <;> cases hR
  obtain ⟨⟨rs, rfl, rfl, hrs⟩, ⟨p, rfl⟩, q, rfl⟩ := hD
  refine ⟨by simp [noHL, noH, noH_encRs, noH_encP], ?_⟩
  rw [show scrubL 0 [AV.agg [.vs (encRs rs) rs.length .none], .agg (encP p), .agg (encP q)] = [AV.agg [.vs (encRs rs) rs.length .none], .agg (encP p), .agg (encP q)] by simp [scrubL, scrub, sc_encRs, Tok.scrub, sc_encP], dvR_eq]
  show wpF Tryz.X83 83 _ _
  rw [v83]
  exact cIf_pos (hs83_ok rs p q (-1) (-1) 0) (loop83 hrs rs.length 0 (-1) (-1) 0 (by omega) (by omega) rfl)
theorem c33 : Cts Tryz.B [(70, R70), (81, R81), (83, R83)] := (((Cts.nil _).cons ct83).cons ct81).cons ct70
theorem ct33 : Ct Tryz.B.c0 33 R33 := Ct.of_wp (l := [(70, R70), (81, R81), (83, R83)]) (lm := []) (tp := []) (ct := []) (sm := []) Tryz.bok c33 ⟨_, _, Tryz.func33, rfl⟩ fun args D r hR hD => by
  unfold R33 at hR
  split at hR <;> cases hR
  obtain ⟨⟨rs, rfl, rfl, hw⟩, ⟨p, rfl⟩, q, rfl⟩ := hD
  refine ⟨by simp [noHL, noH, noH_encRs, noH_encP], ?_⟩
  rw [show scrubL 0 [AV.agg [.vs (encRs rs) rs.length .none], .agg (encP p), .agg (encP q)] = [AV.agg [.vs (encRs rs) rs.length .none], .agg (encP p), .agg (encP q)] by simp [scrubL, scrub, sc_encRs, Tok.scrub, sc_encP], dvS_eq]
  show wpF Tryz.X33 33 _ _
  rw [v33, onEnc_eq encRs_inj, dvR_eq]
  unfold deR
  refine ⟨⟨rs, rfl, rfl, hw⟩, cIf_intro (fun h => ?_) (fun h => ⟨trivial, trivial, cIf_intro (fun h1 => ?_) (fun h1 => cIf_intro (fun h2 => ?_) (fun h2 => ?_))⟩)⟩
  · have h : ¬ chk rs = 0 := by simpa using h
    rw [bothE_c h, if_neg h]
  · have h : chk rs = 0 := by simpa using h
    rw [bothE_p h (by simpa using h1)]; rfl
  · have h : chk rs = 0 := by simpa using h
    rw [bothE_q h (by simpa using h1) (by simpa using h2)]; rfl
  · have h : chk rs = 0 := by simpa using h
    rw [bothE_0 h (by simpa using h1) (by simpa using h2), if_pos rfl]
    exact ⟨⟨⟨rs, rfl, rfl, (chk_ok hw h).1⟩, ⟨p, rfl⟩, q, rfl⟩, rfl⟩
end Go.Proofs
/-! C23 -/
set_option maxRecDepth 100000
set_option linter.unusedVariables false
namespace Go.Proofs
open Go Go.Ev
theorem rankL_sorted (rs : List Rul) : (rankL rs).Pairwise (fun j i => rkR rs i < rkR rs j ∨ rkR rs j = rkR rs i ∧ j < i) := by
  have h : SO (fun j i => rkR rs i < rkR rs j ∨ rkR rs j = rkR rs i ∧ j < i) (rankL rs) 0 rs.length :=
    stab_sorted (ltR rs) (fun j i => rkR rs i < rkR rs j ∨ rkR rs j = rkR rs i ∧ j < i) (fun h1 h2 => by omega) (fun h1 h2 => by omega)
      (fun {u v} h => ⟨fun h1 => by simp only [ltR, decide_eq_true_eq] at h1; omega, fun h1 => by simp only [ltR, decide_eq_false_iff_not] at h1; omega⟩)
      (by simp) (fun x hx => range_get hx)
  rw [List.pairwise_iff_getElem]
  intro i j hi hj hij
  have := h i j (Nat.zero_le _) hij (by rw [rankL_len] at hj; exact hj)
  simpa [gN, List.getD_eq_getElem?_getD, hi, hj] using this
theorem dec_same {rs : List Rul} (hrs : okRs rs) (p q : Prf) : decV rs p q = ((decR (rkR rs) (thR rs p q) (thR rs q p) (List.range rs.length) (-1) (-1) 0).1, (decR (rkR rs) (thR rs p q) (thR rs q p) (List.range rs.length) (-1) (-1) 0).2.1) :=
  dec_eq (rkR rs) (thR rs p q) (thR rs q p) (fun i => by
    unfold rkR
    cases hx : rs[i]? with
    | none => decide
    | some x => have := (hrs.2.2 x (List.mem_of_getElem? hx)).1; show 0 < x.rank; omega) (rankL_perm rs) (rankL_sorted rs)
theorem verd_same {rs : List Rul} (hw : wfRs rs) (p q : Prf) : verdE rs p q = deR rs p q := by
  unfold verdE deR
  by_cases h : bothE rs p q = 0
  · rw [if_pos h, if_pos h, dec_same (chk_ok hw (both_chk h)).1 p q]
  · rw [if_neg h, if_neg h]
theorem fiD_len {rs : List Rul} (hw : wfRs rs) (p q : Prf) : (fiD (encRs rs) (encP p) (encP q)).1.length ≤ 1000 := by
  rw [fiD_eq]
  by_cases h : bothE rs p q = 0
  · rw [if_pos h]
    have h1 := (chk_ok hw (both_chk h)).1.2.1
    have h2 := fires_len rs p q
    show (firesL rs p q).length ≤ 1000
    omega
  · rw [if_neg h]
    show ([] : List Nat).length ≤ 1000
    decide
theorem c8 : Cts Tryz.B l8 := (((((((Cts.nil _).cons ct34).cons ct33).cons ct32).cons ct31).cons ct28).cons ct24).cons ct20
theorem w8 (rs : List Rul) (hw : wfRs rs) (p q : Prf) : wpF Tryz.X8 8 [.agg [.vs (encRs rs) rs.length .none], .agg (encP p), .agg (encP q)] fun r' => r' = rB true := by
  have hl : lawD (encRs rs) rs.length (encP p) (encP q) := ⟨⟨rs, rfl, rfl, hw⟩, ⟨p, rfl⟩, q, rfl⟩
  have hn := fiD_len hw p q
  rw [v8, dvD_eq, dvS_eq, verd_same hw]
  refine ⟨⟨rs, rfl, rfl, hw, by omega, by omega⟩, cIf_intro (fun h => ⟨trivial, rfl⟩) (fun h => ⟨hl, hl, ⟨⟨rs, rfl, rfl, hw⟩, ⟨p, rfl⟩, q, rfl⟩, hl, trivial, ?_⟩)⟩
  refine cIf_pos (by simp) ⟨⟨⟨_, rfl, rfl, hn⟩, _, rfl, rfl, hn⟩, ?_⟩
  rw [onEnc_eq encD_inj, onEnc_eq encD_inj]
  refine cIf_pos (by simp) (cIf_pos (by simp) ?_)
  rw [show ((deR rs p q).2.2.2 == (deR rs p q).2.2.2) = true by simp]
theorem ct8 : Ct Tryz.B.c0 8 R8 := Ct.of_wp (l := l8) (lm := []) (tp := []) (ct := []) (sm := []) Tryz.bok c8 ⟨_, _, Tryz.func8, rfl⟩ fun args D r hR hD => by
  unfold R8 at hR
  split at hR <;> cases hR
  obtain ⟨⟨rs, rfl, rfl, hw⟩, ⟨p, rfl⟩, q, rfl⟩ := hD
  refine ⟨by simp [noHL, noH, noH_encRs, noH_encP], ?_⟩
  rw [show scrubL 0 [AV.agg [.vs (encRs rs) rs.length .none], .agg (encP p), .agg (encP q)] = [AV.agg [.vs (encRs rs) rs.length .none], .agg (encP p), .agg (encP q)] by simp [scrubL, scrub, sc_encRs, Tok.scrub, sc_encP]]
  exact w8 rs hw p q
end Go.Proofs
