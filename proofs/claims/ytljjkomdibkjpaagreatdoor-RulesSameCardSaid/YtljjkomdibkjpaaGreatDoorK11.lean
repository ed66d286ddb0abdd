/- Contracts of functions of the program and of the reference. -/
import Derived.Test.YtljjkomdibkjpaaGreatDoorK10
set_option linter.unusedVariables false
set_option linter.unusedSimpArgs false
/-! VC22 -/
set_option maxRecDepth 100000
set_option linter.unusedVariables false
namespace Go.Proofs
open Go Go.Ev
noncomputable def dvR (l a b : List AV) : Int × Int × Int := on3 l a b (0, 0, 0) fun rs p q => decR (rkR rs) (thR rs p q) (thR rs q p) (List.range rs.length) (-1) (-1) 0
noncomputable def R83 : Spc := fun args => match args with
  | [.agg [.vs l len .none], .agg a, .agg b] => some ((∃ rs, l = encRs rs ∧ len = rs.length ∧ okRs rs) ∧ (∃ p, a = encP p) ∧ ∃ q, b = encP q, .ret (.agg [U (kindV (dvR l a b).1 (dvR l a b).2.1), I (dvR l a b).1, I (dvR l a b).2.1, I (dvR l a b).2.2]))
  | _ => none
def lm83 : List (Nat × List Nat) := [(3, [3, 4, 5, 6, 7, 8]), (9, [3, 4, 5, 6, 7, 8, 9, 10, 11]), (11, [3, 4, 5, 6, 7, 8, 10, 11]), (13, [3, 4, 5, 6, 7, 8, 11]), (15, [6, 7])]
noncomputable def Tryz.X83 : WCx := Tryz.B.wcx [(82, R82)] lm83 [] [9, 11, 13, 15] [(3, 5), (9, 6), (11, 5), (13, 5), (15, 5)]
theorem v83 (l : List AV) (len : Nat) (p q : Prf) (Q : CR → Prop) : wpF Tryz.X83 83 [.agg [.vs l len .none], .agg (encP p), .agg (encP q)] Q =
  (cIf ([some (HB.cells [AV.vs l len Tok.none] 25), some (HB.cells (encP p) 40), some (HB.cells (encP q) 40), some (HB.cells [U (0 : Int), I (0 : Int), I (0 : Int), I (0 : Int)] 115), some (HB.cells [U (0 : Int), I (-1 : Int), I (-1 : Int), I (0 : Int)] 115)].all (okBlk 5)) (WLoop Tryz.X83 (cd Tryz.X83.P 83 [1, 1, 0, 1, 0, 0]) ([X, X, X, AV.ptr 0 0, AV.ptr 1 0, AV.ptr 2 0, AV.ptr 3 0, AV.ptr 4 0, I (0 : Int)] ++ List.replicate 84 X) (St.mk [some (HB.cells [AV.vs l len Tok.none] 25), some (HB.cells (encP p) 40), some (HB.cells (encP q) 40), some (HB.cells [U (0 : Int), I (0 : Int), I (0 : Int), I (0 : Int)] 115), some (HB.cells [U (0 : Int), I (-1 : Int), I (-1 : Int), I (0 : Int)] 115)] [] []) (kBlock 0 (kSeq Tryz.X83 (cd Tryz.X83.P 83 [1, 1, 1]) (kRet Tryz.X83 83 Q)))) False) := by kernel_rfl
theorem v83l (l : List AV) (len : Nat) (p q : Prf) (v w r i : Int) (Q : CR → Prop) : wpC Tryz.X83 (cd PP 83 [1, 1, 0, 1, 0, 0]) ([X, X, X, .ptr 0 0, .ptr 1 0, .ptr 2 0, .ptr 3 0, .ptr 4 0, I i] ++ List.replicate 84 X) ⟨[some (.cells [.vs l len .none] 25), some (.cells (encP p) 40), some (.cells (encP q) 40), some (.cells [U 0, I 0, I 0, I 0] 115), some (.cells [U 0, I v, I w, I r] 115)], [], []⟩ (kLoop Tryz.X83 (cd PP 83 [1, 1, 0, 1, 0, 0]) (kBlock 0 (kSeq Tryz.X83 (cd PP 83 [1, 1, 1]) (kRet Tryz.X83 83 Q)))) =
  (cIf (decide (i < (↑len : Int))) (cIf (decide ((0 : Int) ≤ i)) (cIf (decide (i.toNat < len)) (cIf (decide (len * 8 = l.length)) (cIf (decide (8 ≤ (List.drop (i.toNat * 8) l).length)) (cIf (like zR (el (List.drop (i.toNat * 8) l) 0 8)) (cIf (decide (cI (el (List.drop (i.toNat * 8) l) 0 8) 1 < r)) (cIf ([some (HB.cells [AV.vs l len Tok.none] 25), some (HB.cells (encP p) 40), some (HB.cells (encP q) 40), some (HB.cells [U (0 : Int), I (0 : Int), I (0 : Int), I (0 : Int)] 115), some (HB.cells [U (0 : Int), I v, I w, I r] 115)].all (okBlk 5)) (WLoop Tryz.X83 (cd PP 83 [1, 1, 0, 1, 0, 0]) ([X, X, X, AV.ptr 0 0, AV.ptr 1 0, AV.ptr 2 0, AV.ptr 3 0, AV.ptr 4 0, I (IntKind.i64.wrap (i + (1 : Int)))] ++ List.replicate 84 X) (St.mk [some (HB.cells [AV.vs l len Tok.none] 25), some (HB.cells (encP p) 40), some (HB.cells (encP q) 40), some (HB.cells [U (0 : Int), I (0 : Int), I (0 : Int), I (0 : Int)] 115), some (HB.cells [U (0 : Int), I v, I w, I r] 115)] [] []) (kBlock 0 (kSeq Tryz.X83 (cd PP 83 [1, 1, 1]) (kRet Tryz.X83 83 Q)))) False) (((∃ (t : Tst), (elT3 (el (List.drop (i.toNat * 8) l) 0 8)) = encT t ∧ wfT t) ∧ (∃ (a : Prf), (encP p) = encP a) ∧ ∃ (b : Prf), (encP q) = encP b) ∧ ((∃ (t : Tst), (elT3 (el (List.drop (i.toNat * 8) l) 0 8)) = encT t ∧ wfT t) ∧ (∃ (a : Prf), (encP q) = encP a) ∧ ∃ (b : Prf), (encP p) = encP b) ∧ cIf ([some (HB.cells [AV.vs l len Tok.none] 25), some (HB.cells (encP p) 40), some (HB.cells (encP q) 40), some (HB.cells [U (0 : Int), I (0 : Int), I (0 : Int), I (0 : Int)] 115), some (HB.cells [U (0 : Int), I v, I w, I r] 115), some (HB.cells (elR (el (List.drop (i.toNat * 8) l) 0 8)) 73)].all (okBlk 6)) (WCut Tryz.X83 (cd PP 83 [1, 1, 0, 1, 0, 0, 1, 0, 0, 1, 1, 1, 1]) ([X, X, X, AV.ptr 0 0, AV.ptr 1 0, AV.ptr 2 0, AV.ptr 3 0, AV.ptr 4 0, I i, AV.ptr 5 0, AV.bool (onEnc encT (fun (t : Tst) => onEnc encP (fun (a : Prf) => onEnc encP (fun (b : Prf) => hoT t a b) false (encP q)) false (encP p)) false (elT3 (el (List.drop (i.toNat * 8) l) 0 8))), AV.bool (onEnc encT (fun (t : Tst) => onEnc encP (fun (a : Prf) => onEnc encP (fun (b : Prf) => hoT t a b) false (encP p)) false (encP q)) false (elT3 (el (List.drop (i.toNat * 8) l) 0 8)))] ++ List.replicate 81 X) (St.mk [some (HB.cells [AV.vs l len Tok.none] 25), some (HB.cells (encP p) 40), some (HB.cells (encP q) 40), some (HB.cells [U (0 : Int), I (0 : Int), I (0 : Int), I (0 : Int)] 115), some (HB.cells [U (0 : Int), I v, I w, I r] 115), some (HB.cells (elR (el (List.drop (i.toNat * 8) l) 0 8)) 73)] [] []) (kBlock 1 (kSeq Tryz.X83 (cd PP 83 [1, 1, 0, 1, 0, 0, 1, 1]) (kLoop Tryz.X83 (cd PP 83 [1, 1, 0, 1, 0, 0]) (kBlock 0 (kSeq Tryz.X83 (cd PP 83 [1, 1, 1]) (kRet Tryz.X83 83 Q))))))) False)) False) False) False) False) False) (cIf ([some (HB.cells [AV.vs l len Tok.none] 25), some (HB.cells (encP p) 40), some (HB.cells (encP q) 40), some (HB.cells [U (0 : Int), I (0 : Int), I (0 : Int), I (0 : Int)] 115), some (HB.cells [U (0 : Int), I v, I w, I r] 115)].all (okBlk 5)) (WCut Tryz.X83 (cd PP 83 [1, 1, 1]) ([X, X, X, X, X, X, AV.ptr 3 0, AV.ptr 4 0] ++ List.replicate 85 X) (St.mk [some (HB.cells [AV.vs l len Tok.none] 25), some (HB.cells (encP p) 40), some (HB.cells (encP q) 40), some (HB.cells [U (0 : Int), I (0 : Int), I (0 : Int), I (0 : Int)] 115), some (HB.cells [U (0 : Int), I v, I w, I r] 115)] [] []) (kRet Tryz.X83 83 Q)) False)) := by kernel_rfl
theorem v83a (l : List AV) (len : Nat) (p q : Prf) (x : Rul) (t b : Bool) (v w r i : Int) (Q : CR → Prop) : wpC Tryz.X83 (cd PP 83 [1, 1, 0, 1, 0, 0, 1, 0, 0, 1, 1, 1, 1]) ([X, X, X, .ptr 0 0, .ptr 1 0, .ptr 2 0, .ptr 3 0, .ptr 4 0, I i, .ptr 5 0, Bo t, Bo b] ++ List.replicate 81 X) ⟨[some (.cells [.vs l len .none] 25), some (.cells (encP p) 40), some (.cells (encP q) 40), some (.cells [U 0, I 0, I 0, I 0] 115), some (.cells [U 0, I v, I w, I r] 115), some (.cells (encR x) 73)], [], []⟩ (kBlock 1 (kSeq Tryz.X83 (cd PP 83 [1, 1, 0, 1, 0, 0, 1, 1]) (kLoop Tryz.X83 (cd PP 83 [1, 1, 0, 1, 0, 0]) (kBlock 0 (kSeq Tryz.X83 (cd PP 83 [1, 1, 1]) (kRet Tryz.X83 83 Q)))))) =
  (cIf t (cIf (decide (x.rank > r)) (cIf ([some (HB.cells [AV.vs l len Tok.none] 25), some (HB.cells (encP p) 40), some (HB.cells (encP q) 40), some (HB.cells [U (0 : Int), I (0 : Int), I (0 : Int), I (0 : Int)] 115), some (HB.cells [U (0 : Int), I (-1 : Int), I (-1 : Int), I x.rank] 115)].all (okBlk 5)) (WCut Tryz.X83 (cd PP 83 [1, 1, 0, 1, 0, 0, 1, 0, 0, 1, 1, 1, 1, 1]) ([X, X, X, AV.ptr 0 0, AV.ptr 1 0, AV.ptr 2 0, AV.ptr 3 0, AV.ptr 4 0, I i, X, Bo t, Bo b] ++ List.replicate 81 X) (St.mk [some (HB.cells [AV.vs l len Tok.none] 25), some (HB.cells (encP p) 40), some (HB.cells (encP q) 40), some (HB.cells [U (0 : Int), I (0 : Int), I (0 : Int), I (0 : Int)] 115), some (HB.cells [U (0 : Int), I (-1 : Int), I (-1 : Int), I x.rank] 115)] [] []) (kBlock 1 (kSeq Tryz.X83 (cd PP 83 [1, 1, 0, 1, 0, 0, 1, 1]) (kLoop Tryz.X83 (cd PP 83 [1, 1, 0, 1, 0, 0]) (kBlock 0 (kSeq Tryz.X83 (cd PP 83 [1, 1, 1]) (kRet Tryz.X83 83 Q))))))) False) (cIf ([some (HB.cells [AV.vs l len Tok.none] 25), some (HB.cells (encP p) 40), some (HB.cells (encP q) 40), some (HB.cells [U (0 : Int), I (0 : Int), I (0 : Int), I (0 : Int)] 115), some (HB.cells [U (0 : Int), I v, I w, I r] 115)].all (okBlk 5)) (WCut Tryz.X83 (cd PP 83 [1, 1, 0, 1, 0, 0, 1, 0, 0, 1, 1, 1, 1, 1]) ([X, X, X, AV.ptr 0 0, AV.ptr 1 0, AV.ptr 2 0, AV.ptr 3 0, AV.ptr 4 0, I i, X, Bo t, Bo b] ++ List.replicate 81 X) (St.mk [some (HB.cells [AV.vs l len Tok.none] 25), some (HB.cells (encP p) 40), some (HB.cells (encP q) 40), some (HB.cells [U (0 : Int), I (0 : Int), I (0 : Int), I (0 : Int)] 115), some (HB.cells [U (0 : Int), I v, I w, I r] 115)] [] []) (kBlock 1 (kSeq Tryz.X83 (cd PP 83 [1, 1, 0, 1, 0, 0, 1, 1]) (kLoop Tryz.X83 (cd PP 83 [1, 1, 0, 1, 0, 0]) (kBlock 0 (kSeq Tryz.X83 (cd PP 83 [1, 1, 1]) (kRet Tryz.X83 83 Q))))))) False)) (cIf b (cIf (decide (x.rank > r)) (cIf ([some (HB.cells [AV.vs l len Tok.none] 25), some (HB.cells (encP p) 40), some (HB.cells (encP q) 40), some (HB.cells [U (0 : Int), I (0 : Int), I (0 : Int), I (0 : Int)] 115), some (HB.cells [U (0 : Int), I (-1 : Int), I (-1 : Int), I x.rank] 115)].all (okBlk 5)) (WCut Tryz.X83 (cd PP 83 [1, 1, 0, 1, 0, 0, 1, 0, 0, 1, 1, 1, 1, 1]) ([X, X, X, AV.ptr 0 0, AV.ptr 1 0, AV.ptr 2 0, AV.ptr 3 0, AV.ptr 4 0, I i, X, Bo t, Bo b] ++ List.replicate 81 X) (St.mk [some (HB.cells [AV.vs l len Tok.none] 25), some (HB.cells (encP p) 40), some (HB.cells (encP q) 40), some (HB.cells [U (0 : Int), I (0 : Int), I (0 : Int), I (0 : Int)] 115), some (HB.cells [U (0 : Int), I (-1 : Int), I (-1 : Int), I x.rank] 115)] [] []) (kBlock 1 (kSeq Tryz.X83 (cd PP 83 [1, 1, 0, 1, 0, 0, 1, 1]) (kLoop Tryz.X83 (cd PP 83 [1, 1, 0, 1, 0, 0]) (kBlock 0 (kSeq Tryz.X83 (cd PP 83 [1, 1, 1]) (kRet Tryz.X83 83 Q))))))) False) (cIf ([some (HB.cells [AV.vs l len Tok.none] 25), some (HB.cells (encP p) 40), some (HB.cells (encP q) 40), some (HB.cells [U (0 : Int), I (0 : Int), I (0 : Int), I (0 : Int)] 115), some (HB.cells [U (0 : Int), I v, I w, I r] 115)].all (okBlk 5)) (WCut Tryz.X83 (cd PP 83 [1, 1, 0, 1, 0, 0, 1, 0, 0, 1, 1, 1, 1, 1]) ([X, X, X, AV.ptr 0 0, AV.ptr 1 0, AV.ptr 2 0, AV.ptr 3 0, AV.ptr 4 0, I i, X, Bo t, Bo b] ++ List.replicate 81 X) (St.mk [some (HB.cells [AV.vs l len Tok.none] 25), some (HB.cells (encP p) 40), some (HB.cells (encP q) 40), some (HB.cells [U (0 : Int), I (0 : Int), I (0 : Int), I (0 : Int)] 115), some (HB.cells [U (0 : Int), I v, I w, I r] 115)] [] []) (kBlock 1 (kSeq Tryz.X83 (cd PP 83 [1, 1, 0, 1, 0, 0, 1, 1]) (kLoop Tryz.X83 (cd PP 83 [1, 1, 0, 1, 0, 0]) (kBlock 0 (kSeq Tryz.X83 (cd PP 83 [1, 1, 1]) (kRet Tryz.X83 83 Q))))))) False)) (cIf ([some (HB.cells [AV.vs l len Tok.none] 25), some (HB.cells (encP p) 40), some (HB.cells (encP q) 40), some (HB.cells [U (0 : Int), I (0 : Int), I (0 : Int), I (0 : Int)] 115), some (HB.cells [U (0 : Int), I v, I w, I r] 115)].all (okBlk 5)) (WCut Tryz.X83 (cd PP 83 [1, 1, 0, 1, 0, 0, 1, 0, 0, 1, 1, 1, 1, 1]) ([X, X, X, AV.ptr 0 0, AV.ptr 1 0, AV.ptr 2 0, AV.ptr 3 0, AV.ptr 4 0, I i, X, Bo t, Bo b] ++ List.replicate 81 X) (St.mk [some (HB.cells [AV.vs l len Tok.none] 25), some (HB.cells (encP p) 40), some (HB.cells (encP q) 40), some (HB.cells [U (0 : Int), I (0 : Int), I (0 : Int), I (0 : Int)] 115), some (HB.cells [U (0 : Int), I v, I w, I r] 115)] [] []) (kBlock 1 (kSeq Tryz.X83 (cd PP 83 [1, 1, 0, 1, 0, 0, 1, 1]) (kLoop Tryz.X83 (cd PP 83 [1, 1, 0, 1, 0, 0]) (kBlock 0 (kSeq Tryz.X83 (cd PP 83 [1, 1, 1]) (kRet Tryz.X83 83 Q))))))) False))) := by kernel_rfl
theorem v83b (l : List AV) (len : Nat) (p q : Prf) (t b : Bool) (v w r i : Int) (Q : CR → Prop) : wpC Tryz.X83 (cd PP 83 [1, 1, 0, 1, 0, 0, 1, 0, 0, 1, 1, 1, 1, 1]) ([X, X, X, .ptr 0 0, .ptr 1 0, .ptr 2 0, .ptr 3 0, .ptr 4 0, I i, X, Bo t, Bo b] ++ List.replicate 81 X) ⟨[some (.cells [.vs l len .none] 25), some (.cells (encP p) 40), some (.cells (encP q) 40), some (.cells [U 0, I 0, I 0, I 0] 115), some (.cells [U 0, I v, I w, I r] 115)], [], []⟩ (kBlock 1 (kSeq Tryz.X83 (cd PP 83 [1, 1, 0, 1, 0, 0, 1, 1]) (kLoop Tryz.X83 (cd PP 83 [1, 1, 0, 1, 0, 0]) (kBlock 0 (kSeq Tryz.X83 (cd PP 83 [1, 1, 1]) (kRet Tryz.X83 83 Q)))))) =
  (cIf t (cIf (decide (v < (0 : Int))) (cIf ([some (HB.cells [AV.vs l len Tok.none] 25), some (HB.cells (encP p) 40), some (HB.cells (encP q) 40), some (HB.cells [U (0 : Int), I (0 : Int), I (0 : Int), I (0 : Int)] 115), some (HB.cells [U (0 : Int), I i, I w, I r] 115)].all (okBlk 5)) (WCut Tryz.X83 (cd PP 83 [1, 1, 0, 1, 0, 0, 1, 0, 0, 1, 1, 1, 1, 1, 1]) ([X, X, X, AV.ptr 0 0, AV.ptr 1 0, AV.ptr 2 0, AV.ptr 3 0, AV.ptr 4 0, I i, X, X, Bo b] ++ List.replicate 81 X) (St.mk [some (HB.cells [AV.vs l len Tok.none] 25), some (HB.cells (encP p) 40), some (HB.cells (encP q) 40), some (HB.cells [U (0 : Int), I (0 : Int), I (0 : Int), I (0 : Int)] 115), some (HB.cells [U (0 : Int), I i, I w, I r] 115)] [] []) (kBlock 1 (kSeq Tryz.X83 (cd PP 83 [1, 1, 0, 1, 0, 0, 1, 1]) (kLoop Tryz.X83 (cd PP 83 [1, 1, 0, 1, 0, 0]) (kBlock 0 (kSeq Tryz.X83 (cd PP 83 [1, 1, 1]) (kRet Tryz.X83 83 Q))))))) False) (cIf ([some (HB.cells [AV.vs l len Tok.none] 25), some (HB.cells (encP p) 40), some (HB.cells (encP q) 40), some (HB.cells [U (0 : Int), I (0 : Int), I (0 : Int), I (0 : Int)] 115), some (HB.cells [U (0 : Int), I v, I w, I r] 115)].all (okBlk 5)) (WCut Tryz.X83 (cd PP 83 [1, 1, 0, 1, 0, 0, 1, 0, 0, 1, 1, 1, 1, 1, 1]) ([X, X, X, AV.ptr 0 0, AV.ptr 1 0, AV.ptr 2 0, AV.ptr 3 0, AV.ptr 4 0, I i, X, X, Bo b] ++ List.replicate 81 X) (St.mk [some (HB.cells [AV.vs l len Tok.none] 25), some (HB.cells (encP p) 40), some (HB.cells (encP q) 40), some (HB.cells [U (0 : Int), I (0 : Int), I (0 : Int), I (0 : Int)] 115), some (HB.cells [U (0 : Int), I v, I w, I r] 115)] [] []) (kBlock 1 (kSeq Tryz.X83 (cd PP 83 [1, 1, 0, 1, 0, 0, 1, 1]) (kLoop Tryz.X83 (cd PP 83 [1, 1, 0, 1, 0, 0]) (kBlock 0 (kSeq Tryz.X83 (cd PP 83 [1, 1, 1]) (kRet Tryz.X83 83 Q))))))) False)) (cIf ([some (HB.cells [AV.vs l len Tok.none] 25), some (HB.cells (encP p) 40), some (HB.cells (encP q) 40), some (HB.cells [U (0 : Int), I (0 : Int), I (0 : Int), I (0 : Int)] 115), some (HB.cells [U (0 : Int), I v, I w, I r] 115)].all (okBlk 5)) (WCut Tryz.X83 (cd PP 83 [1, 1, 0, 1, 0, 0, 1, 0, 0, 1, 1, 1, 1, 1, 1]) ([X, X, X, AV.ptr 0 0, AV.ptr 1 0, AV.ptr 2 0, AV.ptr 3 0, AV.ptr 4 0, I i, X, X, Bo b] ++ List.replicate 81 X) (St.mk [some (HB.cells [AV.vs l len Tok.none] 25), some (HB.cells (encP p) 40), some (HB.cells (encP q) 40), some (HB.cells [U (0 : Int), I (0 : Int), I (0 : Int), I (0 : Int)] 115), some (HB.cells [U (0 : Int), I v, I w, I r] 115)] [] []) (kBlock 1 (kSeq Tryz.X83 (cd PP 83 [1, 1, 0, 1, 0, 0, 1, 1]) (kLoop Tryz.X83 (cd PP 83 [1, 1, 0, 1, 0, 0]) (kBlock 0 (kSeq Tryz.X83 (cd PP 83 [1, 1, 1]) (kRet Tryz.X83 83 Q))))))) False)) := by kernel_rfl
theorem v83c (l : List AV) (len : Nat) (p q : Prf) (b : Bool) (v w r i : Int) (Q : CR → Prop) : wpC Tryz.X83 (cd PP 83 [1, 1, 0, 1, 0, 0, 1, 0, 0, 1, 1, 1, 1, 1, 1]) ([X, X, X, .ptr 0 0, .ptr 1 0, .ptr 2 0, .ptr 3 0, .ptr 4 0, I i, X, X, Bo b] ++ List.replicate 81 X) ⟨[some (.cells [.vs l len .none] 25), some (.cells (encP p) 40), some (.cells (encP q) 40), some (.cells [U 0, I 0, I 0, I 0] 115), some (.cells [U 0, I v, I w, I r] 115)], [], []⟩ (kBlock 1 (kSeq Tryz.X83 (cd PP 83 [1, 1, 0, 1, 0, 0, 1, 1]) (kLoop Tryz.X83 (cd PP 83 [1, 1, 0, 1, 0, 0]) (kBlock 0 (kSeq Tryz.X83 (cd PP 83 [1, 1, 1]) (kRet Tryz.X83 83 Q)))))) =
  (cIf b (cIf (decide (w < (0 : Int))) (cIf ([some (HB.cells [AV.vs l len Tok.none] 25), some (HB.cells (encP p) 40), some (HB.cells (encP q) 40), some (HB.cells [U (0 : Int), I (0 : Int), I (0 : Int), I (0 : Int)] 115), some (HB.cells [U (0 : Int), I v, I i, I r] 115)].all (okBlk 5)) (WLoop Tryz.X83 (cd PP 83 [1, 1, 0, 1, 0, 0]) ([X, X, X, AV.ptr 0 0, AV.ptr 1 0, AV.ptr 2 0, AV.ptr 3 0, AV.ptr 4 0, I (IntKind.i64.wrap (i + (1 : Int)))] ++ List.replicate 84 X) (St.mk [some (HB.cells [AV.vs l len Tok.none] 25), some (HB.cells (encP p) 40), some (HB.cells (encP q) 40), some (HB.cells [U (0 : Int), I (0 : Int), I (0 : Int), I (0 : Int)] 115), some (HB.cells [U (0 : Int), I v, I i, I r] 115)] [] []) (kBlock 0 (kSeq Tryz.X83 (cd PP 83 [1, 1, 1]) (kRet Tryz.X83 83 Q)))) False) (cIf ([some (HB.cells [AV.vs l len Tok.none] 25), some (HB.cells (encP p) 40), some (HB.cells (encP q) 40), some (HB.cells [U (0 : Int), I (0 : Int), I (0 : Int), I (0 : Int)] 115), some (HB.cells [U (0 : Int), I v, I w, I r] 115)].all (okBlk 5)) (WLoop Tryz.X83 (cd PP 83 [1, 1, 0, 1, 0, 0]) ([X, X, X, AV.ptr 0 0, AV.ptr 1 0, AV.ptr 2 0, AV.ptr 3 0, AV.ptr 4 0, I (IntKind.i64.wrap (i + (1 : Int)))] ++ List.replicate 84 X) (St.mk [some (HB.cells [AV.vs l len Tok.none] 25), some (HB.cells (encP p) 40), some (HB.cells (encP q) 40), some (HB.cells [U (0 : Int), I (0 : Int), I (0 : Int), I (0 : Int)] 115), some (HB.cells [U (0 : Int), I v, I w, I r] 115)] [] []) (kBlock 0 (kSeq Tryz.X83 (cd PP 83 [1, 1, 1]) (kRet Tryz.X83 83 Q)))) False)) (cIf ([some (HB.cells [AV.vs l len Tok.none] 25), some (HB.cells (encP p) 40), some (HB.cells (encP q) 40), some (HB.cells [U (0 : Int), I (0 : Int), I (0 : Int), I (0 : Int)] 115), some (HB.cells [U (0 : Int), I v, I w, I r] 115)].all (okBlk 5)) (WLoop Tryz.X83 (cd PP 83 [1, 1, 0, 1, 0, 0]) ([X, X, X, AV.ptr 0 0, AV.ptr 1 0, AV.ptr 2 0, AV.ptr 3 0, AV.ptr 4 0, I (IntKind.i64.wrap (i + (1 : Int)))] ++ List.replicate 84 X) (St.mk [some (HB.cells [AV.vs l len Tok.none] 25), some (HB.cells (encP p) 40), some (HB.cells (encP q) 40), some (HB.cells [U (0 : Int), I (0 : Int), I (0 : Int), I (0 : Int)] 115), some (HB.cells [U (0 : Int), I v, I w, I r] 115)] [] []) (kBlock 0 (kSeq Tryz.X83 (cd PP 83 [1, 1, 1]) (kRet Tryz.X83 83 Q)))) False)) := by kernel_rfl
theorem v83e (l : List AV) (len : Nat) (p q : Prf) (v w r : Int) (Q : CR → Prop) : wpC Tryz.X83 (cd PP 83 [1, 1, 1]) ([X, X, X, X, X, X, .ptr 3 0, .ptr 4 0] ++ List.replicate 85 X) ⟨[some (.cells [.vs l len .none] 25), some (.cells (encP p) 40), some (.cells (encP q) 40), some (.cells [U 0, I 0, I 0, I 0] 115), some (.cells [U 0, I v, I w, I r] 115)], [], []⟩ (kRet Tryz.X83 83 Q) =
  (cIf (decide (v ≥ (0 : Int))) (cIf (decide (w ≥ (0 : Int))) (Q (CR.ret (AV.agg [U (3 : Int), I v, I w, I r]))) (Q (CR.ret (AV.agg [U (1 : Int), I v, I w, I r])))) (cIf (decide (w ≥ (0 : Int))) (Q (CR.ret (AV.agg [U (2 : Int), I v, I w, I r]))) (Q (CR.ret (AV.agg [U (0 : Int), I v, I w, I r]))))) := by kernel_rfl
end Go.Proofs
/-! C22 -/
set_option maxRecDepth 100000
set_option linter.unusedVariables false
namespace Go.Proofs
open Go Go.Ev
/-! The same lists. -/
/-! The rules that fire. -/
theorem range_drop {n i : Nat} (h : i < n) : (List.range n).drop i = i :: (List.range n).drop (i + 1) := by
  obtain ⟨a, ha, hd⟩ := drop_cons (l := List.range n) (i := i) (by simpa using h)
  rw [List.getElem?_range h] at ha
  rw [hd, ← Option.some.inj ha]
theorem hoE (t : Tst) (p q : Prf) : onEnc encT (fun t => onEnc encP (fun a => onEnc encP (fun b => hoT t a b) false (encP q)) false (encP p)) false (encT t) = hoT t p q := by
  rw [onEnc_eq (fun _ _ => encT_inj _ _), onEnc_eq encP_inj, onEnc_eq encP_inj]
section
variable {rs : List Rul} (hrs : okRs rs) (hsh : ∀ x ∈ rs, shT x.t = true) {p q : Prf} {Q : CR → Prop}
include hrs hsh
end
section
variable {rs : List Rul} (hrs : okRs rs) {p q : Prf} {Q : CR → Prop}
include hrs
end
/-! The reference's decision. -/
theorem c83 : Cts Tryz.B [(82, R82)] := (Cts.nil _).cons ct82
abbrev hs83 (rs : List Rul) (p q : Prf) (v w r : Int) : List (Option HB) := [some (.cells [.vs (encRs rs) rs.length .none] 25), some (.cells (encP p) 40), some (.cells (encP q) 40), some (.cells [U 0, I 0, I 0, I 0] 115), some (.cells [U 0, I v, I w, I r] 115)]
def fin83 (x : Int × Int × Int) : CR := .ret (.agg [U (kindV x.1 x.2.1), I x.1, I x.2.1, I x.2.2])
section
variable {rs : List Rul} (hrs : okRs rs) {p q : Prf} {Q : CR → Prop}
theorem hs83_ok (rs : List Rul) (p q : Prf) (v w r : Int) : (hs83 rs p q v w r).all (okBlk 5) = true := by
  simp [okBlk, noHB, noHL, noH, noH_encRs, noH_encP]
theorem hs83_ok6 (rs : List Rul) (p q : Prf) (v w r : Int) (x : Rul) : (hs83 rs p q v w r ++ [some (HB.cells (encR x) 73)]).all (okBlk 6) = true := by
  simp [okBlk, noHB, noHL, noH, noH_encRs, noH_encP, noH_encR]
theorem fin_83 (v w r : Int) (hQ : Q (fin83 (v, w, r))) :
    WCut Tryz.X83 (cd PP 83 [1, 1, 1]) ([X, X, X, X, X, X, .ptr 3 0, .ptr 4 0] ++ List.replicate 85 X) ⟨hs83 rs p q v w r, [], []⟩ (kRet Tryz.X83 83 Q) := by
  refine WCut_of (C := Tryz.X83) (wcx_ones Tryz.bok c83) (wcx_ok Tryz.bok c83) ?_
  rw [v83e]
  unfold fin83 kindV at hQ
  refine cIf_intro (fun h => cIf_intro (fun h2 => ?_) (fun h2 => ?_)) (fun h => cIf_intro (fun h2 => ?_) (fun h2 => ?_))
  · rw [if_pos ⟨of_decide_eq_true h, of_decide_eq_true h2⟩] at hQ; exact hQ
  · have h := of_decide_eq_true h
    have h2 := of_decide_eq_false h2
    rw [if_neg (fun x => h2 x.2), if_pos h] at hQ; exact hQ
  · have h := of_decide_eq_false h
    have h2 := of_decide_eq_true h2
    rw [if_neg (fun x => h x.1), if_neg h, if_pos h2] at hQ; exact hQ
  · have h := of_decide_eq_false h
    have h2 := of_decide_eq_false h2
    rw [if_neg (fun x => h x.1), if_neg h, if_neg h2] at hQ; exact hQ
include hrs
theorem loop83 : ∀ (d i : Nat) (v w r : Int), rs.length - i = d → i ≤ rs.length →
    Q (fin83 (decR (rkR rs) (thR rs p q) (thR rs q p) ((List.range rs.length).drop i) v w r)) →
    WLoop Tryz.X83 (cd PP 83 [1, 1, 0, 1, 0, 0]) ([X, X, X, .ptr 0 0, .ptr 1 0, .ptr 2 0, .ptr 3 0, .ptr 4 0, I i] ++ List.replicate 84 X) ⟨hs83 rs p q v w r, [], []⟩ (kBlock 0 (kSeq Tryz.X83 (cd PP 83 [1, 1, 1]) (kRet Tryz.X83 83 Q))) := by
  have hn := hrs.2.1
  intro d
  induction d with
  | zero =>
    intro i v w r hd hi hQ
    have hi' : i = rs.length := by omega
    subst hi'
    rw [List.drop_of_length_le (by simp)] at hQ
    refine WLoop_unroll (C := Tryz.X83) (wcx_ones Tryz.bok c83) (wcx_ok Tryz.bok c83) ?_
    rw [v83l]
    exact cIf_neg (decide_eq_false (by omega)) (cIf_pos (hs83_ok rs p q v w r) (fin_83 v w r hQ))
  | succ d ih =>
    intro i v w r hd hi hQ
    have hlt : i < rs.length := by omega
    obtain ⟨x, hx⟩ : ∃ x, rs[i]? = some x := ⟨_, List.getElem?_eq_getElem hlt⟩
    have hxm := List.mem_of_getElem? hx
    have hrk : rkR rs i = x.rank := by simp only [rkR, hx]
    have hth : thR rs p q i = hoT x.t p q := by simp only [thR, hx]
    have hbk : thR rs q p i = hoT x.t q p := by simp only [thR, hx]
    have cont : ∀ v' w' r' : Int, Q (fin83 (decR (rkR rs) (thR rs p q) (thR rs q p) ((List.range rs.length).drop (i + 1)) v' w' r')) → _ := fun v' w' r' h => ih (i + 1) v' w' r' (by omega) (by omega) h
    rw [range_drop hlt] at hQ
    simp only [decR] at hQ
    rw [hrk, hth, hbk] at hQ
    have three : ∀ (b : Bool) (v' w' r' : Int), Q (fin83 (decR (rkR rs) (thR rs p q) (thR rs q p) ((List.range rs.length).drop (i + 1)) v' (if (b && decide (w' < 0)) = true then (i : Int) else w') r')) →
        WCut Tryz.X83 (cd PP 83 [1, 1, 0, 1, 0, 0, 1, 0, 0, 1, 1, 1, 1, 1, 1]) ([X, X, X, .ptr 0 0, .ptr 1 0, .ptr 2 0, .ptr 3 0, .ptr 4 0, I i, X, X, Bo b] ++ List.replicate 81 X) ⟨hs83 rs p q v' w' r', [], []⟩ (kBlock 1 (kSeq Tryz.X83 (cd PP 83 [1, 1, 0, 1, 0, 0, 1, 1]) (kLoop Tryz.X83 (cd PP 83 [1, 1, 0, 1, 0, 0]) (kBlock 0 (kSeq Tryz.X83 (cd PP 83 [1, 1, 1]) (kRet Tryz.X83 83 Q)))))) := by
      intro b v' w' r' h
      refine WCut_of (C := Tryz.X83) (wcx_ones Tryz.bok c83) (wcx_ok Tryz.bok c83) ?_
      rw [v83c, wA1 (a := i) (by omega)]
      refine cIf_intro (fun h1 => cIf_intro (fun h2 => ?_) (fun h2 => ?_)) (fun h1 => ?_)
      · rw [if_pos (by rw [h1, h2]; rfl)] at h
        exact cIf_pos (hs83_ok rs p q v' i r') (cont _ _ _ h)
      · rw [if_neg (by rw [h1, h2]; simp)] at h
        exact cIf_pos (hs83_ok rs p q v' w' r') (cont _ _ _ h)
      · rw [if_neg (by rw [h1]; simp)] at h
        exact cIf_pos (hs83_ok rs p q v' w' r') (cont _ _ _ h)
    have two : ∀ (a b : Bool) (v' w' r' : Int), Q (fin83 (decR (rkR rs) (thR rs p q) (thR rs q p) ((List.range rs.length).drop (i + 1)) (if (a && decide (v' < 0)) = true then (i : Int) else v') (if (b && decide (w' < 0)) = true then (i : Int) else w') r')) →
        WCut Tryz.X83 (cd PP 83 [1, 1, 0, 1, 0, 0, 1, 0, 0, 1, 1, 1, 1, 1]) ([X, X, X, .ptr 0 0, .ptr 1 0, .ptr 2 0, .ptr 3 0, .ptr 4 0, I i, X, Bo a, Bo b] ++ List.replicate 81 X) ⟨hs83 rs p q v' w' r', [], []⟩ (kBlock 1 (kSeq Tryz.X83 (cd PP 83 [1, 1, 0, 1, 0, 0, 1, 1]) (kLoop Tryz.X83 (cd PP 83 [1, 1, 0, 1, 0, 0]) (kBlock 0 (kSeq Tryz.X83 (cd PP 83 [1, 1, 1]) (kRet Tryz.X83 83 Q)))))) := by
      intro a b v' w' r' h
      refine WCut_of (C := Tryz.X83) (wcx_ones Tryz.bok c83) (wcx_ok Tryz.bok c83) ?_
      rw [v83b]
      refine cIf_intro (fun h1 => cIf_intro (fun h2 => ?_) (fun h2 => ?_)) (fun h1 => ?_)
      · rw [if_pos (c := (a && decide (v' < 0)) = true) (by rw [h1, h2]; rfl)] at h
        exact cIf_pos (hs83_ok rs p q i w' r') (three b _ _ _ h)
      · rw [if_neg (c := (a && decide (v' < 0)) = true) (by rw [h1, h2]; simp)] at h
        exact cIf_pos (hs83_ok rs p q v' w' r') (three b _ _ _ h)
      · rw [if_neg (c := (a && decide (v' < 0)) = true) (by rw [h1]; simp)] at h
        exact cIf_pos (hs83_ok rs p q v' w' r') (three b _ _ _ h)
    refine WLoop_unroll (C := Tryz.X83) (wcx_ones Tryz.bok c83) (wcx_ok Tryz.bok c83) ?_
    rw [v83l, Int.toNat_natCast i, encRs_el hx, encR_w, elT3_enc, wA1 (a := i) (by omega), hoE, hoE]
    refine cIf_pos (decide_eq_true (by omega)) (cIf_pos (row_nn _) (cIf_pos (decide_eq_true hlt) (cIf_pos (decide_eq_true (encRs_len rs).symm) (cIf_pos (decide_eq_true (enc_drop_len (encRs_len rs) hlt)) (cIf_pos (encR_like x) ?_)))))
    show cIf (decide (x.rank < r)) _ _
    refine cIf_intro (fun hb => ?_) (fun hb => ?_)
    · rw [if_pos (of_decide_eq_true hb)] at hQ
      exact cIf_pos (hs83_ok rs p q v w r) (cont _ _ _ hQ)
    · rw [if_neg (of_decide_eq_false hb)] at hQ
      refine ⟨⟨⟨x.t, rfl, (hrs.1.2 x hxm).1⟩, ⟨p, rfl⟩, q, rfl⟩, ⟨⟨x.t, rfl, (hrs.1.2 x hxm).1⟩, ⟨q, rfl⟩, p, rfl⟩, cIf_pos (hs83_ok6 rs p q v w r x) ?_⟩
      refine WCut_of (C := Tryz.X83) (wcx_ones Tryz.bok c83) (wcx_ok Tryz.bok c83) ?_
      rw [v83a]
      refine cIf_intro (fun h1 => cIf_intro (fun h2 => ?_) (fun h2 => ?_)) (fun h1 => cIf_intro (fun h3 => cIf_intro (fun h2 => ?_) (fun h2 => ?_)) (fun h3 => ?_))
      · rw [if_pos (c := ((hoT x.t p q || hoT x.t q p) && decide (x.rank > r)) = true) (by rw [h1, h2]; rfl)] at hQ
        exact cIf_pos (hs83_ok rs p q (-1) (-1) x.rank) (two _ _ _ _ _ hQ)
      · rw [if_neg (c := ((hoT x.t p q || hoT x.t q p) && decide (x.rank > r)) = true) (by rw [h2]; simp)] at hQ
        exact cIf_pos (hs83_ok rs p q v w r) (two _ _ _ _ _ hQ)
      · rw [if_pos (c := ((hoT x.t p q || hoT x.t q p) && decide (x.rank > r)) = true) (by rw [h3, h2]; simp)] at hQ
        exact cIf_pos (hs83_ok rs p q (-1) (-1) x.rank) (two _ _ _ _ _ hQ)
      · rw [if_neg (c := ((hoT x.t p q || hoT x.t q p) && decide (x.rank > r)) = true) (by rw [h2]; simp)] at hQ
        exact cIf_pos (hs83_ok rs p q v w r) (two _ _ _ _ _ hQ)
      · rw [if_neg (c := ((hoT x.t p q || hoT x.t q p) && decide (x.rank > r)) = true) (by rw [h1, h3]; simp)] at hQ
        exact cIf_pos (hs83_ok rs p q v w r) (two _ _ _ _ _ hQ)
end
theorem dvR_eq (rs : List Rul) (p q : Prf) : dvR (encRs rs) (encP p) (encP q) = decR (rkR rs) (thR rs p q) (thR rs q p) (List.range rs.length) (-1) (-1) 0 := by
  unfold dvR on3
  rw [onEnc_eq encRs_inj, onEnc_eq encP_inj, onEnc_eq encP_inj]
theorem ct83 : Ct Tryz.B.c0 83 R83 := Ct.of_wp (l := [(82, R82)]) (lm := lm83) (tp := []) (ct := [9, 11, 13, 15]) (sm := [(3, 5), (9, 6), (11, 5), (13, 5), (15, 5)]) Tryz.bok c83 ⟨_, _, Tryz.func83, rfl⟩ fun args D r hR hD => by
  unfold R83 at hR
  split at hR <;> cases hR
  obtain ⟨⟨rs, rfl, rfl, hrs⟩, ⟨p, rfl⟩, q, rfl⟩ := hD
  refine ⟨by simp [noHL, noH, noH_encRs, noH_encP], ?_⟩
  rw [show scrubL 0 [AV.agg [.vs (encRs rs) rs.length .none], .agg (encP p), .agg (encP q)] = [AV.agg [.vs (encRs rs) rs.length .none], .agg (encP p), .agg (encP q)] by simp [scrubL, scrub, sc_encRs, Tok.scrub, sc_encP], dvR_eq]
  show wpF Tryz.X83 83 _ _
  rw [v83]
  exact cIf_pos (hs83_ok rs p q (-1) (-1) 0) (loop83 hrs rs.length 0 (-1) (-1) 0 (by omega) (by omega) rfl)
end Go.Proofs
/-! C23 -/
set_option maxRecDepth 100000
set_option linter.unusedVariables false
namespace Go.Proofs
open Go Go.Ev
theorem rankL_sorted (rs : List Rul) : (rankL rs).Pairwise (fun j i => rkR rs i < rkR rs j ∨ rkR rs j = rkR rs i ∧ j < i) := by
  have h : SO (fun j i => rkR rs i < rkR rs j ∨ rkR rs j = rkR rs i ∧ j < i) (rankL rs) 0 rs.length :=
    stab_sorted (ltR rs) (fun j i => rkR rs i < rkR rs j ∨ rkR rs j = rkR rs i ∧ j < i) (fun h1 h2 => by omega) (fun h1 h2 => by omega)
      (fun {u v} h => ⟨fun h1 => by simp only [ltR, decide_eq_true_eq] at h1; omega, fun h1 => by simp only [ltR, decide_eq_false_iff_not] at h1; omega⟩)
      (by simp) (fun x hx => range_get hx)
  rw [List.pairwise_iff_getElem]
  intro i j hi hj hij
  have := h i j (Nat.zero_le _) hij (by rw [rankL_len] at hj; exact hj)
  simpa [gN, List.getD_eq_getElem?_getD, hi, hj] using this
theorem dec_same {rs : List Rul} (hrs : okRs rs) (p q : Prf) : decV rs p q = ((decR (rkR rs) (thR rs p q) (thR rs q p) (List.range rs.length) (-1) (-1) 0).1, (decR (rkR rs) (thR rs p q) (thR rs q p) (List.range rs.length) (-1) (-1) 0).2.1) :=
  dec_eq (rkR rs) (thR rs p q) (thR rs q p) (fun i => by
    unfold rkR
    cases hx : rs[i]? with
    | none => decide
    | some x => have := (hrs.2.2 x (List.mem_of_getElem? hx)).1; show 0 < x.rank; omega) (rankL_perm rs) (rankL_sorted rs)
end Go.Proofs
