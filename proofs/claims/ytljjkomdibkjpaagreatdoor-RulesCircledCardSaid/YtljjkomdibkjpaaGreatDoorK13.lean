/- Contracts of functions of the program and of the reference. -/
import Derived.Test.YtljjkomdibkjpaaGreatDoorK12
set_option linter.unusedVariables false
set_option linter.unusedSimpArgs false
/-! VC27 -/
set_option maxRecDepth 100000
set_option linter.unusedVariables false
namespace Go.Proofs
open Go Go.Ev
def enc3 (x : Prf × Prf × Prf) : List AV := encP x.1 ++ encP x.2.1 ++ encP x.2.2
/-- A goes before b: Decide's word. -/
def gB (rs : List Rul) (a b : Prf) : Bool := (verdE rs a b).2.2.2 == 0 && (verdE rs a b).1 == 1
def goesE (rs : List Rul) (x : Prf × Prf × Prf) : Bool := gB rs x.1 x.2.1 && gB rs x.2.1 x.2.2 && gB rs x.2.2 x.1
noncomputable def goD (l c : List AV) : Bool := onEnc encRs (fun rs => onEnc enc3 (goesE rs) false c) false l
noncomputable def R39 : Spc := fun args => match args with
  | [.agg [.vs l len .none], .vs c n _] => some ((∃ rs, l = encRs rs ∧ len = rs.length ∧ wfRs rs) ∧ (∃ x, c = enc3 x) ∧ n = 3, rB (goD l c))
  | _ => none
def lm39 : List (Nat × List Nat) := [(2, [1, 2, 9, 10]), (7, [1, 2, 9, 10]), (8, [])]
noncomputable def Tryz.X39 : WCx := Tryz.B.wcx [(28, R28)] lm39 [] [] [(2, 1)]
def keyP (p : Prf) : Int := 24 * p.cl + 8 * p.vi + (if p.ho then 4 else 0) + (if p.de then 2 else 0) + (if p.mo then 1 else 0)
def smP (p : Prf) : Prop := 0 ≤ p.cl ∧ p.cl ≤ 10 ∧ 0 ≤ p.vi ∧ p.vi ≤ 10
noncomputable def R84 : Spc := fun args => match args with
  | [.agg a] => some (∃ p, a = encP p ∧ smP p, rI (onEnc encP keyP 0 a))
  | _ => none
noncomputable def Tryz.X84 : WCx := Tryz.B.wcx []
def ahE (x y : Prf × Prf × Prf) : Bool := if keyP x.1 ≠ keyP y.1 then decide (keyP x.1 < keyP y.1) else if keyP x.2.1 ≠ keyP y.2.1 then decide (keyP x.2.1 < keyP y.2.1) else if keyP x.2.2 ≠ keyP y.2.2 then decide (keyP x.2.2 < keyP y.2.2) else false
def sm3 (x : Prf × Prf × Prf) : Prop := smP x.1 ∧ smP x.2.1 ∧ smP x.2.2
noncomputable def R40 : Spc := fun args => match args with
  | [.vs a n _, .vs b m _] => some ((∃ x, a = enc3 x ∧ sm3 x) ∧ (∃ x, b = enc3 x ∧ sm3 x) ∧ n = 3 ∧ m = 3, rB (onEnc enc3 (fun x => onEnc enc3 (ahE x) false b) false a))
  | _ => none
def lm40 : List (Nat × List Nat) := [(2, [0, 1, 7, 8]), (6, [0, 1, 7, 8]), (7, [])]
noncomputable def Tryz.X40 : WCx := Tryz.B.wcx [(84, R84)] lm40
def R10 : Spc := fun args => match args with
  | [.agg [.vs l len .none], .int .u8 a, .int .u8 b, .int .u8 c] => some ((∃ rs, l = encRs rs ∧ len = rs.length ∧ wfRs rs) ∧ (0 ≤ a ∧ a ≤ 255) ∧ (0 ≤ b ∧ b ≤ 255) ∧ (0 ≤ c ∧ c ≤ 255), rB true)
  | _ => none
noncomputable def Tryz.X10 (pl : List AV) : WCx := Tryz.B.wcx [(20, R20), (24, R24), (35, R35), (38, RPl pl), (39, R39), (40, R40)]
theorem v84 (p : Prf) (Q : CR → Prop) : wpF Tryz.X84 84 [.agg (encP p)] Q =
  (cIf p.ho (cIf p.de (cIf p.mo (Q (CR.ret (I (IntKind.i64.wrap (IntKind.i64.wrap (IntKind.i64.wrap (IntKind.i64.wrap (IntKind.i64.wrap ((24 : Int) * p.cl) + IntKind.i64.wrap ((8 : Int) * p.vi)) + (4 : Int)) + (2 : Int)) + (1 : Int)))))) (Q (CR.ret (I (IntKind.i64.wrap (IntKind.i64.wrap (IntKind.i64.wrap (IntKind.i64.wrap ((24 : Int) * p.cl) + IntKind.i64.wrap ((8 : Int) * p.vi)) + (4 : Int)) + (2 : Int))))))) (cIf p.mo (Q (CR.ret (I (IntKind.i64.wrap (IntKind.i64.wrap (IntKind.i64.wrap (IntKind.i64.wrap ((24 : Int) * p.cl) + IntKind.i64.wrap ((8 : Int) * p.vi)) + (4 : Int)) + (1 : Int)))))) (Q (CR.ret (I (IntKind.i64.wrap (IntKind.i64.wrap (IntKind.i64.wrap ((24 : Int) * p.cl) + IntKind.i64.wrap ((8 : Int) * p.vi)) + (4 : Int)))))))) (cIf p.de (cIf p.mo (Q (CR.ret (I (IntKind.i64.wrap (IntKind.i64.wrap (IntKind.i64.wrap (IntKind.i64.wrap ((24 : Int) * p.cl) + IntKind.i64.wrap ((8 : Int) * p.vi)) + (2 : Int)) + (1 : Int)))))) (Q (CR.ret (I (IntKind.i64.wrap (IntKind.i64.wrap (IntKind.i64.wrap ((24 : Int) * p.cl) + IntKind.i64.wrap ((8 : Int) * p.vi)) + (2 : Int))))))) (cIf p.mo (Q (CR.ret (I (IntKind.i64.wrap (IntKind.i64.wrap (IntKind.i64.wrap ((24 : Int) * p.cl) + IntKind.i64.wrap ((8 : Int) * p.vi)) + (1 : Int)))))) (Q (CR.ret (I (IntKind.i64.wrap (IntKind.i64.wrap ((24 : Int) * p.cl) + IntKind.i64.wrap ((8 : Int) * p.vi))))))))) := by kernel_rfl
theorem v39 (l : List AV) (len : Nat) (p q s : Prf) (tk : Tok) (Q : CR → Prop) : wpF Tryz.X39 39 [.agg [.vs l len .none], .vs (encP p ++ encP q ++ encP s) 3 tk] Q =
  (cIf ([some (HB.cells [AV.vs l len Tok.none] 25)].all (okBlk 1)) (WLoop Tryz.X39 (cd Tryz.X39.P 39 [1, 0, 1, 0, 0]) ([X, AV.vs (encP p ++ encP q ++ encP s) 3 tk, AV.ptr 0 0, X, X, X, X, X, X, I (3 : Int), I (0 : Int)] ++ List.replicate 27 X) (St.mk [some (HB.cells [AV.vs l len Tok.none] 25)] [] []) (kBlock 0 (kSeq Tryz.X39 (cd Tryz.X39.P 39 [1, 1]) (kRet Tryz.X39 39 Q)))) False) := by kernel_rfl
theorem v39l0 (l : List AV) (len : Nat) (p q s : Prf) (tk : Tok) (Q : CR → Prop) : wpC Tryz.X39 (cd PP 39 [1, 0, 1, 0, 0]) ([X, .vs (encP p ++ encP q ++ encP s) 3 tk, .ptr 0 0, X, X, X, X, X, X, I 3, I 0] ++ List.replicate 27 X) ⟨[some (.cells [.vs l len .none] 25)], [], []⟩ (kLoop Tryz.X39 (cd PP 39 [1, 0, 1, 0, 0]) (kBlock 0 (kSeq Tryz.X39 (cd PP 39 [1, 1]) (kRet Tryz.X39 39 Q)))) =
  (cIf (noHL [some (HB.cells [AV.vs l len Tok.none] 25)].length ([] ++ [AV.agg [AV.vs l len Tok.none], AV.agg (encP p), AV.agg (encP q)] ++ [])) (((∃ (rs : List Rul), l = encRs rs ∧ len = rs.length ∧ wfRs rs) ∧ (∃ (p_1 : Prf), (encP p) = encP p_1) ∧ ∃ (q_1 : Prf), (encP q) = encP q_1) ∧ St.mk [some (HB.cells [AV.vs l len Tok.none] 25)] [] [] = St.mk [some (HB.cells [AV.vs l len Tok.none] 25)] [] [] ∧ cIf ((dvD l (encP p) (encP q)).snd.snd.snd != (0 : Int)) (Q (CR.ret (Bo false))) (cIf ((dvD l (encP p) (encP q)).fst != (1 : Int)) (Q (CR.ret (Bo false))) (cIf ([some (HB.cells [AV.vs l len Tok.none] 25)].all (okBlk 1)) (WLoop Tryz.X39 (cd PP 39 [1, 0, 1, 0, 0]) ([X, AV.vs (encP p ++ encP q ++ encP s) 3 tk, AV.ptr 0 0, X, X, X, X, X, X, I (3 : Int), I (1 : Int)] ++ List.replicate 27 X) (St.mk [some (HB.cells [AV.vs l len Tok.none] 25)] [] []) (kBlock 0 (kSeq Tryz.X39 (cd PP 39 [1, 1]) (kRet Tryz.X39 39 Q)))) False))) False) := by kernel_rfl
theorem v39l1 (l : List AV) (len : Nat) (p q s : Prf) (tk : Tok) (Q : CR → Prop) : wpC Tryz.X39 (cd PP 39 [1, 0, 1, 0, 0]) ([X, .vs (encP p ++ encP q ++ encP s) 3 tk, .ptr 0 0, X, X, X, X, X, X, I 3, I 1] ++ List.replicate 27 X) ⟨[some (.cells [.vs l len .none] 25)], [], []⟩ (kLoop Tryz.X39 (cd PP 39 [1, 0, 1, 0, 0]) (kBlock 0 (kSeq Tryz.X39 (cd PP 39 [1, 1]) (kRet Tryz.X39 39 Q)))) =
  (cIf (noHL [some (HB.cells [AV.vs l len Tok.none] 25)].length ([] ++ [AV.agg [AV.vs l len Tok.none], AV.agg (encP q), AV.agg (encP s)] ++ [])) (((∃ (rs : List Rul), l = encRs rs ∧ len = rs.length ∧ wfRs rs) ∧ (∃ (p : Prf), (encP q) = encP p) ∧ ∃ (q : Prf), (encP s) = encP q) ∧ St.mk [some (HB.cells [AV.vs l len Tok.none] 25)] [] [] = St.mk [some (HB.cells [AV.vs l len Tok.none] 25)] [] [] ∧ cIf ((dvD l (encP q) (encP s)).snd.snd.snd != (0 : Int)) (Q (CR.ret (Bo false))) (cIf ((dvD l (encP q) (encP s)).fst != (1 : Int)) (Q (CR.ret (Bo false))) (cIf ([some (HB.cells [AV.vs l len Tok.none] 25)].all (okBlk 1)) (WLoop Tryz.X39 (cd PP 39 [1, 0, 1, 0, 0]) ([X, AV.vs (encP p ++ encP q ++ encP s) 3 tk, AV.ptr 0 0, X, X, X, X, X, X, I (3 : Int), I (2 : Int)] ++ List.replicate 27 X) (St.mk [some (HB.cells [AV.vs l len Tok.none] 25)] [] []) (kBlock 0 (kSeq Tryz.X39 (cd PP 39 [1, 1]) (kRet Tryz.X39 39 Q)))) False))) False) := by kernel_rfl
theorem v39l2 (l : List AV) (len : Nat) (p q s : Prf) (tk : Tok) (Q : CR → Prop) : wpC Tryz.X39 (cd PP 39 [1, 0, 1, 0, 0]) ([X, .vs (encP p ++ encP q ++ encP s) 3 tk, .ptr 0 0, X, X, X, X, X, X, I 3, I 2] ++ List.replicate 27 X) ⟨[some (.cells [.vs l len .none] 25)], [], []⟩ (kLoop Tryz.X39 (cd PP 39 [1, 0, 1, 0, 0]) (kBlock 0 (kSeq Tryz.X39 (cd PP 39 [1, 1]) (kRet Tryz.X39 39 Q)))) =
  (cIf (noHL [some (HB.cells [AV.vs l len Tok.none] 25)].length ([] ++ [AV.agg [AV.vs l len Tok.none], AV.agg (encP s), AV.agg (encP p)] ++ [])) (((∃ (rs : List Rul), l = encRs rs ∧ len = rs.length ∧ wfRs rs) ∧ (∃ (p : Prf), (encP s) = encP p) ∧ ∃ (q_1 : Prf), (encP p) = encP q_1) ∧ St.mk [some (HB.cells [AV.vs l len Tok.none] 25)] [] [] = St.mk [some (HB.cells [AV.vs l len Tok.none] 25)] [] [] ∧ cIf ((dvD l (encP s) (encP p)).snd.snd.snd != (0 : Int)) (Q (CR.ret (Bo false))) (cIf ((dvD l (encP s) (encP p)).fst != (1 : Int)) (Q (CR.ret (Bo false))) (cIf ([some (HB.cells [AV.vs l len Tok.none] 25)].all (okBlk 1)) (WLoop Tryz.X39 (cd PP 39 [1, 0, 1, 0, 0]) ([X, AV.vs (encP p ++ encP q ++ encP s) 3 tk, AV.ptr 0 0, X, X, X, X, X, X, I (3 : Int), I (3 : Int)] ++ List.replicate 27 X) (St.mk [some (HB.cells [AV.vs l len Tok.none] 25)] [] []) (kBlock 0 (kSeq Tryz.X39 (cd PP 39 [1, 1]) (kRet Tryz.X39 39 Q)))) False))) False) := by kernel_rfl
theorem v39l3 (l : List AV) (len : Nat) (p q s : Prf) (tk : Tok) (Q : CR → Prop) : wpC Tryz.X39 (cd PP 39 [1, 0, 1, 0, 0]) ([X, .vs (encP p ++ encP q ++ encP s) 3 tk, .ptr 0 0, X, X, X, X, X, X, I 3, I 3] ++ List.replicate 27 X) ⟨[some (.cells [.vs l len .none] 25)], [], []⟩ (kLoop Tryz.X39 (cd PP 39 [1, 0, 1, 0, 0]) (kBlock 0 (kSeq Tryz.X39 (cd PP 39 [1, 1]) (kRet Tryz.X39 39 Q)))) =
  (Q (CR.ret (Bo true))) := by kernel_rfl
theorem v40 (p q s p1 q1 s1 : Prf) (ta tb : Tok) (Q : CR → Prop) : wpF Tryz.X40 40 [.vs (encP p ++ encP q ++ encP s) 3 ta, .vs (encP p1 ++ encP q1 ++ encP s1) 3 tb] Q =
  (WLoop Tryz.X40 (cd Tryz.X40.P 40 [1, 0, 1, 0, 0]) ([AV.vs (encP p ++ encP q ++ encP s) 3 ta, AV.vs (encP p1 ++ encP q1 ++ encP s1) 3 tb, X, X, X, X, X, I (3 : Int), I (0 : Int)] ++ List.replicate 25 X) (St.mk [] [] []) (kBlock 0 (kSeq Tryz.X40 (cd Tryz.X40.P 40 [1, 1]) (kRet Tryz.X40 40 Q)))) := by kernel_rfl
theorem v40l0 (p q s p1 q1 s1 : Prf) (ta tb : Tok) (Q : CR → Prop) : wpC Tryz.X40 (cd PP 40 [1, 0, 1, 0, 0]) ([.vs (encP p ++ encP q ++ encP s) 3 ta, .vs (encP p1 ++ encP q1 ++ encP s1) 3 tb, X, X, X, X, X, I 3, I 0] ++ List.replicate 25 X) ⟨[], [], []⟩ (kLoop Tryz.X40 (cd PP 40 [1, 0, 1, 0, 0]) (kBlock 0 (kSeq Tryz.X40 (cd PP 40 [1, 1]) (kRet Tryz.X40 40 Q)))) =
  ((∃ (p_1 : Prf), (encP p) = encP p_1 ∧ smP p_1) ∧ St.mk [] [] [] = St.mk [] [] [] ∧ (∃ (p : Prf), (encP p1) = encP p ∧ smP p) ∧ St.mk [] [] [] = St.mk [] [] [] ∧ cIf (onEnc encP keyP (0 : Int) (encP p) != onEnc encP keyP (0 : Int) (encP p1)) ((∃ (p_1 : Prf), (encP p) = encP p_1 ∧ smP p_1) ∧ St.mk [] [] [] = St.mk [] [] [] ∧ (∃ (p : Prf), (encP p1) = encP p ∧ smP p) ∧ St.mk [] [] [] = St.mk [] [] [] ∧ Q (CR.ret (Bo (decide (onEnc encP keyP (0 : Int) (encP p) < onEnc encP keyP (0 : Int) (encP p1)))))) (WLoop Tryz.X40 (cd PP 40 [1, 0, 1, 0, 0]) ([AV.vs (encP p ++ encP q ++ encP s) 3 ta, AV.vs (encP p1 ++ encP q1 ++ encP s1) 3 tb, X, X, X, X, X, I (3 : Int), I (1 : Int)] ++ List.replicate 25 X) (St.mk [] [] []) (kBlock 0 (kSeq Tryz.X40 (cd PP 40 [1, 1]) (kRet Tryz.X40 40 Q))))) := by kernel_rfl
theorem v40l1 (p q s p1 q1 s1 : Prf) (ta tb : Tok) (Q : CR → Prop) : wpC Tryz.X40 (cd PP 40 [1, 0, 1, 0, 0]) ([.vs (encP p ++ encP q ++ encP s) 3 ta, .vs (encP p1 ++ encP q1 ++ encP s1) 3 tb, X, X, X, X, X, I 3, I 1] ++ List.replicate 25 X) ⟨[], [], []⟩ (kLoop Tryz.X40 (cd PP 40 [1, 0, 1, 0, 0]) (kBlock 0 (kSeq Tryz.X40 (cd PP 40 [1, 1]) (kRet Tryz.X40 40 Q)))) =
  ((∃ (p : Prf), (encP q) = encP p ∧ smP p) ∧ St.mk [] [] [] = St.mk [] [] [] ∧ (∃ (p : Prf), (encP q1) = encP p ∧ smP p) ∧ St.mk [] [] [] = St.mk [] [] [] ∧ cIf (onEnc encP keyP (0 : Int) (encP q) != onEnc encP keyP (0 : Int) (encP q1)) ((∃ (p : Prf), (encP q) = encP p ∧ smP p) ∧ St.mk [] [] [] = St.mk [] [] [] ∧ (∃ (p : Prf), (encP q1) = encP p ∧ smP p) ∧ St.mk [] [] [] = St.mk [] [] [] ∧ Q (CR.ret (Bo (decide (onEnc encP keyP (0 : Int) (encP q) < onEnc encP keyP (0 : Int) (encP q1)))))) (WLoop Tryz.X40 (cd PP 40 [1, 0, 1, 0, 0]) ([AV.vs (encP p ++ encP q ++ encP s) 3 ta, AV.vs (encP p1 ++ encP q1 ++ encP s1) 3 tb, X, X, X, X, X, I (3 : Int), I (2 : Int)] ++ List.replicate 25 X) (St.mk [] [] []) (kBlock 0 (kSeq Tryz.X40 (cd PP 40 [1, 1]) (kRet Tryz.X40 40 Q))))) := by kernel_rfl
theorem v40l2 (p q s p1 q1 s1 : Prf) (ta tb : Tok) (Q : CR → Prop) : wpC Tryz.X40 (cd PP 40 [1, 0, 1, 0, 0]) ([.vs (encP p ++ encP q ++ encP s) 3 ta, .vs (encP p1 ++ encP q1 ++ encP s1) 3 tb, X, X, X, X, X, I 3, I 2] ++ List.replicate 25 X) ⟨[], [], []⟩ (kLoop Tryz.X40 (cd PP 40 [1, 0, 1, 0, 0]) (kBlock 0 (kSeq Tryz.X40 (cd PP 40 [1, 1]) (kRet Tryz.X40 40 Q)))) =
  ((∃ (p : Prf), (encP s) = encP p ∧ smP p) ∧ St.mk [] [] [] = St.mk [] [] [] ∧ (∃ (p : Prf), (encP s1) = encP p ∧ smP p) ∧ St.mk [] [] [] = St.mk [] [] [] ∧ cIf (onEnc encP keyP (0 : Int) (encP s) != onEnc encP keyP (0 : Int) (encP s1)) ((∃ (p : Prf), (encP s) = encP p ∧ smP p) ∧ St.mk [] [] [] = St.mk [] [] [] ∧ (∃ (p : Prf), (encP s1) = encP p ∧ smP p) ∧ St.mk [] [] [] = St.mk [] [] [] ∧ Q (CR.ret (Bo (decide (onEnc encP keyP (0 : Int) (encP s) < onEnc encP keyP (0 : Int) (encP s1)))))) (WLoop Tryz.X40 (cd PP 40 [1, 0, 1, 0, 0]) ([AV.vs (encP p ++ encP q ++ encP s) 3 ta, AV.vs (encP p1 ++ encP q1 ++ encP s1) 3 tb, X, X, X, X, X, I (3 : Int), I (3 : Int)] ++ List.replicate 25 X) (St.mk [] [] []) (kBlock 0 (kSeq Tryz.X40 (cd PP 40 [1, 1]) (kRet Tryz.X40 40 Q))))) := by kernel_rfl
theorem v40l3 (p q s p1 q1 s1 : Prf) (ta tb : Tok) (Q : CR → Prop) : wpC Tryz.X40 (cd PP 40 [1, 0, 1, 0, 0]) ([.vs (encP p ++ encP q ++ encP s) 3 ta, .vs (encP p1 ++ encP q1 ++ encP s1) 3 tb, X, X, X, X, X, I 3, I 3] ++ List.replicate 25 X) ⟨[], [], []⟩ (kLoop Tryz.X40 (cd PP 40 [1, 0, 1, 0, 0]) (kBlock 0 (kSeq Tryz.X40 (cd PP 40 [1, 1]) (kRet Tryz.X40 40 Q)))) =
  (Q (CR.ret (Bo false))) := by kernel_rfl
theorem v10 (pl l : List AV) (len : Nat) (a b c : Int) (Q : CR → Prop) : wpF (Tryz.X10 pl) 10 [.agg [.vs l len .none], .int .u8 a, .int .u8 b, .int .u8 c] Q =
  ((∃ (rs : List Rul), l = encRs rs ∧ len = rs.length ∧ wfRs rs ∧ (0 : Int) ≤ (40 : Int) ∧ (40 : Int) ≤ (1000 : Int)) ∧ cIf (!onEnc encRs (fewB (40 : Int)) false l) (True ∧ Q (CR.ret (Bo true))) ((∃ (rs : List Rul), l = encRs rs ∧ len = rs.length ∧ wfRs rs) ∧ True ∧ cIf ((circE l).snd.snd != (0 : Int)) (True ∧ cIf ((circE l).snd.snd != (0 : Int)) (Q (CR.ret (Bo ((↑(circE l).fst.length : Int) == (0 : Int))))) (Q (CR.ret (Bo false)))) (cIf (decide ((0 : Int) ≤ a.tmod (120 : Int))) (cIf (decide ((a.tmod (120 : Int)).toNat < 120)) (cIf (decide (840 = pl.length)) (cIf (decide (7 ≤ (List.drop ((a.tmod (120 : Int)).toNat * 7) pl).length)) (cIf (like zP (el (List.drop ((a.tmod (120 : Int)).toNat * 7) pl) 0 7)) (cIf (decide ((0 : Int) ≤ b.tmod (120 : Int))) (cIf (decide ((b.tmod (120 : Int)).toNat < 120)) (cIf (decide (840 = pl.length)) (cIf (decide (7 ≤ (List.drop ((b.tmod (120 : Int)).toNat * 7) pl).length)) (cIf (like zP (el (List.drop ((b.tmod (120 : Int)).toNat * 7) pl) 0 7)) (cIf (decide ((0 : Int) ≤ c.tmod (120 : Int))) (cIf (decide ((c.tmod (120 : Int)).toNat < 120)) (cIf (decide (840 = pl.length)) (cIf (decide (7 ≤ (List.drop ((c.tmod (120 : Int)).toNat * 7) pl).length)) (cIf (like zP (el (List.drop ((c.tmod (120 : Int)).toNat * 7) pl) 0 7)) (((∃ (rs : List Rul), l = encRs rs ∧ len = rs.length ∧ wfRs rs) ∧ (∃ (x : Prf × Prf × Prf), (elP (el (List.drop ((a.tmod (120 : Int)).toNat * 7) pl) 0 7) ++ elP (el (List.drop ((b.tmod (120 : Int)).toNat * 7) pl) 0 7) ++ elP (el (List.drop ((c.tmod (120 : Int)).toNat * 7) pl) 0 7)) = enc3 x) ∧ 3 = 3) ∧ cIf (!(circE l).snd.fst) (True ∧ cIf (!goD l (elP (el (List.drop ((a.tmod (120 : Int)).toNat * 7) pl) 0 7) ++ elP (el (List.drop ((b.tmod (120 : Int)).toNat * 7) pl) 0 7) ++ elP (el (List.drop ((c.tmod (120 : Int)).toNat * 7) pl) 0 7))) (Q (CR.ret (Bo ((↑(circE l).fst.length : Int) == (0 : Int))))) (Q (CR.ret (Bo false)))) (True ∧ cIf ((↑(circE l).fst.length : Int) == (3 : Int)) (((∃ (rs : List Rul), l = encRs rs ∧ len = rs.length ∧ wfRs rs) ∧ (∃ (x : Prf × Prf × Prf), encPs (circE l).fst = enc3 x) ∧ (circE l).fst.length = 3) ∧ cIf (goD l (encPs (circE l).fst)) (cIf (!goD l (elP (el (List.drop ((a.tmod (120 : Int)).toNat * 7) pl) 0 7) ++ elP (el (List.drop ((b.tmod (120 : Int)).toNat * 7) pl) 0 7) ++ elP (el (List.drop ((c.tmod (120 : Int)).toNat * 7) pl) 0 7))) (Q (CR.ret (Bo true))) (((∃ (x : Prf × Prf × Prf), (elP (el (List.drop ((a.tmod (120 : Int)).toNat * 7) pl) 0 7) ++ elP (el (List.drop ((b.tmod (120 : Int)).toNat * 7) pl) 0 7) ++ elP (el (List.drop ((c.tmod (120 : Int)).toNat * 7) pl) 0 7)) = enc3 x ∧ sm3 x) ∧ (∃ (x : Prf × Prf × Prf), encPs (circE l).fst = enc3 x ∧ sm3 x) ∧ 3 = 3 ∧ (circE l).fst.length = 3) ∧ Q (CR.ret (Bo !onEnc enc3 (fun (x : Prf × Prf × Prf) => onEnc enc3 (ahE x) false (encPs (circE l).fst)) false (elP (el (List.drop ((a.tmod (120 : Int)).toNat * 7) pl) 0 7) ++ elP (el (List.drop ((b.tmod (120 : Int)).toNat * 7) pl) 0 7) ++ elP (el (List.drop ((c.tmod (120 : Int)).toNat * 7) pl) 0 7)))))) (Q (CR.ret (Bo false)))) (Q (CR.ret (Bo false))))) False) False) False) False) False) False) False) False) False) False) False) False) False) False) False))) := by kernel_rfl
end Go.Proofs
/-! C27 -/
set_option maxRecDepth 100000
set_option linter.unusedVariables false
namespace Go.Proofs
open Go Go.Ev
theorem enc3_inj : ∀ a b : Prf × Prf × Prf, enc3 a = enc3 b → a = b := by
  intro a b h
  have h1 : encP a.1 ++ (encP a.2.1 ++ encP a.2.2) = encP b.1 ++ (encP b.2.1 ++ encP b.2.2) := by
    have : encP a.1 ++ encP a.2.1 ++ encP a.2.2 = encP b.1 ++ encP b.2.1 ++ encP b.2.2 := h
    rwa [List.append_assoc, List.append_assoc] at this
  obtain ⟨h2, h3⟩ := List.append_inj h1 (by rw [encP_len, encP_len])
  obtain ⟨h4, h5⟩ := List.append_inj h3 (by rw [encP_len, encP_len])
  exact Prod.ext (encP_inj _ _ h2) (Prod.ext (encP_inj _ _ h4) (encP_inj _ _ h5))
theorem noH_enc3 (n : Nat) (x : Prf × Prf × Prf) : noHL n (enc3 x) = true := by simp [enc3, noHL_append, noH_encP]
theorem sc_enc3 (x : Prf × Prf × Prf) : scrubL 0 (enc3 x) = enc3 x := by simp [enc3, scrubL_append, sc_encP]
/-! key -/
theorem qI {Q : CR → Prop} {x y : Int} (h : x = y) (hQ : Q (.ret (I y))) : Q (.ret (I x)) := h ▸ hQ
theorem w4 {x : Int} (h : 0 ≤ x ∧ x ≤ 1000) : IntKind.i64.wrap x = x := wrap_id (by omega) (by omega)
theorem key0 {p : Prf} (h : smP p) : IntKind.i64.wrap (IntKind.i64.wrap ((24 : Int) * p.cl) + IntKind.i64.wrap ((8 : Int) * p.vi)) = 24 * p.cl + 8 * p.vi := by
  obtain ⟨h1, h2, h3, h4⟩ := h
  rw [w4 (x := 24 * p.cl) (by omega), w4 (x := 8 * p.vi) (by omega), w4 (by omega)]
theorem keyb {p : Prf} (h : smP p) : 0 ≤ 24 * p.cl + 8 * p.vi ∧ 24 * p.cl + 8 * p.vi ≤ 400 := by
  obtain ⟨h1, h2, h3, h4⟩ := h
  omega
theorem w84 {p : Prf} (h : smP p) {Q : CR → Prop} (hQ : Q (rI (keyP p))) : wpF Tryz.X84 84 [.agg (encP p)] Q := by
  have hb := keyb h
  rw [v84, key0 h]
  unfold keyP at hQ
  generalize 24 * p.cl + 8 * p.vi = z at hQ hb
  refine cIf_intro (fun ha => cIf_intro (fun hb' => cIf_intro (fun hc => ?_) (fun hc => ?_)) (fun hb' => cIf_intro (fun hc => ?_) (fun hc => ?_))) (fun ha => cIf_intro (fun hb' => cIf_intro (fun hc => ?_) (fun hc => ?_)) (fun hb' => cIf_intro (fun hc => ?_) (fun hc => ?_)))
  · rw [ha, hb', hc] at hQ
    rw [w4 (x := z + 4) (by omega), w4 (x := z + 4 + 2) (by omega), w4 (x := z + 4 + 2 + 1) (by omega)]
    exact qI (by simp) hQ
  · rw [ha, hb', hc] at hQ
    rw [w4 (x := z + 4) (by omega), w4 (x := z + 4 + 2) (by omega)]
    exact qI (by simp) hQ
  · rw [ha, hb', hc] at hQ
    rw [w4 (x := z + 4) (by omega), w4 (x := z + 4 + 1) (by omega)]
    exact qI (by simp) hQ
  · rw [ha, hb', hc] at hQ
    rw [w4 (x := z + 4) (by omega)]
    exact qI (by simp) hQ
  · rw [ha, hb', hc] at hQ
    rw [w4 (x := z + 2) (by omega), w4 (x := z + 2 + 1) (by omega)]
    exact qI (by simp) hQ
  · rw [ha, hb', hc] at hQ
    rw [w4 (x := z + 2) (by omega)]
    exact qI (by simp) hQ
  · rw [ha, hb', hc] at hQ
    rw [w4 (x := z + 1) (by omega)]
    exact qI (by simp) hQ
  · rw [ha, hb', hc] at hQ
    exact qI (by simp) hQ
theorem ct84 : Ct Tryz.B.c0 84 R84 := Ct.of_wp (l := []) (lm := []) Tryz.bok (Cts.nil _) ⟨_, _, Tryz.func84, rfl⟩ fun args D r hR hD => by
  unfold R84 at hR
  split at hR <;> cases hR
  obtain ⟨p, rfl, hp⟩ := hD
  refine ⟨by simp [noHL, noH, noH_encP], ?_⟩
  rw [show scrubL 0 [AV.agg (encP p)] = [AV.agg (encP p)] by simp [scrubL, scrub, sc_encP], onEnc_eq encP_inj]
  exact w84 hp rfl
/-! goes -/
theorem c39 : Cts Tryz.B [(28, R28)] := (Cts.nil _).cons ct28
theorem goes_step {Q : CR → Prop} {e k : Int} {rest B : Bool} {N : Prop} (hB : B = true) (hQ : Q (.ret (Bo ((e == 0 && k == 1) && rest)))) (hN : Q (.ret (Bo rest)) → N) : cIf (e != (0 : Int)) (Q (.ret (Bo false))) (cIf (k != (1 : Int)) (Q (.ret (Bo false))) (cIf B N False)) := by
  refine cIf_intro (fun h => ?_) (fun h => cIf_intro (fun h2 => ?_) (fun h2 => cIf_pos hB (hN ?_)))
  · have h : (e == 0) = false := by simpa using h
    rw [h] at hQ; exact hQ
  · have h2 : (k == 1) = false := by simpa using h2
    rw [h2, Bool.and_false, Bool.false_and] at hQ; exact hQ
  · have h : (e == 0) = true := by simpa using h
    have h2 : (k == 1) = true := by simpa using h2
    rw [h, h2] at hQ; exact hQ
theorem blk1 (rs : List Rul) : [some (HB.cells [AV.vs (encRs rs) rs.length Tok.none] 25)].all (okBlk 1) = true := by simp [okBlk, noHB, noHL, noH, noH_encRs]
theorem a39 (rs : List Rul) (p q : Prf) (n : Nat) : noHL n ([] ++ [AV.agg [.vs (encRs rs) rs.length .none], .agg (encP p), .agg (encP q)] ++ []) = true := by simp [noHL, noH, noH_encRs, noH_encP]
section
variable {rs : List Rul} (hw : wfRs rs) (p q s : Prf) (tk : Tok) {Q : CR → Prop}
include hw
theorem l39d (a b : Prf) : (∃ rs' : List Rul, encRs rs = encRs rs' ∧ rs.length = rs'.length ∧ wfRs rs') ∧ (∃ x : Prf, encP a = encP x) ∧ ∃ y : Prf, encP b = encP y := ⟨⟨rs, rfl, rfl, hw⟩, ⟨a, rfl⟩, b, rfl⟩
omit hw in
theorem l39z (hQ : Q (.ret (Bo true))) : WLoop Tryz.X39 (cd PP 39 [1, 0, 1, 0, 0]) ([X, .vs (encP p ++ encP q ++ encP s) 3 tk, .ptr 0 0, X, X, X, X, X, X, I 3, I 3] ++ List.replicate 27 X) ⟨[some (.cells [.vs (encRs rs) rs.length .none] 25)], [], []⟩ (kBlock 0 (kSeq Tryz.X39 (cd PP 39 [1, 1]) (kRet Tryz.X39 39 Q))) := by
  refine WLoop_unroll (C := Tryz.X39) (wcx_ones Tryz.bok c39) (wcx_ok Tryz.bok c39) ?_
  rw [v39l3]
  exact hQ
theorem l39c (hQ : Q (.ret (Bo (gB rs s p && true)))) : WLoop Tryz.X39 (cd PP 39 [1, 0, 1, 0, 0]) ([X, .vs (encP p ++ encP q ++ encP s) 3 tk, .ptr 0 0, X, X, X, X, X, X, I 3, I 2] ++ List.replicate 27 X) ⟨[some (.cells [.vs (encRs rs) rs.length .none] 25)], [], []⟩ (kBlock 0 (kSeq Tryz.X39 (cd PP 39 [1, 1]) (kRet Tryz.X39 39 Q))) := by
  refine WLoop_unroll (C := Tryz.X39) (wcx_ones Tryz.bok c39) (wcx_ok Tryz.bok c39) ?_
  rw [v39l2, dvD_eq]
  exact cIf_pos (a39 _ _ _ _) ⟨l39d hw s p, rfl, goes_step (blk1 rs) hQ (l39z p q s tk)⟩
theorem l39b (hQ : Q (.ret (Bo (gB rs q s && (gB rs s p && true))))) : WLoop Tryz.X39 (cd PP 39 [1, 0, 1, 0, 0]) ([X, .vs (encP p ++ encP q ++ encP s) 3 tk, .ptr 0 0, X, X, X, X, X, X, I 3, I 1] ++ List.replicate 27 X) ⟨[some (.cells [.vs (encRs rs) rs.length .none] 25)], [], []⟩ (kBlock 0 (kSeq Tryz.X39 (cd PP 39 [1, 1]) (kRet Tryz.X39 39 Q))) := by
  refine WLoop_unroll (C := Tryz.X39) (wcx_ones Tryz.bok c39) (wcx_ok Tryz.bok c39) ?_
  rw [v39l1, dvD_eq]
  exact cIf_pos (a39 _ _ _ _) ⟨l39d hw q s, rfl, goes_step (blk1 rs) hQ (l39c hw p q s tk)⟩
theorem l39a (hQ : Q (.ret (Bo (gB rs p q && (gB rs q s && (gB rs s p && true)))))) : WLoop Tryz.X39 (cd PP 39 [1, 0, 1, 0, 0]) ([X, .vs (encP p ++ encP q ++ encP s) 3 tk, .ptr 0 0, X, X, X, X, X, X, I 3, I 0] ++ List.replicate 27 X) ⟨[some (.cells [.vs (encRs rs) rs.length .none] 25)], [], []⟩ (kBlock 0 (kSeq Tryz.X39 (cd PP 39 [1, 1]) (kRet Tryz.X39 39 Q))) := by
  refine WLoop_unroll (C := Tryz.X39) (wcx_ones Tryz.bok c39) (wcx_ok Tryz.bok c39) ?_
  rw [v39l0, dvD_eq]
  exact cIf_pos (a39 _ _ _ _) ⟨l39d hw p q, rfl, goes_step (blk1 rs) hQ (l39b hw p q s tk)⟩
theorem w39 (hQ : Q (rB (goesE rs (p, q, s)))) : wpF Tryz.X39 39 [.agg [.vs (encRs rs) rs.length .none], .vs (encP p ++ encP q ++ encP s) 3 tk] Q := by
  have hQ : Q (.ret (Bo (gB rs p q && (gB rs q s && (gB rs s p && true))))) := by
    have : goesE rs (p, q, s) = (gB rs p q && (gB rs q s && (gB rs s p && true))) := by
      show (gB rs p q && gB rs q s && gB rs s p) = _
      rw [Bool.and_true, Bool.and_assoc]
    rw [this] at hQ
    exact hQ
  rw [v39]
  exact cIf_pos (blk1 rs) (l39a hw p q s tk hQ)
end
theorem goD_eq (rs : List Rul) (x : Prf × Prf × Prf) : goD (encRs rs) (enc3 x) = goesE rs x := by
  unfold goD
  rw [onEnc_eq encRs_inj, onEnc_eq enc3_inj]
theorem ct39 : Ct Tryz.B.c0 39 R39 := Ct.of_wp (l := [(28, R28)]) (lm := lm39) (tp := []) (ct := []) (sm := [(2, 1)]) Tryz.bok c39 ⟨_, _, Tryz.func39, rfl⟩ fun args D r hR hD => by
  unfold R39 at hR
  split at hR <;> cases hR
  rename_i l len c n tk
  obtain ⟨⟨rs, rfl, rfl, hw⟩, ⟨x, rfl⟩, rfl⟩ := hD
  refine ⟨by simp [noHL, noH, noH_encRs, noH_enc3], ?_⟩
  rw [show scrubL 0 [AV.agg [.vs (encRs rs) rs.length .none], .vs (enc3 x) 3 tk] = [AV.agg [.vs (encRs rs) rs.length .none], .vs (enc3 x) 3 (tk.scrub 0)] by simp [scrubL, scrub, sc_encRs, Tok.scrub, sc_enc3], goD_eq]
  obtain ⟨p, q, s⟩ := x
  exact w39 hw p q s _ rfl
/-! ahead -/
theorem c40 : Cts Tryz.B [(84, R84)] := (Cts.nil _).cons ct84
theorem w40 {p q s p1 q1 s1 : Prf} (hx : sm3 (p, q, s)) (hy : sm3 (p1, q1, s1)) (ta tb : Tok) {Q : CR → Prop} (hQ : Q (rB (ahE (p, q, s) (p1, q1, s1)))) : wpF Tryz.X40 40 [.vs (encP p ++ encP q ++ encP s) 3 ta, .vs (encP p1 ++ encP q1 ++ encP s1) 3 tb] Q := by
  unfold ahE at hQ
  dsimp only at hQ
  obtain ⟨x1, x2, x3⟩ := hx
  obtain ⟨y1, y2, y3⟩ := hy
  dsimp only at x1 x2 x3 y1 y2 y3
  rw [v40]
  refine WLoop_unroll (C := Tryz.X40) (wcx_ones Tryz.bok c40) (wcx_ok Tryz.bok c40) ?_
  refine (v40l0 p q s p1 q1 s1 ta tb Q).mpr ?_
  rw [onEnc_eq encP_inj, onEnc_eq encP_inj]
  refine ⟨⟨p, rfl, x1⟩, rfl, ⟨p1, rfl, y1⟩, rfl, cIf_intro (fun h => ⟨⟨p, rfl, x1⟩, rfl, ⟨p1, rfl, y1⟩, rfl, ?_⟩) (fun h => ?_)⟩
  · rw [if_pos (by simpa using h)] at hQ; exact hQ
  rw [if_neg (by simpa using h)] at hQ
  refine WLoop_unroll (C := Tryz.X40) (wcx_ones Tryz.bok c40) (wcx_ok Tryz.bok c40) ?_
  refine (v40l1 p q s p1 q1 s1 ta tb Q).mpr ?_
  rw [onEnc_eq encP_inj, onEnc_eq encP_inj]
  refine ⟨⟨q, rfl, x2⟩, rfl, ⟨q1, rfl, y2⟩, rfl, cIf_intro (fun h => ⟨⟨q, rfl, x2⟩, rfl, ⟨q1, rfl, y2⟩, rfl, ?_⟩) (fun h => ?_)⟩
  · rw [if_pos (by simpa using h)] at hQ; exact hQ
  rw [if_neg (by simpa using h)] at hQ
  refine WLoop_unroll (C := Tryz.X40) (wcx_ones Tryz.bok c40) (wcx_ok Tryz.bok c40) ?_
  refine (v40l2 p q s p1 q1 s1 ta tb Q).mpr ?_
  rw [onEnc_eq encP_inj, onEnc_eq encP_inj]
  refine ⟨⟨s, rfl, x3⟩, rfl, ⟨s1, rfl, y3⟩, rfl, cIf_intro (fun h => ⟨⟨s, rfl, x3⟩, rfl, ⟨s1, rfl, y3⟩, rfl, ?_⟩) (fun h => ?_)⟩
  · rw [if_pos (by simpa using h)] at hQ; exact hQ
  rw [if_neg (by simpa using h)] at hQ
  refine WLoop_unroll (C := Tryz.X40) (wcx_ones Tryz.bok c40) (wcx_ok Tryz.bok c40) ?_
  exact (v40l3 p q s p1 q1 s1 ta tb Q).mpr hQ
theorem ct40 : Ct Tryz.B.c0 40 R40 := Ct.of_wp (l := [(84, R84)]) (lm := lm40) (tp := []) (ct := []) (sm := []) Tryz.bok c40 ⟨_, _, Tryz.func40, rfl⟩ fun args D r hR hD => by
  unfold R40 at hR
  split at hR <;> cases hR
  rename_i a n ta b m tb
  obtain ⟨⟨x, rfl, hx⟩, ⟨y, rfl, hy⟩, rfl, rfl⟩ := hD
  refine ⟨by simp [noHL, noH, noH_enc3], ?_⟩
  rw [show scrubL 0 [AV.vs (enc3 x) 3 ta, AV.vs (enc3 y) 3 tb] = [AV.vs (enc3 x) 3 (ta.scrub 0), AV.vs (enc3 y) 3 (tb.scrub 0)] by simp [scrubL, scrub, sc_enc3], onEnc_eq enc3_inj, onEnc_eq enc3_inj]
  obtain ⟨p, q, s⟩ := x
  obtain ⟨p1, q1, s1⟩ := y
  exact w40 hx hy _ _ rfl
end Go.Proofs
/-! C28 -/
set_option maxRecDepth 100000
set_option linter.unusedVariables false
namespace Go.Proofs
open Go Go.Ev
/-! What a search finds is the first. -/
def cnd (B : Nat → Nat → Bool) (i j k : Nat) : Bool := B i j && B j k && B k i
theorem pK_spec {B : Nat → Nat → Bool} {i j : Nat} : ∀ {l : List Nat}, l.Pairwise (· < ·) → (pK B i j l = none → ∀ c ∈ l, cnd B i j c = false) ∧ ∀ x, pK B i j l = some x → cnd B i j x.2.2 = true ∧ ∀ c ∈ l, c < x.2.2 → cnd B i j c = false
  | [], _ => ⟨fun _ c hc => by simp at hc, fun x h => by simp [pK] at h⟩
  | k :: l, hp => by
    rw [List.pairwise_cons] at hp
    obtain ⟨h1, h2⟩ := pK_spec (B := B) (i := i) (j := j) hp.2
    rw [pK]
    by_cases hc : (B i j && B j k && B k i) = true
    · rw [if_pos hc]
      refine ⟨fun h => by simp at h, fun x hx => ?_⟩
      cases hx
      refine ⟨hc, fun c hm hlt => ?_⟩
      rcases List.mem_cons.1 hm with rfl | hm
      · exact absurd hlt (Nat.lt_irrefl _)
      · exact absurd (hp.1 c hm) (Nat.lt_asymm hlt)
    · rw [if_neg hc]
      have hk : cnd B i j k = false := by simpa [cnd] using hc
      refine ⟨fun h c hm => ?_, fun x hx => ⟨(h2 x hx).1, fun c hm hlt => ?_⟩⟩
      · rcases List.mem_cons.1 hm with rfl | hm
        · exact hk
        · exact h1 h c hm
      · rcases List.mem_cons.1 hm with rfl | hm
        · exact hk
        · exact (h2 x hx).2 c hm hlt
theorem pJ_spec {B : Nat → Nat → Bool} {n i : Nat} : ∀ {l : List Nat}, l.Pairwise (· < ·) → (pJ B n i l = none → ∀ b ∈ l, ∀ c < n, cnd B i b c = false) ∧ ∀ x, pJ B n i l = some x → cnd B i x.2.1 x.2.2 = true ∧ (∀ b ∈ l, b < x.2.1 → ∀ c < n, cnd B i b c = false) ∧ ∀ c < n, c < x.2.2 → cnd B i x.2.1 c = false
  | [], _ => ⟨fun _ c hc => by simp at hc, fun x h => by simp [pJ] at h⟩
  | j :: l, hp => by
    rw [List.pairwise_cons] at hp
    obtain ⟨h1, h2⟩ := pJ_spec (B := B) (n := n) (i := i) hp.2
    obtain ⟨k1, k2⟩ := pK_spec (B := B) (i := i) (j := j) (l := List.range n) List.pairwise_lt_range
    rw [pJ]
    cases hk : pK B i j (List.range n) with
    | some y =>
      refine ⟨fun h => by simp at h, fun x hx => ?_⟩
      cases hx
      obtain ⟨m1, m2, m3⟩ := pK_mem hk
      obtain ⟨q1, q2⟩ := k2 _ hk
      rw [m2]
      refine ⟨q1, fun b hm hlt => ?_, fun c hc hlt => q2 c (List.mem_range.2 hc) hlt⟩
      rcases List.mem_cons.1 hm with rfl | hm
      · exact absurd hlt (Nat.lt_irrefl _)
      · exact absurd (hp.1 b hm) (Nat.lt_asymm hlt)
    | none =>
      have hz : ∀ c < n, cnd B i j c = false := fun c hc => k1 hk c (List.mem_range.2 hc)
      refine ⟨fun h b hm => ?_, fun x hx => ⟨(h2 x hx).1, fun b hm hlt => ?_, (h2 x hx).2.2⟩⟩
      · rcases List.mem_cons.1 hm with rfl | hm
        · exact hz
        · exact h1 h b hm
      · rcases List.mem_cons.1 hm with rfl | hm
        · exact hz
        · exact (h2 x hx).2.1 b hm hlt
theorem pI_spec {B : Nat → Nat → Bool} {n : Nat} : ∀ {l : List Nat}, l.Pairwise (· < ·) → (pI B n l = none → ∀ a ∈ l, ∀ b < n, ∀ c < n, cnd B a b c = false) ∧ ∀ x, pI B n l = some x → cnd B x.1 x.2.1 x.2.2 = true ∧ (∀ a ∈ l, a < x.1 → ∀ b < n, ∀ c < n, cnd B a b c = false) ∧ (∀ b < n, b < x.2.1 → ∀ c < n, cnd B x.1 b c = false) ∧ ∀ c < n, c < x.2.2 → cnd B x.1 x.2.1 c = false
  | [], _ => ⟨fun _ c hc => by simp at hc, fun x h => by simp [pI] at h⟩
  | i :: l, hp => by
    rw [List.pairwise_cons] at hp
    obtain ⟨h1, h2⟩ := pI_spec (B := B) (n := n) hp.2
    obtain ⟨k1, k2⟩ := pJ_spec (B := B) (n := n) (i := i) (l := List.range n) List.pairwise_lt_range
    rw [pI]
    cases hk : pJ B n i (List.range n) with
    | some y =>
      refine ⟨fun h => by simp at h, fun x hx => ?_⟩
      cases hx
      obtain ⟨m1, m2, m3⟩ := pJ_mem hk
      obtain ⟨q1, q2, q3⟩ := k2 _ hk
      rw [m1]
      refine ⟨q1, fun a hm hlt => ?_, fun b hb hlt => q2 b (List.mem_range.2 hb) hlt, q3⟩
      rcases List.mem_cons.1 hm with rfl | hm
      · exact absurd hlt (Nat.lt_irrefl _)
      · exact absurd (hp.1 a hm) (Nat.lt_asymm hlt)
    | none =>
      have hz : ∀ b < n, ∀ c < n, cnd B i b c = false := fun b hb => k1 hk b (List.mem_range.2 hb)
      refine ⟨fun h a hm => ?_, fun x hx => ⟨(h2 x hx).1, fun a hm hlt => ?_, (h2 x hx).2.2⟩⟩
      · rcases List.mem_cons.1 hm with rfl | hm
        · exact hz
        · exact h1 h a hm
      · rcases List.mem_cons.1 hm with rfl | hm
        · exact hz
        · exact (h2 x hx).2.1 a hm hlt
/-! The small profiles. -/
theorem prof_all : (profL.all fun p => okP p.cl p.vi p.cr p.le && decide (p.cl ≤ 10) && decide (p.vi ≤ 10)) = true := by kernel_rfl
theorem prof_ok {i : Nat} {p : Prf} (h : profL[i]? = some p) : okP p.cl p.vi p.cr p.le = true ∧ smP p := by
  have := List.all_eq_true.1 prof_all p (List.mem_of_getElem? h)
  simp only [Bool.and_eq_true, decide_eq_true_eq] at this
  refine ⟨this.1.1, ?_⟩
  have h2 := this.1.1
  unfold okP at h2
  simp only [Bool.and_eq_true, decide_eq_true_eq] at h2
  exact ⟨by omega, by omega, by omega, by omega⟩
theorem key_all : ((List.range 120).all fun i => match profL[i]? with
    | some p => keyP p == 24 + (i : Int)
    | none => false) = true := by kernel_rfl
theorem key_at {i : Nat} {p : Prf} (h : profL[i]? = some p) : keyP p = 24 + (i : Int) := by
  have hi : i < 120 := by rw [← profL_len]; exact (List.getElem?_eq_some_iff.1 h).1
  have := List.all_eq_true.1 key_all i (List.mem_range.2 hi)
  rw [h] at this
  simpa using this
theorem gB_eq {rs : List Rul} (hc : chk rs = 0) {i j : Nat} {p q : Prf} (h1 : profL[i]? = some p) (h2 : profL[j]? = some q) : gB rs p q = befB rs i j := by
  rw [befB_at h1 h2]
  unfold gB verdE befP
  rw [if_pos (bothE_0 hc (prof_ok h1).1 (prof_ok h2).1)]
  rfl
theorem goes_eq {rs : List Rul} (hc : chk rs = 0) {i j k : Nat} {p q r : Prf} (h1 : profL[i]? = some p) (h2 : profL[j]? = some q) (h3 : profL[k]? = some r) : goesE rs (p, q, r) = cnd (befB rs) i j k := by
  unfold goesE cnd
  rw [gB_eq hc h1 h2, gB_eq hc h2 h3, gB_eq hc h3 h1]
theorem tm {a : Int} (h0 : 0 ≤ a) : ∃ x : Nat, x < 120 ∧ a.tmod 120 = (x : Int) := by
  rw [Int.tmod_eq_emod_of_nonneg h0]
  exact ⟨(a % 120).toNat, by omega, by omega⟩
/-- Nobody goes round ahead of what is found. -/
theorem law10 {rs : List Rul} (hc : chk rs = 0) {a b c i j k : Nat} {p q r x y z : Prf} (ha : profL[a]? = some p) (hb : profL[b]? = some q) (hd : profL[c]? = some r) (hx : profL[i]? = some x) (hy : profL[j]? = some y) (hz : profL[k]? = some z)
    (hf : pI (befB rs) 120 (List.range 120) = some (i, j, k)) : goesE rs (x, y, z) = true ∧ (goesE rs (p, q, r) = true → ahE (p, q, r) (x, y, z) = false) := by
  obtain ⟨_, s⟩ := pI_spec (B := befB rs) (n := 120) (l := List.range 120) List.pairwise_lt_range
  obtain ⟨s1, s2, s3, s4⟩ := s _ hf
  have la : a < 120 := by rw [← profL_len]; exact (List.getElem?_eq_some_iff.1 ha).1
  have lb : b < 120 := by rw [← profL_len]; exact (List.getElem?_eq_some_iff.1 hb).1
  have lc : c < 120 := by rw [← profL_len]; exact (List.getElem?_eq_some_iff.1 hd).1
  rw [goes_eq hc hx hy hz, goes_eq hc ha hb hd]
  refine ⟨s1, fun h => ?_⟩
  have hne : ∀ {u : Bool}, u = true → u = false → False := fun h1 h2 => by rw [h1] at h2; cases h2
  unfold ahE
  dsimp only
  rw [key_at ha, key_at hb, key_at hd, key_at hx, key_at hy, key_at hz]
  by_cases e1 : a = i
  · subst e1
    rw [if_neg (by simp)]
    by_cases e2 : b = j
    · subst e2
      rw [if_neg (by simp)]
      by_cases e3 : c = k
      · subst e3
        rw [if_neg (by simp)]
      · rw [if_pos (by omega)]
        refine decide_eq_false (fun hlt => hne h (s4 c lc ?_))
        show c < k
        omega
    · rw [if_pos (by omega)]
      refine decide_eq_false (fun hlt => hne h (s3 b lb ?_ c lc))
      show b < j
      omega
  · rw [if_pos (by omega)]
    refine decide_eq_false (fun hlt => hne h (s2 a (List.mem_range.2 la) ?_ b lb c lc))
    show a < i
    omega
theorem law10n {rs : List Rul} (hc : chk rs = 0) {a b c : Nat} {p q r : Prf} (ha : profL[a]? = some p) (hb : profL[b]? = some q) (hd : profL[c]? = some r) (hf : pI (befB rs) 120 (List.range 120) = none) : goesE rs (p, q, r) = false := by
  obtain ⟨s, _⟩ := pI_spec (B := befB rs) (n := 120) (l := List.range 120) List.pairwise_lt_range
  have la : a < 120 := by rw [← profL_len]; exact (List.getElem?_eq_some_iff.1 ha).1
  have lb : b < 120 := by rw [← profL_len]; exact (List.getElem?_eq_some_iff.1 hb).1
  have lc : c < 120 := by rw [← profL_len]; exact (List.getElem?_eq_some_iff.1 hd).1
  rw [goes_eq hc ha hb hd]
  exact s hf a (List.mem_range.2 la) b lb c lc
theorem c10 : Cts Tryz.B [(20, R20), (24, R24), (35, R35), (38, RPl (encPs profL)), (39, R39), (40, R40)] := ((((((Cts.nil _).cons ct40).cons ct39).cons ct38).cons (ct35 ct38)).cons ct24).cons ct20
theorem w10 {rs : List Rul} (hw : wfRs rs) {a b c : Int} (ha : 0 ≤ a) (hb : 0 ≤ b) (hc : 0 ≤ c) : wpF (Tryz.X10 (encPs profL)) 10 [.agg [.vs (encRs rs) rs.length .none], .int .u8 a, .int .u8 b, .int .u8 c] fun r' => r' = rB true := by
  obtain ⟨na, la, ea⟩ := tm ha
  obtain ⟨nb, lb, eb⟩ := tm hb
  obtain ⟨nc, lc, ec⟩ := tm hc
  obtain ⟨p, hp⟩ := prof_at la
  obtain ⟨q, hq⟩ := prof_at lb
  obtain ⟨r, hr⟩ := prof_at lc
  rw [v10, circE_eq, ea, eb, ec, prof_el hp, prof_el hq, prof_el hr, encP_w, encP_w, encP_w, show encP p ++ encP q ++ encP r = enc3 (p, q, r) from rfl, goD_eq]
  refine ⟨⟨rs, rfl, rfl, hw, by omega, by omega⟩, cIf_intro (fun h => ⟨trivial, rfl⟩) (fun h => ⟨⟨rs, rfl, rfl, hw⟩, trivial, ?_⟩)⟩
  by_cases hk : chk rs = 0
  · have h22 : (circR rs).2.2 = 0 := by unfold circR; rw [if_pos hk]
    have h21 : (circR rs).2.1 = (pI (befB rs) 120 (List.range 120)).isSome := by unfold circR; rw [if_pos hk]
    have h1 : (circR rs).1 = circV (pI (befB rs) 120 (List.range 120)) := by unfold circR; rw [if_pos hk]
    rw [h22, h21, h1]
    refine cIf_neg (by simp) (cIf_pos (row_nn _) (cIf_pos (row_in la) (cIf_pos (decide_eq_true prof_len) (cIf_pos (decide_eq_true (prof_dl la)) (cIf_pos (encP_like p) (cIf_pos (row_nn _) (cIf_pos (row_in lb) (cIf_pos (decide_eq_true prof_len) (cIf_pos (decide_eq_true (prof_dl lb)) (cIf_pos (encP_like q) (cIf_pos (row_nn _) (cIf_pos (row_in lc) (cIf_pos (decide_eq_true prof_len) (cIf_pos (decide_eq_true (prof_dl lc)) (cIf_pos (encP_like r) ⟨⟨⟨rs, rfl, rfl, hw⟩, ⟨(p, q, r), rfl⟩, rfl⟩, ?_⟩)))))))))))))))
    cases hf : pI (befB rs) 120 (List.range 120) with
    | none =>
      rw [law10n hk hp hq hr hf]
      exact cIf_pos rfl ⟨trivial, cIf_pos rfl rfl⟩
    | some w =>
      obtain ⟨i, j, k⟩ := w
      obtain ⟨m1, m2, m3⟩ := pI_mem hf
      obtain ⟨x, hx⟩ := prof_at (List.mem_range.1 m1)
      obtain ⟨y, hy⟩ := prof_at m2
      obtain ⟨z, hz⟩ := prof_at m3
      have hv : circV (some (i, j, k)) = [x, y, z] := by
        show (profL[i]?).toList ++ (profL[j]?).toList ++ (profL[k]?).toList = _
        rw [hx, hy, hz]
        rfl
      obtain ⟨g1, g2⟩ := law10 hk hp hq hr hx hy hz hf
      have he : encPs [x, y, z] = enc3 (x, y, z) := rfl
      rw [hv, he, goD_eq, g1, onEnc_eq enc3_inj, onEnc_eq enc3_inj]
      refine cIf_neg rfl ⟨trivial, cIf_pos rfl ⟨⟨⟨rs, rfl, rfl, hw⟩, ⟨(x, y, z), rfl⟩, rfl⟩, cIf_pos rfl ?_⟩⟩
      refine cIf_intro (fun h => rfl) (fun h => ⟨⟨⟨(p, q, r), rfl, (prof_ok hp).2, (prof_ok hq).2, (prof_ok hr).2⟩, ⟨(x, y, z), rfl, (prof_ok hx).2, (prof_ok hy).2, (prof_ok hz).2⟩, rfl, rfl⟩, ?_⟩)
      rw [g2 (by simpa using h)]
      rfl
  · have hcr : circR rs = ([], false, chk rs) := by unfold circR; rw [if_neg hk]
    rw [hcr]
    exact cIf_pos (by simpa using hk) ⟨trivial, cIf_pos (by simpa using hk) rfl⟩
theorem ct10 : Ct Tryz.B.c0 10 R10 := Ct.of_wp (l := [(20, R20), (24, R24), (35, R35), (38, RPl (encPs profL)), (39, R39), (40, R40)]) (lm := []) (tp := []) (ct := []) (sm := []) Tryz.bok c10 ⟨_, _, Tryz.func10, rfl⟩ fun args D r hR hD => by
  unfold R10 at hR
  split at hR <;> cases hR
  rename_i l len a b c
  obtain ⟨⟨rs, rfl, rfl, hw⟩, ha, hb, hc⟩ := hD
  refine ⟨by simp [noHL, noH, noH_encRs], ?_⟩
  rw [show scrubL 0 [AV.agg [.vs (encRs rs) rs.length .none], .int .u8 a, .int .u8 b, .int .u8 c] = [AV.agg [.vs (encRs rs) rs.length .none], .int .u8 a, .int .u8 b, .int .u8 c] by simp [scrubL, scrub, sc_encRs, Tok.scrub]]
  exact w10 hw ha.1 hb.1 hc.1
end Go.Proofs
