/- Contracts of functions of the program and of the reference. -/
import Derived.Test.YtljjkomdibkjpaaGreatDoorK13
import Derived.Test.YtljjkomdibkjpaaGreatDoorIt
set_option linter.unusedVariables false
set_option linter.unusedSimpArgs false
/-! VC29 -/
set_option maxRecDepth 100000
set_option linter.unusedVariables false
namespace Go.Proofs
open Go Go.Ev
/-- Itoa: some text of an int. -/
def R67 (it : Int → List UInt8) : Spc := fun args => match args with
  | [.int .i64 z] => some (0 ≤ z ∧ z ≤ 1000, .ret (.str (it z)))
  | _ => none
def nmA : List AV := [.str [], .str [99, 108, 97, 115, 115], .str [118, 105, 115, 105, 116], .str [104, 111, 115, 116], .str [100, 101, 112, 117, 116, 121], .str [109, 111, 117, 114, 110, 105, 110, 103], .str [99, 114, 101, 100, 101, 110, 116, 105, 97, 108, 115], .str [108, 101, 116, 116, 101, 114]]
def sdA : List AV := [.str [], .str [111, 119, 110], .str [111, 116, 104, 101, 114]]
mutual
/-- How many nodes. -/
def ndT : Tst → Nat
  | .mk _ _ _ _ of => 1 + ndL of
def ndL : List Tst → Nat
  | [] => 0
  | t :: l => ndT t + ndL l
end
mutual
/-- The source of a test. -/
def wrT (it : Int → List UInt8) : Tst → Int → List UInt8
  | .mk op attr side n of, tight =>
    if op = 1 then [97, 108, 119, 97, 121, 115]
    else if op = 2 then [108, 111, 119, 101, 114, 32] ++ cS nmA attr.toNat
    else if op = 3 then [104, 105, 103, 104, 101, 114, 32] ++ cS nmA attr.toNat
    else if op = 4 then [115, 97, 109, 101, 32] ++ cS nmA attr.toNat
    else if op = 5 then (if attr = 1 ∨ attr = 2 then cS sdA side.toNat ++ [32] ++ cS nmA attr.toNat ++ ([32] ++ it n) else cS sdA side.toNat ++ [32] ++ cS nmA attr.toNat)
    else if op = 6 then cS sdA side.toNat ++ [32] ++ cS nmA attr.toNat ++ [32, 60, 32] ++ it n
    else if op = 7 then [110, 111, 116, 32] ++ wrL it of 3 [] true []
    else if op = 9 then (if tight > 0 then [40] ++ wrL it of 2 [32, 111, 114, 32] true [] ++ [41] else wrL it of 2 [32, 111, 114, 32] true [])
    else if tight = 1 ∨ tight = 3 then [40] ++ wrL it of 1 [32, 97, 110, 100, 32] true [] ++ [41] else wrL it of 1 [32, 97, 110, 100, 32] true []
def wrL (it : Int → List UInt8) : List Tst → Int → List UInt8 → Bool → List UInt8 → List UInt8
  | [], _, _, _, s => s
  | t :: l, k, j, first, s => wrL it l k j false ((if first then s else s ++ j) ++ wrT it t k)
end
noncomputable def R68 (it : Int → List UInt8) : Spc := fun args => match args with
  | [.agg l, .int .i64 k] => some ((∃ t, l = encT t ∧ wfT t ∧ shT t = true ∧ ndT t ≤ 1000) ∧ 0 ≤ k ∧ k ≤ 3, .ret (.str (onEnc encT (fun t => wrT it t k) [] l)))
  | _ => none
def tgO (i : Int) : Int := if i = 0 then 0 else if i = 8 then 1 else if i = 9 then 2 else 3
noncomputable def R71 (it : Int → List UInt8) : Spc := fun args => match args with
  | [.agg l, .int .u8 i] => some ((∃ t, l = encT t ∧ wfT t ∧ shT t = true ∧ ndT t ≤ 1000) ∧ (i = 0 ∨ i = 7 ∨ i = 8 ∨ i = 9), .ret (.str (onEnc encT (fun t => wrT it t (tgO i)) [] l)))
  | _ => none
def R115 : Spc := fun args => match args with
  | [] => some (True, .ret (.vs nmA.tail 7 .none))
  | _ => none
noncomputable def Tryz.X115 : WCx := Tryz.B.wcx []
def lm68 : List (Nat × List Nat) := [(26, [7, 8, 9, 10, 100, 101, 102]), (32, [7, 10])]
noncomputable def Tryz.X68 (it : Int → List UInt8) (m : Nat) : WCx := Tryz.B.wcx [(68, (R68 it).below m), (67, R67 it), (112, R112)] lm68 [1, 2] [] [(26, 0)]
theorem v115 (Q : CR → Prop) : wpF Tryz.X115 115 [] Q =
  (Q (CR.ret (AV.vs [AV.str [99, 108, 97, 115, 115], AV.str [118, 105, 115, 105, 116], AV.str [104, 111, 115, 116], AV.str [100, 101, 112, 117, 116, 121], AV.str [109, 111, 117, 114, 110, 105, 110, 103], AV.str [99, 114, 101, 100, 101, 110, 116, 105, 97, 108, 115], AV.str [108, 101, 116, 116, 101, 114]] 7 Tok.none))) := by kernel_rfl
theorem v68 (it : Int → List UInt8) (m : Nat) (op attr side n k : Int) (l : List AV) (len : Nat) (Q : CR → Prop) : wpF (Tryz.X68 it m) 68 [.agg [U op, U attr, U side, I n, .vs l len .none], I k] Q =
  (cIf (op == (1 : Int)) (Q (CR.ret (AV.str [97, 108, 119, 97, 121, 115]))) (cIf (op == (2 : Int)) (cIf (decide ((0 : Int) ≤ attr)) (cIf (decide (attr.toNat < 8)) (cIf (decide (0 + attr.toNat * 1 < nmA.length)) (cIf (likeOk (AV.ofVal (Value.string (ByteArray.mk #[]))) (nmA.getD (0 + attr.toNat * 1) X)) (cIf (decide ([108, 111, 119, 101, 114, 32].length + (cS nmA (0 + attr.toNat * 1)).length ≤ 9223372036854775807)) (Q (CR.ret (AV.str ([108, 111, 119, 101, 114, 32] ++ cS nmA (0 + attr.toNat * 1))))) False) False) False) False) False) (cIf (op == (3 : Int)) (cIf (decide ((0 : Int) ≤ attr)) (cIf (decide (attr.toNat < 8)) (cIf (decide (0 + attr.toNat * 1 < nmA.length)) (cIf (likeOk (AV.ofVal (Value.string (ByteArray.mk #[]))) (nmA.getD (0 + attr.toNat * 1) X)) (cIf (decide ([104, 105, 103, 104, 101, 114, 32].length + (cS nmA (0 + attr.toNat * 1)).length ≤ 9223372036854775807)) (Q (CR.ret (AV.str ([104, 105, 103, 104, 101, 114, 32] ++ cS nmA (0 + attr.toNat * 1))))) False) False) False) False) False) (cIf (op == (4 : Int)) (cIf (decide ((0 : Int) ≤ attr)) (cIf (decide (attr.toNat < 8)) (cIf (decide (0 + attr.toNat * 1 < nmA.length)) (cIf (likeOk (AV.ofVal (Value.string (ByteArray.mk #[]))) (nmA.getD (0 + attr.toNat * 1) X)) (cIf (decide ([115, 97, 109, 101, 32].length + (cS nmA (0 + attr.toNat * 1)).length ≤ 9223372036854775807)) (Q (CR.ret (AV.str ([115, 97, 109, 101, 32] ++ cS nmA (0 + attr.toNat * 1))))) False) False) False) False) False) (cIf (op == (5 : Int)) (cIf (decide ((0 : Int) ≤ side)) (cIf (decide (side.toNat < 3)) (cIf (decide (0 + side.toNat * 1 < sdA.length)) (cIf (likeOk (AV.ofVal (Value.string (ByteArray.mk #[]))) (sdA.getD (0 + side.toNat * 1) X)) (cIf (decide ((cS sdA (0 + side.toNat * 1)).length + [32].length ≤ 9223372036854775807)) (cIf (decide ((0 : Int) ≤ attr)) (cIf (decide (attr.toNat < 8)) (cIf (decide (0 + attr.toNat * 1 < nmA.length)) (cIf (likeOk (AV.ofVal (Value.string (ByteArray.mk #[]))) (nmA.getD (0 + attr.toNat * 1) X)) (cIf (decide ((cS sdA (0 + side.toNat * 1) ++ [32]).length + (cS nmA (0 + attr.toNat * 1)).length ≤ 9223372036854775807)) (True ∧ cIf (kindI attr == (1 : Int)) (((0 : Int) ≤ n ∧ n ≤ (1000 : Int)) ∧ cIf (decide ([32].length + (it n).length ≤ 9223372036854775807)) (cIf (decide ((cS sdA (0 + side.toNat * 1) ++ [32] ++ cS nmA (0 + attr.toNat * 1)).length + ([32] ++ it n).length ≤ 9223372036854775807)) (Q (CR.ret (AV.str (cS sdA (0 + side.toNat * 1) ++ [32] ++ cS nmA (0 + attr.toNat * 1) ++ ([32] ++ it n))))) False) False) (Q (CR.ret (AV.str (cS sdA (0 + side.toNat * 1) ++ [32] ++ cS nmA (0 + attr.toNat * 1)))))) False) False) False) False) False) False) False) False) False) False) (cIf (op == (6 : Int)) (cIf (decide ((0 : Int) ≤ side)) (cIf (decide (side.toNat < 3)) (cIf (decide (0 + side.toNat * 1 < sdA.length)) (cIf (likeOk (AV.ofVal (Value.string (ByteArray.mk #[]))) (sdA.getD (0 + side.toNat * 1) X)) (cIf (decide ((cS sdA (0 + side.toNat * 1)).length + [32].length ≤ 9223372036854775807)) (cIf (decide ((0 : Int) ≤ attr)) (cIf (decide (attr.toNat < 8)) (cIf (decide (0 + attr.toNat * 1 < nmA.length)) (cIf (likeOk (AV.ofVal (Value.string (ByteArray.mk #[]))) (nmA.getD (0 + attr.toNat * 1) X)) (cIf (decide ((cS sdA (0 + side.toNat * 1) ++ [32]).length + (cS nmA (0 + attr.toNat * 1)).length ≤ 9223372036854775807)) (cIf (decide ((cS sdA (0 + side.toNat * 1) ++ [32] ++ cS nmA (0 + attr.toNat * 1)).length + [32, 60, 32].length ≤ 9223372036854775807)) (((0 : Int) ≤ n ∧ n ≤ (1000 : Int)) ∧ St.mk [some (HB.cells [U op, U attr, U side, I n, AV.vs l len Tok.none] 71), some (HB.cells nmA 156), some (HB.cells sdA 157)] [] [2, 1] = St.mk [some (HB.cells [U op, U attr, U side, I n, AV.vs l len Tok.none] 71), some (HB.cells nmA 156), some (HB.cells sdA 157)] [] [2, 1] ∧ cIf (decide ((cS sdA (0 + side.toNat * 1) ++ [32] ++ cS nmA (0 + attr.toNat * 1) ++ [32, 60, 32]).length + (it n).length ≤ 9223372036854775807)) (Q (CR.ret (AV.str (cS sdA (0 + side.toNat * 1) ++ [32] ++ cS nmA (0 + attr.toNat * 1) ++ [32, 60, 32] ++ it n)))) False) False) False) False) False) False) False) False) False) False) False) False) (cIf (op == (7 : Int)) (cIf (decide (0 < len)) (cIf (decide (len * 5 = l.length)) (cIf (decide (5 ≤ l.length)) (cIf (like zT (el l 0 5)) ((((∃ (t : Tst), (elT (el l 0 5)) = encT t ∧ wfT t ∧ shT t = true ∧ ndT t ≤ 1000) ∧ (0 : Int) ≤ (3 : Int) ∧ (3 : Int) ≤ (3 : Int)) ∧ avSizeL ([] ++ [AV.agg (elT (el l 0 5)), I (3 : Int)] ++ []) < m) ∧ cIf (decide ([110, 111, 116, 32].length + (onEnc encT (fun (t : Tst) => wrT it t (3 : Int)) [] (elT (el l 0 5))).length ≤ 9223372036854775807)) (Q (CR.ret (AV.str ([110, 111, 116, 32] ++ onEnc encT (fun (t : Tst) => wrT it t (3 : Int)) [] (elT (el l 0 5)))))) False) False) False) False) False) (cIf (k == (1 : Int)) (cIf (op == (9 : Int)) (cIf (noHL 0 ([X, X, X, X, X, X, X, AV.str [], AV.str [32, 111, 114, 32], I (2 : Int), Bo (decide (k > (0 : Int))), X, X, X, X, X, X, X, X, X, X, X, X, X, X, X, X, X, X, X, X, X, X, X, X, X, X, X, X, X, X, X, X, X, X, X, X, X, X, X, X, X, X, X, X, X, X, X, X, X, X, X, X, X, X, X, X, X, X, X, X, X, X, X, X, X, X, X, X, X, X, X, X, X, X, X, X, X, X, X, X, X, X, X, X, X, X, X, X, X, AV.vs l len Tok.none, I (↑len : Int), I (0 : Int)] ++ List.replicate 20 X)) (WLoop (Tryz.X68 it m) (cd (Tryz.X68 it m).P 68 [1, 1, 1, 1, 1, 1, 1, 0, 1, 0, 0]) ([X, X, X, X, X, X, X, AV.str [], AV.str [32, 111, 114, 32], I (2 : Int), Bo (decide (k > (0 : Int))), X, X, X, X, X, X, X, X, X, X, X, X, X, X, X, X, X, X, X, X, X, X, X, X, X, X, X, X, X, X, X, X, X, X, X, X, X, X, X, X, X, X, X, X, X, X, X, X, X, X, X, X, X, X, X, X, X, X, X, X, X, X, X, X, X, X, X, X, X, X, X, X, X, X, X, X, X, X, X, X, X, X, X, X, X, X, X, X, X, AV.vs l len Tok.none, I (↑len : Int), I (0 : Int)] ++ List.replicate 20 X) (St.mk [] [] []) (kBlock 1 (kSeq (Tryz.X68 it m) (cd (Tryz.X68 it m).P 68 [1, 1, 1, 1, 1, 1, 1, 1]) (kRet (Tryz.X68 it m) 68 Q)))) False) (cIf (noHL 0 ([X, X, X, X, X, X, X, AV.str [], AV.str [32, 97, 110, 100, 32], I (1 : Int), Bo true, X, X, X, X, X, X, X, X, X, X, X, X, X, X, X, X, X, X, X, X, X, X, X, X, X, X, X, X, X, X, X, X, X, X, X, X, X, X, X, X, X, X, X, X, X, X, X, X, X, X, X, X, X, X, X, X, X, X, X, X, X, X, X, X, X, X, X, X, X, X, X, X, X, X, X, X, X, X, X, X, X, X, X, X, X, X, X, X, X, AV.vs l len Tok.none, I (↑len : Int), I (0 : Int)] ++ List.replicate 20 X)) (WLoop (Tryz.X68 it m) (cd (Tryz.X68 it m).P 68 [1, 1, 1, 1, 1, 1, 1, 0, 1, 0, 0]) ([X, X, X, X, X, X, X, AV.str [], AV.str [32, 97, 110, 100, 32], I (1 : Int), Bo true, X, X, X, X, X, X, X, X, X, X, X, X, X, X, X, X, X, X, X, X, X, X, X, X, X, X, X, X, X, X, X, X, X, X, X, X, X, X, X, X, X, X, X, X, X, X, X, X, X, X, X, X, X, X, X, X, X, X, X, X, X, X, X, X, X, X, X, X, X, X, X, X, X, X, X, X, X, X, X, X, X, X, X, X, X, X, X, X, X, AV.vs l len Tok.none, I (↑len : Int), I (0 : Int)] ++ List.replicate 20 X) (St.mk [] [] []) (kBlock 1 (kSeq (Tryz.X68 it m) (cd (Tryz.X68 it m).P 68 [1, 1, 1, 1, 1, 1, 1, 1]) (kRet (Tryz.X68 it m) 68 Q)))) False)) (cIf (op == (9 : Int)) (cIf (noHL 0 ([X, X, X, X, X, X, X, AV.str [], AV.str [32, 111, 114, 32], I (2 : Int), Bo (decide (k > (0 : Int))), X, X, X, X, X, X, X, X, X, X, X, X, X, X, X, X, X, X, X, X, X, X, X, X, X, X, X, X, X, X, X, X, X, X, X, X, X, X, X, X, X, X, X, X, X, X, X, X, X, X, X, X, X, X, X, X, X, X, X, X, X, X, X, X, X, X, X, X, X, X, X, X, X, X, X, X, X, X, X, X, X, X, X, X, X, X, X, X, X, AV.vs l len Tok.none, I (↑len : Int), I (0 : Int)] ++ List.replicate 20 X)) (WLoop (Tryz.X68 it m) (cd (Tryz.X68 it m).P 68 [1, 1, 1, 1, 1, 1, 1, 0, 1, 0, 0]) ([X, X, X, X, X, X, X, AV.str [], AV.str [32, 111, 114, 32], I (2 : Int), Bo (decide (k > (0 : Int))), X, X, X, X, X, X, X, X, X, X, X, X, X, X, X, X, X, X, X, X, X, X, X, X, X, X, X, X, X, X, X, X, X, X, X, X, X, X, X, X, X, X, X, X, X, X, X, X, X, X, X, X, X, X, X, X, X, X, X, X, X, X, X, X, X, X, X, X, X, X, X, X, X, X, X, X, X, X, X, X, X, X, X, X, X, X, X, X, X, AV.vs l len Tok.none, I (↑len : Int), I (0 : Int)] ++ List.replicate 20 X) (St.mk [] [] []) (kBlock 1 (kSeq (Tryz.X68 it m) (cd (Tryz.X68 it m).P 68 [1, 1, 1, 1, 1, 1, 1, 1]) (kRet (Tryz.X68 it m) 68 Q)))) False) (cIf (noHL 0 ([X, X, X, X, X, X, X, AV.str [], AV.str [32, 97, 110, 100, 32], I (1 : Int), Bo (k == (3 : Int)), X, X, X, X, X, X, X, X, X, X, X, X, X, X, X, X, X, X, X, X, X, X, X, X, X, X, X, X, X, X, X, X, X, X, X, X, X, X, X, X, X, X, X, X, X, X, X, X, X, X, X, X, X, X, X, X, X, X, X, X, X, X, X, X, X, X, X, X, X, X, X, X, X, X, X, X, X, X, X, X, X, X, X, X, X, X, X, X, X, AV.vs l len Tok.none, I (↑len : Int), I (0 : Int)] ++ List.replicate 20 X)) (WLoop (Tryz.X68 it m) (cd (Tryz.X68 it m).P 68 [1, 1, 1, 1, 1, 1, 1, 0, 1, 0, 0]) ([X, X, X, X, X, X, X, AV.str [], AV.str [32, 97, 110, 100, 32], I (1 : Int), Bo (k == (3 : Int)), X, X, X, X, X, X, X, X, X, X, X, X, X, X, X, X, X, X, X, X, X, X, X, X, X, X, X, X, X, X, X, X, X, X, X, X, X, X, X, X, X, X, X, X, X, X, X, X, X, X, X, X, X, X, X, X, X, X, X, X, X, X, X, X, X, X, X, X, X, X, X, X, X, X, X, X, X, X, X, X, X, X, X, X, X, X, X, X, X, AV.vs l len Tok.none, I (↑len : Int), I (0 : Int)] ++ List.replicate 20 X) (St.mk [] [] []) (kBlock 1 (kSeq (Tryz.X68 it m) (cd (Tryz.X68 it m).P 68 [1, 1, 1, 1, 1, 1, 1, 1]) (kRet (Tryz.X68 it m) 68 Q)))) False)))))))))) := by kernel_rfl
theorem v68l (it : Int → List UInt8) (m : Nat) (s j : List UInt8) (k i : Int) (o : Bool) (l : List AV) (len : Nat) (Q : CR → Prop) : wpC (Tryz.X68 it m) (cd PP 68 [1, 1, 1, 1, 1, 1, 1, 0, 1, 0, 0]) ([X, X, X, X, X, X, X, .str s, .str j, I k, Bo o, X, X, X, X, X, X, X, X, X, X, X, X, X, X, X, X, X, X, X, X, X, X, X, X, X, X, X, X, X, X, X, X, X, X, X, X, X, X, X, X, X, X, X, X, X, X, X, X, X, X, X, X, X, X, X, X, X, X, X, X, X, X, X, X, X, X, X, X, X, X, X, X, X, X, X, X, X, X, X, X, X, X, X, X, X, X, X, X, X, .vs l len .none, I len, I i] ++ List.replicate 20 X) ⟨[], [], []⟩ (kLoop (Tryz.X68 it m) (cd PP 68 [1, 1, 1, 1, 1, 1, 1, 0, 1, 0, 0]) (kBlock 1 (kSeq (Tryz.X68 it m) (cd PP 68 [1, 1, 1, 1, 1, 1, 1, 1]) (kRet (Tryz.X68 it m) 68 Q)))) =
  (cIf (decide (i < (↑len : Int))) (cIf (decide ((0 : Int) ≤ i)) (cIf (decide (i.toNat < len)) (cIf (decide (len * 5 = l.length)) (cIf (decide (5 ≤ (List.drop (i.toNat * 5) l).length)) (cIf (like zT (el (List.drop (i.toNat * 5) l) 0 5)) (cIf (decide (i > (0 : Int))) (cIf (decide (s.length + j.length ≤ 9223372036854775807)) ((((∃ (t : Tst), (elT (el (List.drop (i.toNat * 5) l) 0 5)) = encT t ∧ wfT t ∧ shT t = true ∧ ndT t ≤ 1000) ∧ (0 : Int) ≤ k ∧ k ≤ (3 : Int)) ∧ avSizeL ([] ++ [AV.agg (elT (el (List.drop (i.toNat * 5) l) 0 5)), I k] ++ []) < m) ∧ cIf (decide ((s ++ j).length + (onEnc encT (fun (t : Tst) => wrT it t k) [] (elT (el (List.drop (i.toNat * 5) l) 0 5))).length ≤ 9223372036854775807)) (cIf (noHL 0 ([X, X, X, X, X, X, X, AV.str (s ++ j ++ onEnc encT (fun (t : Tst) => wrT it t k) [] (elT (el (List.drop (i.toNat * 5) l) 0 5))), AV.str j, I k, Bo o, X, X, X, X, X, X, X, X, X, X, X, X, X, X, X, X, X, X, X, X, X, X, X, X, X, X, X, X, X, X, X, X, X, X, X, X, X, X, X, X, X, X, X, X, X, X, X, X, X, X, X, X, X, X, X, X, X, X, X, X, X, X, X, X, X, X, X, X, X, X, X, X, X, X, X, X, X, X, X, X, X, X, X, X, X, X, X, X, X, AV.vs l len Tok.none, I (↑len : Int), I (IntKind.i64.wrap (i + (1 : Int)))] ++ List.replicate 20 X)) (WLoop (Tryz.X68 it m) (cd PP 68 [1, 1, 1, 1, 1, 1, 1, 0, 1, 0, 0]) ([X, X, X, X, X, X, X, AV.str (s ++ j ++ onEnc encT (fun (t : Tst) => wrT it t k) [] (elT (el (List.drop (i.toNat * 5) l) 0 5))), AV.str j, I k, Bo o, X, X, X, X, X, X, X, X, X, X, X, X, X, X, X, X, X, X, X, X, X, X, X, X, X, X, X, X, X, X, X, X, X, X, X, X, X, X, X, X, X, X, X, X, X, X, X, X, X, X, X, X, X, X, X, X, X, X, X, X, X, X, X, X, X, X, X, X, X, X, X, X, X, X, X, X, X, X, X, X, X, X, X, X, X, X, X, X, X, AV.vs l len Tok.none, I (↑len : Int), I (IntKind.i64.wrap (i + (1 : Int)))] ++ List.replicate 20 X) (St.mk [] [] []) (kBlock 1 (kSeq (Tryz.X68 it m) (cd PP 68 [1, 1, 1, 1, 1, 1, 1, 1]) (kRet (Tryz.X68 it m) 68 Q)))) False) False) False) ((((∃ (t : Tst), (elT (el (List.drop (i.toNat * 5) l) 0 5)) = encT t ∧ wfT t ∧ shT t = true ∧ ndT t ≤ 1000) ∧ (0 : Int) ≤ k ∧ k ≤ (3 : Int)) ∧ avSizeL ([] ++ [AV.agg (elT (el (List.drop (i.toNat * 5) l) 0 5)), I k] ++ []) < m) ∧ cIf (decide (s.length + (onEnc encT (fun (t : Tst) => wrT it t k) [] (elT (el (List.drop (i.toNat * 5) l) 0 5))).length ≤ 9223372036854775807)) (cIf (noHL 0 ([X, X, X, X, X, X, X, AV.str (s ++ onEnc encT (fun (t : Tst) => wrT it t k) [] (elT (el (List.drop (i.toNat * 5) l) 0 5))), AV.str j, I k, Bo o, X, X, X, X, X, X, X, X, X, X, X, X, X, X, X, X, X, X, X, X, X, X, X, X, X, X, X, X, X, X, X, X, X, X, X, X, X, X, X, X, X, X, X, X, X, X, X, X, X, X, X, X, X, X, X, X, X, X, X, X, X, X, X, X, X, X, X, X, X, X, X, X, X, X, X, X, X, X, X, X, X, X, X, X, X, X, X, X, X, AV.vs l len Tok.none, I (↑len : Int), I (IntKind.i64.wrap (i + (1 : Int)))] ++ List.replicate 20 X)) (WLoop (Tryz.X68 it m) (cd PP 68 [1, 1, 1, 1, 1, 1, 1, 0, 1, 0, 0]) ([X, X, X, X, X, X, X, AV.str (s ++ onEnc encT (fun (t : Tst) => wrT it t k) [] (elT (el (List.drop (i.toNat * 5) l) 0 5))), AV.str j, I k, Bo o, X, X, X, X, X, X, X, X, X, X, X, X, X, X, X, X, X, X, X, X, X, X, X, X, X, X, X, X, X, X, X, X, X, X, X, X, X, X, X, X, X, X, X, X, X, X, X, X, X, X, X, X, X, X, X, X, X, X, X, X, X, X, X, X, X, X, X, X, X, X, X, X, X, X, X, X, X, X, X, X, X, X, X, X, X, X, X, X, X, AV.vs l len Tok.none, I (↑len : Int), I (IntKind.i64.wrap (i + (1 : Int)))] ++ List.replicate 20 X) (St.mk [] [] []) (kBlock 1 (kSeq (Tryz.X68 it m) (cd PP 68 [1, 1, 1, 1, 1, 1, 1, 1]) (kRet (Tryz.X68 it m) 68 Q)))) False) False)) False) False) False) False) False) (cIf o (cIf (decide ([40].length + s.length ≤ 9223372036854775807)) (cIf (decide (([40] ++ s).length + [41].length ≤ 9223372036854775807)) (Q (CR.ret (AV.str ([40] ++ s ++ [41])))) False) False) (Q (CR.ret (AV.str s))))) := by kernel_rfl
end Go.Proofs
/-! C29 -/
set_option maxRecDepth 100000
set_option linter.unusedVariables false
namespace Go.Proofs
open Go Go.Ev
theorem nm_all : ((List.range 8).all fun i => decide ((cS nmA i).length ≤ 11) && likeOk (AV.ofVal (Value.string (ByteArray.mk #[]))) (nmA.getD i AV.bad)) = true := by kernel_rfl
theorem sd_all : ((List.range 3).all fun i => decide ((cS sdA i).length ≤ 5) && likeOk (AV.ofVal (Value.string (ByteArray.mk #[]))) (sdA.getD i AV.bad)) = true := by kernel_rfl
theorem nm_at {i : Nat} (h : i < 8) : (cS nmA i).length ≤ 11 ∧ likeOk (AV.ofVal (Value.string (ByteArray.mk #[]))) (nmA.getD i AV.bad) = true := by
  have := List.all_eq_true.1 nm_all i (List.mem_range.2 h)
  simpa only [Bool.and_eq_true, decide_eq_true_eq] using this
theorem sd_at {i : Nat} (h : i < 3) : (cS sdA i).length ≤ 5 ∧ likeOk (AV.ofVal (Value.string (ByteArray.mk #[]))) (sdA.getD i AV.bad) = true := by
  have := List.all_eq_true.1 sd_all i (List.mem_range.2 h)
  simpa only [Bool.and_eq_true, decide_eq_true_eq] using this
theorem nm_len (i : Nat) : (cS nmA i).length ≤ 11 := by
  rcases Nat.lt_or_ge i 8 with h | h
  · exact (nm_at h).1
  · have : nmA.getD i .bad = .bad := by
      have hl : nmA.length = 8 := rfl
      simp [List.getD_eq_getElem?_getD, List.getElem?_eq_none (show nmA.length ≤ i by omega)]
    unfold cS
    rw [this]
    exact Nat.zero_le _
theorem sd_len (i : Nat) : (cS sdA i).length ≤ 5 := by
  rcases Nat.lt_or_ge i 3 with h | h
  · exact (sd_at h).1
  · have : sdA.getD i .bad = .bad := by
      have hl : sdA.length = 3 := rfl
      simp [List.getD_eq_getElem?_getD, List.getElem?_eq_none (show sdA.length ≤ i by omega)]
    unfold cS
    rw [this]
    exact Nat.zero_le _
section
variable {it : Int → List UInt8} (hit : ∀ z, (it z).length ≤ 20)
include hit
mutual
theorem wrT_len : ∀ (t : Tst) (k : Int), (wrT it t k).length + 5 ≤ 70 * ndT t
  | .mk op attr side n of, k => by
    have h1 := nm_len attr.toNat
    have h2 := sd_len side.toNat
    have h3 := hit n
    have l1 := wrL_len of 3 [] true [] (by simp)
    have l2 := wrL_len of 2 [32, 111, 114, 32] true [] (by simp)
    have l3 := wrL_len of 1 [32, 97, 110, 100, 32] true [] (by simp)
    simp only [List.length_nil, Nat.zero_add] at l1 l2 l3
    simp only [wrT, ndT]
    repeat' split
    all_goals first
      | (simp only [List.length_append, List.length_cons, List.length_nil]; omega)
      | omega
theorem wrL_len : ∀ (l : List Tst) (k : Int) (j : List UInt8) (first : Bool) (s : List UInt8), j.length ≤ 5 → (wrL it l k j first s).length ≤ s.length + 70 * ndL l
  | [], k, j, first, s, hj => by
    have _ := hit
    simp [wrL, ndL]
  | t :: l, k, j, first, s, hj => by
    have h1 := wrT_len t k
    have h2 := wrL_len l k j false ((if first then s else s ++ j) ++ wrT it t k) hj
    simp only [wrL, ndL]
    have h3 : (if first = true then s else s ++ j).length ≤ s.length + 5 := by split <;> simp <;> omega
    simp only [List.length_append] at h2
    omega
end
end
theorem ndL_drop {of : List Tst} {i : Nat} {x : Tst} (h : of[i]? = some x) : ndL (of.drop i) = ndT x + ndL (of.drop (i + 1)) := by
  have hlt := (List.getElem?_eq_some_iff.1 h).1
  obtain ⟨y, hy, hd⟩ := drop_cons hlt
  rw [h] at hy
  cases hy
  rw [hd, ndL]
section
variable {it : Int → List UInt8} (hit : ∀ z, (it z).length ≤ 20) {m : Nat} (hc : Cts Tryz.B [(68, (R68 it).below m), (67, R67 it), (112, R112)]) {of : List Tst} (hlen : of.length ≤ 9223372036854775806) (hwf : wfTs of) (hsh : shTs of = true) (hsz : avSizeL (encTs of) + 7 ≤ m) {Q : CR → Prop}
include hit hc hlen hwf hsh hsz
theorem l68 {j : List UInt8} (hj : j.length ≤ 5) {k : Int} (hk : 0 ≤ k ∧ k ≤ 3) (o : Bool) : ∀ (d i : Nat) (s : List UInt8), of.length - i = d → i ≤ of.length → s.length + 70 * ndL (of.drop i) ≤ 100000 → ndL (of.drop i) ≤ 1000 →
    Q (.ret (.str (if o then [40] ++ wrL it (of.drop i) k j (decide (i = 0)) s ++ [41] else wrL it (of.drop i) k j (decide (i = 0)) s))) → WLoop (Tryz.X68 it m) (cd PP 68 [1, 1, 1, 1, 1, 1, 1, 0, 1, 0, 0]) ([X, X, X, X, X, X, X, .str s, .str j, I k, Bo o, X, X, X, X, X, X, X, X, X, X, X, X, X, X, X, X, X, X, X, X, X, X, X, X, X, X, X, X, X, X, X, X, X, X, X, X, X, X, X, X, X, X, X, X, X, X, X, X, X, X, X, X, X, X, X, X, X, X, X, X, X, X, X, X, X, X, X, X, X, X, X, X, X, X, X, X, X, X, X, X, X, X, X, X, X, X, X, X, X, .vs (encTs of) of.length .none, I of.length, I i] ++ List.replicate 20 X) ⟨[], [], []⟩ (kBlock 1 (kSeq (Tryz.X68 it m) (cd PP 68 [1, 1, 1, 1, 1, 1, 1, 1]) (kRet (Tryz.X68 it m) 68 Q))) := by
  intro d
  induction d with
  | zero =>
    intro i s hd hi hb hb2 hQ
    have hi' : i = of.length := by omega
    subst hi'
    rw [List.drop_length, wrL] at hQ
    refine WLoop_unroll (C := Tryz.X68 it m) (wcx_ones Tryz.bok hc) (wcx_ok Tryz.bok hc) ?_
    rw [v68l]
    refine cIf_neg (decide_eq_false (by omega)) (cIf_intro (fun h => ?_) (fun h => ?_))
    · rw [h] at hQ
      exact cIf_pos (decide_eq_true (by simp only [List.length_cons, List.length_nil]; omega)) (cIf_pos (decide_eq_true (by simp only [List.length_append, List.length_cons, List.length_nil]; omega)) hQ)
    · rw [h] at hQ
      exact hQ
  | succ d ih =>
    intro i s hd hi hb hb2 hQ
    have hlt : i < of.length := by omega
    obtain ⟨x, hx, hdr⟩ := drop_cons hlt
    have hnd := ndL_drop hx
    have hwl := wrT_len hit x k
    have hs := size_get hx
    rw [hdr, wrL] at hQ
    refine WLoop_unroll (C := Tryz.X68 it m) (wcx_ones Tryz.bok hc) (wcx_ok Tryz.bok hc) ?_
    rw [v68l, Int.toNat_natCast i, encTs_el hx, encT_w, wrap_id (x := (i : Int) + 1) (by omega) (by omega), onEnc_eq (fun _ _ => encT_inj _ _)]
    have hpre : ((∃ t : Tst, encT x = encT t ∧ wfT t ∧ shT t = true ∧ ndT t ≤ 1000) ∧ (0 : Int) ≤ k ∧ k ≤ (3 : Int)) := ⟨⟨x, rfl, wfTs_get hwf hx, shTs_get hsh hx, by omega⟩, hk⟩
    refine cIf_pos (decide_eq_true (by omega)) (cIf_pos (decide_eq_true (by omega)) (cIf_pos (decide_eq_true hlt) (cIf_pos (decide_eq_true (encTs_len of).symm) (cIf_pos (decide_eq_true (enc_drop_len (encTs_len of) hlt)) (cIf_pos (encT_like x) (cIf_intro (fun h => ?_) (fun h => ?_)))))))
    · have h0 : ¬ i = 0 := by have := of_decide_eq_true h; omega
      rw [decide_eq_false h0] at hQ
      refine cIf_pos (decide_eq_true (by omega)) ⟨⟨hpre, ?_⟩, cIf_pos (decide_eq_true (by simp only [List.length_append]; omega)) (cIf_pos ?_ (ih (i + 1) _ (by omega) (by omega) (by simp only [List.length_append]; omega) (by omega) ?_))⟩
      · simp only [List.nil_append, List.append_nil, avSizeL, avSize]; omega
      · refine noHL_app ?_ (noHL_rep 0 20)
        simp [noHL, noH, noH_encTs]
      · exact hQ
    · have h0 : i = 0 := by have := of_decide_eq_false h; omega
      rw [decide_eq_true h0] at hQ
      refine ⟨⟨hpre, ?_⟩, cIf_pos (decide_eq_true (by omega)) (cIf_pos ?_ (ih (i + 1) _ (by omega) (by omega) (by simp only [List.length_append]; omega) (by omega) ?_))⟩
      · simp only [List.nil_append, List.append_nil, avSizeL, avSize]; omega
      · refine noHL_app ?_ (noHL_rep 0 20)
        simp [noHL, noH, noH_encTs]
      · exact hQ
omit hit hc hlen hwf hsh hsz in
theorem lst_len {a b : Nat} (h : a + b ≤ 100000) : decide (a + b ≤ 9223372036854775807) = true := decide_eq_true (by omega)
omit hit hc hlen hwf hsh hsz in
theorem node5 {op attr side n : Int} {len : Nat} (h : nodeB op attr side n len = true) : ((op = 2 ∨ op = 3 ∨ op = 4) → 0 ≤ attr ∧ attr ≤ 7) ∧ (op = 5 → 1 ≤ attr ∧ attr ≤ 5 ∧ 1 ≤ side ∧ side ≤ 2 ∧ 0 ≤ n ∧ n ≤ 5) ∧ (op = 6 → 1 ≤ attr ∧ attr ≤ 2 ∧ 1 ≤ side ∧ side ≤ 2 ∧ 0 ≤ n ∧ n ≤ 5) := by
  refine ⟨fun ho => ?_, fun ho => ?_, fun ho => ?_⟩
  · unfold nodeB nodeBx at h
    rcases ho with rfl | rfl | rfl <;> simp at h <;> omega
  · subst ho
    unfold nodeB nodeBx at h
    simp at h
    obtain ⟨⟨⟨h1, h2⟩, h3⟩, h4⟩ := h
    unfold valI at h3
    by_cases a1 : attr = 1
    · rw [if_pos a1] at h3; simp at h3; omega
    · rw [if_neg a1] at h3
      by_cases a2 : attr = 2
      · rw [if_pos a2] at h3; simp at h3; omega
      · rw [if_neg a2] at h3; simp at h3; omega
  · subst ho
    unfold nodeB nodeBx at h
    simp at h
    obtain ⟨⟨⟨h1, h2⟩, h3⟩, h4⟩ := h
    unfold valI at h3
    by_cases a1 : attr = 1
    · rw [if_pos a1] at h3; simp at h3; omega
    · rw [if_neg a1] at h3
      by_cases a2 : attr = 2
      · rw [if_pos a2] at h3; simp at h3; omega
      · rw [if_neg a2] at h3; simp at h3; omega
omit hit hc hlen hwf hsh hsz in
theorem e68 (s j : List UInt8) (k i : Int) (o : Bool) : noHL 0 ([X, X, X, X, X, X, X, .str s, .str j, I k, Bo o, X, X, X, X, X, X, X, X, X, X, X, X, X, X, X, X, X, X, X, X, X, X, X, X, X, X, X, X, X, X, X, X, X, X, X, X, X, X, X, X, X, X, X, X, X, X, X, X, X, X, X, X, X, X, X, X, X, X, X, X, X, X, X, X, X, X, X, X, X, X, X, X, X, X, X, X, X, X, X, X, X, X, X, X, X, X, X, X, X, .vs (encTs of) of.length .none, I of.length, I i] ++ List.replicate 20 X) = true := by
  refine noHL_app ?_ (noHL_rep 0 20)
  simp [noHL, noH, noH_encTs]
theorem w68n (hl : of.length = 1) (hnd : ndL of ≤ 999) (hQ : Q (.ret (.str ([110, 111, 116, 32] ++ wrL it of 3 [] true [])))) :
    cIf (decide (0 < of.length)) (cIf (decide (of.length * 5 = (encTs of).length)) (cIf (decide (5 ≤ (encTs of).length)) (cIf (like zT (el (encTs of) 0 5)) ((((∃ (t : Tst), (elT (el (encTs of) 0 5)) = encT t ∧ wfT t ∧ shT t = true ∧ ndT t ≤ 1000) ∧ (0 : Int) ≤ (3 : Int) ∧ (3 : Int) ≤ (3 : Int)) ∧ avSizeL ([] ++ [AV.agg (elT (el (encTs of) 0 5)), I (3 : Int)] ++ []) < m) ∧ cIf (decide ([110, 111, 116, 32].length + (onEnc encT (fun (t : Tst) => wrT it t (3 : Int)) [] (elT (el (encTs of) 0 5))).length ≤ 9223372036854775807)) (Q (CR.ret (AV.str ([110, 111, 116, 32] ++ onEnc encT (fun (t : Tst) => wrT it t (3 : Int)) [] (elT (el (encTs of) 0 5)))))) False) False) False) False) False := by
  have _ := hc
  obtain ⟨x, rfl⟩ : ∃ x, of = [x] := by
    match of, hl with
    | [x], _ => exact ⟨x, rfl⟩
  have he : el (encTs [x]) 0 5 = encT x := encTs_get (l := [x]) (k := 0) rfl
  have hs := size_get (l := [x]) (k := 0) rfl
  have hlw := wrT_len hit x 3
  have hnx : ndL [x] = ndT x := by simp [ndL]
  have hwr : wrL it [x] 3 [] true [] = wrT it x 3 := by simp [wrL]
  rw [hwr] at hQ
  rw [he, encT_w, onEnc_eq (fun _ _ => encT_inj _ _)]
  refine cIf_pos rfl (cIf_pos (decide_eq_true (encTs_len [x]).symm) (cIf_pos (decide_eq_true (by rw [encTs_len]; exact Nat.le_refl 5)) (cIf_pos (encT_like x) ⟨⟨⟨⟨x, rfl, hwf.1, by simpa [shTs] using hsh, by omega⟩, by omega, by omega⟩, ?_⟩, cIf_pos (lst_len (by simp only [List.length_cons, List.length_nil]; omega)) hQ⟩)))
  simp only [List.nil_append, List.append_nil, avSizeL, avSize]
  omega
theorem l68s (hnd : ndL of ≤ 999) {j : List UInt8} (hj : j.length ≤ 5) {z : Int} (hz : 0 ≤ z ∧ z ≤ 3) (o : Bool) (hQ : Q (.ret (.str (if o then [40] ++ wrL it of z j true [] ++ [41] else wrL it of z j true [])))) :
    WLoop (Tryz.X68 it m) (cd PP 68 [1, 1, 1, 1, 1, 1, 1, 0, 1, 0, 0]) ([X, X, X, X, X, X, X, .str [], .str j, I z, Bo o, X, X, X, X, X, X, X, X, X, X, X, X, X, X, X, X, X, X, X, X, X, X, X, X, X, X, X, X, X, X, X, X, X, X, X, X, X, X, X, X, X, X, X, X, X, X, X, X, X, X, X, X, X, X, X, X, X, X, X, X, X, X, X, X, X, X, X, X, X, X, X, X, X, X, X, X, X, X, X, X, X, X, X, X, X, X, X, X, X, .vs (encTs of) of.length .none, I of.length, I 0] ++ List.replicate 20 X) ⟨[], [], []⟩ (kBlock 1 (kSeq (Tryz.X68 it m) (cd PP 68 [1, 1, 1, 1, 1, 1, 1, 1]) (kRet (Tryz.X68 it m) 68 Q))) :=
  l68 hit hc hlen hwf hsh hsz hj hz o of.length 0 [] rfl (Nat.zero_le _) (by rw [List.drop_zero, List.length_nil]; omega) (by rw [List.drop_zero]; omega) hQ
omit hit hc hlen hwf hsh hsz in
theorem if9 {k : Int} {a b : List UInt8} (hQ : Q (.ret (.str (if k > 0 then a else b)))) : Q (.ret (.str (if decide (k > 0) = true then a else b))) := by
  by_cases h : k > 0
  · rw [if_pos h] at hQ; rw [if_pos (decide_eq_true h)]; exact hQ
  · rw [if_neg h] at hQ; rw [if_neg (by simpa using h)]; exact hQ
theorem w68 {op attr side n : Int} (hn : nodeB op attr side n of.length = true) (hnd : ndL of ≤ 999) {k : Int} (hk : 0 ≤ k ∧ k ≤ 3) (hQ : Q (.ret (.str (wrT it (.mk op attr side n of) k)))) : wpF (Tryz.X68 it m) 68 [.agg [U op, U attr, U side, I n, .vs (encTs of) of.length .none], I k] Q := by
  have n1 := (node5 hn).1
  have n2 := (node5 hn).2.1
  have n3 := (node5 hn).2.2
  have h1 := nm_len attr.toNat
  have h2 := sd_len side.toNat
  have h3 := hit n
  rw [v68]
  simp only [Nat.zero_add, Nat.mul_one]
  rw [wrT] at hQ
  refine cIf_intro (fun h => ?_) (fun e1 => cIf_intro (fun h => ?_) (fun e2 => cIf_intro (fun h => ?_) (fun e3 => cIf_intro (fun h => ?_) (fun e4 => cIf_intro (fun h => ?_) (fun e5 => cIf_intro (fun h => ?_) (fun e6 => cIf_intro (fun h => ?_) (fun e7 => ?_)))))))
  · have h : op = 1 := by simpa using h
    rw [if_pos h] at hQ; exact hQ
  · have h : op = 2 := by simpa using h
    have ha := n1 (by omega)
    rw [if_neg (by omega), if_pos h] at hQ
    exact cIf_pos (decide_eq_true (by omega)) (cIf_pos (decide_eq_true (by omega)) (cIf_pos (decide_eq_true (show attr.toNat < 8 by omega)) (cIf_pos (nm_at (by omega)).2 (cIf_pos (lst_len (by simp only [List.length_cons, List.length_nil]; omega)) hQ))))
  · have h : op = 3 := by simpa using h
    have ha := n1 (by omega)
    rw [if_neg (by omega), if_neg (by omega), if_pos h] at hQ
    exact cIf_pos (decide_eq_true (by omega)) (cIf_pos (decide_eq_true (by omega)) (cIf_pos (decide_eq_true (show attr.toNat < 8 by omega)) (cIf_pos (nm_at (by omega)).2 (cIf_pos (lst_len (by simp only [List.length_cons, List.length_nil]; omega)) hQ))))
  · have h : op = 4 := by simpa using h
    have ha := n1 (by omega)
    rw [if_neg (by omega), if_neg (by omega), if_neg (by omega), if_pos h] at hQ
    exact cIf_pos (decide_eq_true (by omega)) (cIf_pos (decide_eq_true (by omega)) (cIf_pos (decide_eq_true (show attr.toNat < 8 by omega)) (cIf_pos (nm_at (by omega)).2 (cIf_pos (lst_len (by simp only [List.length_cons, List.length_nil]; omega)) hQ))))
  · have h : op = 5 := by simpa using h
    have ha := n2 h
    rw [if_neg (by omega), if_neg (by omega), if_neg (by omega), if_neg (by omega), if_pos h] at hQ
    refine cIf_pos (decide_eq_true (by omega)) (cIf_pos (decide_eq_true (by omega)) (cIf_pos (decide_eq_true (show side.toNat < 3 by omega)) (cIf_pos (sd_at (by omega)).2 (cIf_pos (lst_len (by simp only [List.length_cons, List.length_nil]; omega)) (cIf_pos (decide_eq_true (by omega)) (cIf_pos (decide_eq_true (by omega)) (cIf_pos (decide_eq_true (show attr.toNat < 8 by omega)) (cIf_pos (nm_at (by omega)).2 (cIf_pos (lst_len (by simp only [List.length_append, List.length_cons, List.length_nil]; omega)) ⟨trivial, cIf_intro (fun hk1 => ?_) (fun hk1 => ?_)⟩)))))))))
    · have hk1 : kindI attr = 1 := by simpa using hk1
      have ha1 : attr = 1 ∨ attr = 2 := by unfold kindI at hk1; repeat' split at hk1 <;> omega
      rw [if_pos ha1] at hQ
      exact ⟨by omega, cIf_pos (lst_len (by simp only [List.length_cons, List.length_nil]; omega)) (cIf_pos (lst_len (by simp only [List.length_append, List.length_cons, List.length_nil]; omega)) hQ)⟩
    · have hk1 : ¬ kindI attr = 1 := by simpa using hk1
      have ha1 : ¬ (attr = 1 ∨ attr = 2) := fun hh => hk1 (by unfold kindI; rw [if_pos hh])
      rw [if_neg ha1] at hQ
      exact hQ
  · have h : op = 6 := by simpa using h
    have ha := n3 h
    rw [if_neg (by omega), if_neg (by omega), if_neg (by omega), if_neg (by omega), if_neg (by omega), if_pos h] at hQ
    exact cIf_pos (decide_eq_true (by omega)) (cIf_pos (decide_eq_true (by omega)) (cIf_pos (decide_eq_true (show side.toNat < 3 by omega)) (cIf_pos (sd_at (by omega)).2 (cIf_pos (lst_len (by simp only [List.length_cons, List.length_nil]; omega)) (cIf_pos (decide_eq_true (by omega)) (cIf_pos (decide_eq_true (by omega)) (cIf_pos (decide_eq_true (show attr.toNat < 8 by omega)) (cIf_pos (nm_at (by omega)).2 (cIf_pos (lst_len (by simp only [List.length_append, List.length_cons, List.length_nil]; omega)) (cIf_pos (lst_len (by simp only [List.length_append, List.length_cons, List.length_nil]; omega)) ⟨by omega, trivial, cIf_pos (lst_len (by simp only [List.length_append, List.length_cons, List.length_nil]; omega)) hQ⟩))))))))))
  · have h : op = 7 := by simpa using h
    rw [if_neg (by omega), if_neg (by omega), if_neg (by omega), if_neg (by omega), if_neg (by omega), if_neg (by omega), if_pos h] at hQ
    have hl : of.length = 1 := by
      rcases node_op hn with h' | ⟨h', _⟩ | ⟨_, h'⟩ | h' | h' <;> omega
    exact w68n hit hc hlen hwf hsh hsz hl hnd hQ
  · have h : op ≠ 1 ∧ op ≠ 2 ∧ op ≠ 3 ∧ op ≠ 4 ∧ op ≠ 5 ∧ op ≠ 6 ∧ op ≠ 7 := by simp at e1 e2 e3 e4 e5 e6 e7; omega
    rw [if_neg (by omega), if_neg (by omega), if_neg (by omega), if_neg (by omega), if_neg (by omega), if_neg (by omega), if_neg (by omega)] at hQ
    refine cIf_intro (fun hk1 => cIf_intro (fun h9 => cIf_pos (e68 _ _ _ _ _) (l68s hit hc hlen hwf hsh hsz hnd (by simp) (by omega) _ ?_)) (fun h9 => cIf_pos (e68 _ _ _ _ _) (l68s hit hc hlen hwf hsh hsz hnd (by simp) (by omega) _ ?_))) (fun hk1 => cIf_intro (fun h9 => cIf_pos (e68 _ _ _ _ _) (l68s hit hc hlen hwf hsh hsz hnd (by simp) (by omega) _ ?_)) (fun h9 => cIf_pos (e68 _ _ _ _ _) (l68s hit hc hlen hwf hsh hsz hnd (by simp) (by omega) _ ?_)))
    · have h9 : op = 9 := by simpa using h9
      rw [if_pos h9] at hQ
      exact if9 hQ
    · have h9 : ¬ op = 9 := by simpa using h9
      have hk1 : k = 1 := by simpa using hk1
      rw [if_neg h9, if_pos (.inl hk1)] at hQ
      exact hQ
    · have h9 : op = 9 := by simpa using h9
      rw [if_pos h9] at hQ
      exact if9 hQ
    · have h9 : ¬ op = 9 := by simpa using h9
      have hk1 : ¬ k = 1 := by simpa using hk1
      rw [if_neg h9] at hQ
      by_cases h3 : k = 3
      · rw [if_pos (.inr h3)] at hQ
        rw [show (k == (3 : Int)) = true by simpa using h3]
        exact hQ
      · rw [if_neg (by omega)] at hQ
        rw [show (k == (3 : Int)) = false by simpa using h3]
        exact hQ
end
theorem ndT_mk (op attr side n : Int) (of : List Tst) : ndT (.mk op attr side n of) = 1 + ndL of := by rw [ndT]
theorem ndL_len : ∀ l : List Tst, l.length ≤ ndL l
  | [] => Nat.le_refl _
  | .mk a b c d of :: l => by
    have := ndL_len l
    rw [ndL, ndT_mk, List.length_cons]
    omega
end Go.Proofs
/-! C30 -/
set_option maxRecDepth 100000
set_option linter.unusedVariables false
namespace Go.Proofs
open Go Go.Ev
attribute [local irreducible] wpF
theorem ct68 {it : Int → List UInt8} (hit : ∀ z, (it z).length ≤ 20) (h67 : Ct Tryz.B.c0 67 (R67 it)) : Ct Tryz.B.c0 68 (R68 it) := Ct.of_rec (l := [(67, R67 it), (112, R112)]) (lm := lm68) (tp := [1, 2]) (ct := []) (sm := [(26, 0)]) Tryz.bok (((Cts.nil _).cons ct112).cons h67) ⟨_, _, Tryz.func68, rfl⟩ fun m args D r hc hR hD hm => by
  unfold R68 at hR
  split at hR <;> cases hR
  obtain ⟨⟨⟨op, attr, side, n, of⟩, rfl, hw, hs, hnd⟩, hk⟩ := hD
  simp only [wfT] at hw
  simp only [shT, Bool.and_eq_true] at hs
  rw [ndT_mk] at hnd
  rename_i k
  refine ⟨by simp [noHL, noH, noH_encT], ?_⟩
  rw [show scrubL 0 [AV.agg (encT (.mk op attr side n of)), .int .i64 k] = [AV.agg (encT (.mk op attr side n of)), .int .i64 k] by simp [scrubL, scrub, sc_encT]]
  rw [onEnc_eq (fun _ _ => encT_inj _ _)]
  have hl := ndL_len of
  have hsz : avSizeL (encTs of) + 7 ≤ m := by simp only [avSizeL, avSize, encT] at hm; omega
  rw [show encT (.mk op attr side n of) = [U op, U attr, U side, I n, .vs (encTs of) of.length .none] from by rw [encT]]
  exact w68 hit hc (by omega) hw.2.2.2.2.2.2.2.2.2 hs.2 hsz hs.1 (by omega) hk rfl
theorem itM_len (z : Int) : (itM z).length ≤ 20 := by
  unfold itM
  repeat' split
  all_goals simp
theorem ct67 : Ct Tryz.B.c0 67 (R67 itM) where
  body := ⟨_, _, Tryz.func67, rfl⟩
  ok := fun args D r hR hD => by
    unfold R67 at hR
    split at hR <;> cases hR
    rename_i z
    obtain ⟨n, rfl⟩ : ∃ n : Nat, z = n := ⟨z.toNat, by omega⟩
    exact ⟨rfl, fun G w us h1 h2 h3 => call_of_run (C := Tryz.C0) Tryz.c0ok Tryz.c0w (itC_run (by omega)) G w us h1 h2 h3⟩
theorem ct68' : Ct Tryz.B.c0 68 (R68 itM) := ct68 itM_len ct67
end Go.Proofs
