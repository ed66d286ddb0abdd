/- Contracts of functions of the program and of the reference. -/
import Derived.Test.YtdpfgjljehajbaaGreatDoorK8
import Derived.Test.YtdpfgjljehajbaaGreatDoorKS
set_option linter.unusedVariables false
set_option linter.unusedSimpArgs false
/-! VBB -/
set_option maxRecDepth 100000
set_option linter.unusedVariables false
set_option linter.unusedSimpArgs false
namespace Go.Ev
def shots (s : Sal) (m : Int) : List Int := (List.range s.gu.toNat).map fun (k : Nat) => m + (k : Int) * s.ga
noncomputable def batF (h : Hrs) (z : Int) : List Sal → Int → List Int → Option (List Int)
  | [], _, out => some out
  | s :: l, last, out => match earl h z s (max s.at' (last + 1)) with
    | none => none
    | some m => batF h z l (m + lng s) (out ++ shots s m)
noncomputable def batV (h : Hrs) (z : Int) (l : List Sal) : List Int × Int := if salsE h.op h.cl z l = 0 then (match batF h z l (-1) [] with | none => ([], 50) | some L => (L, 0)) else ([], salsE h.op h.cl z l)
noncomputable def chkB (h : Hrs) (z : Int) : List Sal → Int → List Int → Bool
  | [], _, sh => decide (sh.length = 0)
  | s :: l, last, sh => decide (s.gu ≤ sh.length) && (decide (s.at' ≤ sh.getD 0 0) && decide (last < sh.getD 0 0)) && fireB h z s (sh.getD 0 0) && decide (sh.take s.gu.toNat = shots s (sh.getD 0 0)) && chkB h z l (sh.getD 0 0 + lng s) (sh.drop s.gu.toNat)
noncomputable def cbV (h : Hrs) (z : Int) (l : List Sal) (sh : List Int) : Bool × Int := if salsE h.op h.cl z l = 0 then (chkB h z l (-1) sh, 0) else (false, salsE h.op h.cl z l)
noncomputable def batR (h : Hrs) (z : Int) (l : List AV) : List Int × Int := onEnc (encL encSv) (fun x => batV h z x) ([], 0) l
noncomputable def cbR (h : Hrs) (z : Int) (l s : List AV) : Bool × Int := onEnc (encL encSv) (fun x => onEnc (encL encNum) (fun y => cbV h z x y) (false, 0) s) (false, 0) l
end Go.Ev
namespace Go.Proofs
open Go Go.Ev
noncomputable def R60 : Spc := fun args => match args with
  | [.agg [.int .i64 op, .int .i64 cl, .bool d0, .bool d1, .bool d2, .bool d3, .bool d4, .bool d5, .bool d6], .int .i64 z, .vs l n .none] => some (∃ x, l = encL encSv x ∧ n = x.length ∧ x.length ≤ 1000, .ret (.tup [.vs (encL encNum (batR ⟨op, cl, d0, d1, d2, d3, d4, d5, d6⟩ z l).1) (batR ⟨op, cl, d0, d1, d2, d3, d4, d5, d6⟩ z l).1.length .none, I (batR ⟨op, cl, d0, d1, d2, d3, d4, d5, d6⟩ z l).2]))
  | _ => none
noncomputable def R62 : Spc := fun args => match args with
  | [.agg [.int .i64 op, .int .i64 cl, .bool d0, .bool d1, .bool d2, .bool d3, .bool d4, .bool d5, .bool d6], .int .i64 z, .vs l n .none, .vs s k .none] => some (∃ x y, l = encL encSv x ∧ n = x.length ∧ x.length ≤ 1000 ∧ s = encL encNum y ∧ k = y.length ∧ y.length ≤ 1000000 ∧ ∀ v ∈ y, i64 v, .ret (.tup [Bo (cbR ⟨op, cl, d0, d1, d2, d3, d4, d5, d6⟩ z l s).1, I (cbR ⟨op, cl, d0, d1, d2, d3, d4, d5, d6⟩ z l s).2]))
  | _ => none
def lm35 : List (Nat × List Nat) := [(4, [0, 1, 5]), (8, [])]
noncomputable def Tryz.X35 : WCx := Tryz.B.wcx [] lm35 [] [] []
def lm60 : List (Nat × List Nat) := [(6, [1, 3, 9, 23, 24, 25]), (15, [1, 3, 9, 11, 13, 23, 24, 25, 54, 55]), (19, [1, 3, 9, 23, 24, 25]), (20, [9])]
noncomputable def Tryz.X60 : WCx := Tryz.B.wcx [(126, R126), (127, R127)] lm60 [] [] [(6, 1), (15, 2), (19, 1), (20, 0)]
def lm62 : List (Nat × List Nat) := [(6, [1, 3, 4, 11, 23, 24, 25]), (11, [1, 3, 4, 13, 23, 24, 25, 62, 63, 64]), (16, [1, 3, 4, 13, 23, 24, 25]), (18, [1, 3, 4, 11, 23, 24, 25]), (19, [3])]
noncomputable def Tryz.X62 : WCx := Tryz.B.wcx [(126, R126), (130, R130)] lm62 [] [] [(6, 1), (11, 2), (16, 2), (18, 1), (19, 0)]
def lm63 : List (Nat × List Nat) := [(7, [1, 2, 3, 4, 11, 12, 13]), (8, [1, 2, 3, 4, 11, 12, 13]), (18, [1, 2, 3, 4, 11, 12, 13, 14, 16]), (23, [1, 2, 3, 4, 11, 12, 13]), (24, [3, 11])]
noncomputable def Tryz.X63 : WCx := Tryz.B.wcx [(128, R126), (131, R131)] lm63 [] [] [(7, 1), (8, 1), (18, 1), (23, 1), (24, 0)]
def lm16 : List (Nat × List Nat) := [(17, [3, 9, 100, 101]), (22, [])]
noncomputable def Tryz.X16 : WCx := Tryz.B.wcx [(60, R60), (62, R62), (26, R26)] lm16 [] [] [(17, 0), (22, 0)]
theorem v35 (a b : List AV) (n m : Nat) (Q : CR → Prop) : wpF Tryz.X35 35 [.vs a n .none, .vs b m .none] Q =
  (cIf ((↑n : Int) != (↑m : Int)) (Q (CR.ret (Bo false))) (WLoop Tryz.X35 (cd Tryz.X35.P 35 [1, 1, 0, 1, 0, 0]) ([AV.vs a n Tok.none, AV.vs b m Tok.none, X, X, X, I (0 : Int)] ++ List.replicate 20 X) (St.mk [] [] []) (kBlock 0 (kSeq Tryz.X35 (cd Tryz.X35.P 35 [1, 1, 1]) (kRet Tryz.X35 35 Q))))) := by kernel_rfl
theorem v60 (op cl z : Int) (d0 d1 d2 d3 d4 d5 d6 : Bool) (l : List AV) (n : Nat) (Q : CR → Prop) : wpF Tryz.X60 60 [.agg [I op, I cl, Bo d0, Bo d1, Bo d2, Bo d3, Bo d4, Bo d5, Bo d6], I z, .vs l n .none] Q =
  ((∃ (x : List Sal), l = encL encSv x ∧ n = x.length ∧ x.length ≤ 1000) ∧ cIf (onEnc (encL encSv) (fun (x : List Sal) => salsE op cl z x) (0 : Int) l != (0 : Int)) (Q (CR.ret (AV.tup [AV.vs [] 0 Tok.zero, I (onEnc (encL encSv) (fun (x : List Sal) => salsE op cl z x) (0 : Int) l)]))) (cIf (noHL 1 ([X, I z, X, AV.ptr 0 0, X, X, X, X, X, AV.vs [] 0 Tok.zero, X, X, X, X, X, X, X, X, X, X, X, X, X, AV.vs l n Tok.none, I (↑n : Int), I (0 : Int)] ++ List.replicate 44 X)) (WLoop Tryz.X60 (cd Tryz.X60.P 60 [1, 1, 1, 0, 1, 0, 0]) ([X, I z, X, AV.ptr 0 0, X, X, X, X, X, AV.vs [] 0 Tok.zero, X, X, X, X, X, X, X, X, X, X, X, X, X, AV.vs l n Tok.none, I (↑n : Int), I (0 : Int)] ++ List.replicate 44 X) (St.mk [some (HB.cells [I op, I cl, Bo d0, Bo d1, Bo d2, Bo d3, Bo d4, Bo d5, Bo d6] 81)] [] []) (kBlock 0 (kSeq Tryz.X60 (cd Tryz.X60.P 60 [1, 1, 1, 1]) (kRet Tryz.X60 60 Q)))) False)) := by kernel_rfl
theorem v60l (op cl z : Int) (d0 d1 d2 d3 d4 d5 d6 : Bool) (l cs : List AV) (n nd j i : Nat) (T : List (Nat × (Nat × Nat))) (Q : CR → Prop) : wpC Tryz.X60 (cd PP 60 [1, 1, 1, 0, 1, 0, 0]) ([X, I z, X, .ptr 0 0, X, X, X, X, X, .vs cs nd (.own j), X, X, X, X, X, X, X, X, X, X, X, X, X, .vs l n .none, I n, I i] ++ List.replicate 44 X) ⟨[some (.cells [I op, I cl, Bo d0, Bo d1, Bo d2, Bo d3, Bo d4, Bo d5, Bo d6] 81)], T, []⟩ (kLoop Tryz.X60 (cd PP 60 [1, 1, 1, 0, 1, 0, 0]) (kBlock 0 (kSeq Tryz.X60 (cd PP 60 [1, 1, 1, 1]) (kRet Tryz.X60 60 Q)))) =
  (cIf (decide ((↑i : Int) < (↑n : Int))) (cIf (decide (i < n)) (cIf (decide (n * 3 = l.length)) (cIf (decide (3 ≤ (List.drop (i * 3) l).length)) (cIf (like [I (0 : Int), I (0 : Int), I (0 : Int)] (el (List.drop (i * 3) l) 0 3)) (cIf (decide ((↑nd : Int) > (0 : Int))) (cIf (decide ((0 : Int) ≤ IntKind.i64.wrap ((↑nd : Int) - (1 : Int)))) (cIf (decide ((IntKind.i64.wrap ((↑nd : Int) - (1 : Int))).toNat < nd)) (cIf (decide (nd * 1 = cs.length)) (cIf (decide (0 < (List.drop ((IntKind.i64.wrap ((↑nd : Int) - (1 : Int))).toNat * 1) cs).length)) (cIf (likeOk (AV.ofVal (Value.int IntKind.i64 (0 : Int))) ((List.drop ((IntKind.i64.wrap ((↑nd : Int) - (1 : Int))).toNat * 1) cs).getD 0 X)) ((okHrs (Hrs.mk op cl d0 d1 d2 d3 d4 d5 d6) ∧ okZone z ∧ okSal (Sal.mk (cI (el (List.drop (i * 3) l) 0 3) 0) (cI (el (List.drop (i * 3) l) 0 3) 1) (cI (el (List.drop (i * 3) l) 0 3) 2)) ∧ ((0 : Int) ≤ if IntKind.i64.wrap (cI (List.drop ((IntKind.i64.wrap ((↑nd : Int) - (1 : Int))).toNat * 1) cs) 0 + (1 : Int)) > cI (el (List.drop (i * 3) l) 0 3) 0 then IntKind.i64.wrap (cI (List.drop ((IntKind.i64.wrap ((↑nd : Int) - (1 : Int))).toNat * 1) cs) 0 + (1 : Int)) else cI (el (List.drop (i * 3) l) 0 3) 0) ∧ (if IntKind.i64.wrap (cI (List.drop ((IntKind.i64.wrap ((↑nd : Int) - (1 : Int))).toNat * 1) cs) 0 + (1 : Int)) > cI (el (List.drop (i * 3) l) 0 3) 0 then IntKind.i64.wrap (cI (List.drop ((IntKind.i64.wrap ((↑nd : Int) - (1 : Int))).toNat * 1) cs) 0 + (1 : Int)) else cI (el (List.drop (i * 3) l) 0 3) 0) ≤ (144001440 : Int)) ∧ cIf (!(earlV (Hrs.mk op cl d0 d1 d2 d3 d4 d5 d6) z (Sal.mk (cI (el (List.drop (i * 3) l) 0 3) 0) (cI (el (List.drop (i * 3) l) 0 3) 1) (cI (el (List.drop (i * 3) l) 0 3) 2)) (if IntKind.i64.wrap (cI (List.drop ((IntKind.i64.wrap ((↑nd : Int) - (1 : Int))).toNat * 1) cs) 0 + (1 : Int)) > cI (el (List.drop (i * 3) l) 0 3) 0 then IntKind.i64.wrap (cI (List.drop ((IntKind.i64.wrap ((↑nd : Int) - (1 : Int))).toNat * 1) cs) 0 + (1 : Int)) else cI (el (List.drop (i * 3) l) 0 3) 0)).snd) (Q (CR.ret (AV.tup [AV.vs [] 0 Tok.zero, I (50 : Int)]))) (cIf (noHL 2 ([X, I z, X, AV.ptr 0 0, X, X, X, X, X, AV.vs cs nd (Tok.own j), X, AV.ptr 1 0, X, AV.int IntKind.i64 (earlV (Hrs.mk op cl d0 d1 d2 d3 d4 d5 d6) z (Sal.mk (cI (el (List.drop (i * 3) l) 0 3) 0) (cI (el (List.drop (i * 3) l) 0 3) 1) (cI (el (List.drop (i * 3) l) 0 3) 2)) (if IntKind.i64.wrap (cI (List.drop ((IntKind.i64.wrap ((↑nd : Int) - (1 : Int))).toNat * 1) cs) 0 + (1 : Int)) > cI (el (List.drop (i * 3) l) 0 3) 0 then IntKind.i64.wrap (cI (List.drop ((IntKind.i64.wrap ((↑nd : Int) - (1 : Int))).toNat * 1) cs) 0 + (1 : Int)) else cI (el (List.drop (i * 3) l) 0 3) 0)).fst, X, X, X, X, X, X, X, X, X, AV.vs l n Tok.none, I (↑n : Int), I (↑i : Int), X, X, X, X, X, X, X, X, X, X, X, X, X, X, X, X, X, X, X, X, X, X, X, X, X, X, X, X, I (cI (el (List.drop (i * 3) l) 0 3) 1), I (0 : Int)] ++ List.replicate 14 X)) (WLoop Tryz.X60 (cd PP 60 [1, 1, 1, 0, 1, 0, 0, 1, 1, 0, 0, 1, 1, 1, 1, 1, 1, 0, 0]) ([X, I z, X, AV.ptr 0 0, X, X, X, X, X, AV.vs cs nd (Tok.own j), X, AV.ptr 1 0, X, AV.int IntKind.i64 (earlV (Hrs.mk op cl d0 d1 d2 d3 d4 d5 d6) z (Sal.mk (cI (el (List.drop (i * 3) l) 0 3) 0) (cI (el (List.drop (i * 3) l) 0 3) 1) (cI (el (List.drop (i * 3) l) 0 3) 2)) (if IntKind.i64.wrap (cI (List.drop ((IntKind.i64.wrap ((↑nd : Int) - (1 : Int))).toNat * 1) cs) 0 + (1 : Int)) > cI (el (List.drop (i * 3) l) 0 3) 0 then IntKind.i64.wrap (cI (List.drop ((IntKind.i64.wrap ((↑nd : Int) - (1 : Int))).toNat * 1) cs) 0 + (1 : Int)) else cI (el (List.drop (i * 3) l) 0 3) 0)).fst, X, X, X, X, X, X, X, X, X, AV.vs l n Tok.none, I (↑n : Int), I (↑i : Int), X, X, X, X, X, X, X, X, X, X, X, X, X, X, X, X, X, X, X, X, X, X, X, X, X, X, X, X, I (cI (el (List.drop (i * 3) l) 0 3) 1), I (0 : Int)] ++ List.replicate 14 X) (St.mk [some (HB.cells [I op, I cl, Bo d0, Bo d1, Bo d2, Bo d3, Bo d4, Bo d5, Bo d6] 81), some (HB.cells [I (cI (el (List.drop (i * 3) l) 0 3) 0), I (cI (el (List.drop (i * 3) l) 0 3) 1), I (cI (el (List.drop (i * 3) l) 0 3) 2)] 103)] T []) (kBlock 2 (kBlock 1 (kSeq Tryz.X60 (cd PP 60 [1, 1, 1, 0, 1, 0, 0, 1, 1, 1]) (kLoop Tryz.X60 (cd PP 60 [1, 1, 1, 0, 1, 0, 0]) (kBlock 0 (kSeq Tryz.X60 (cd PP 60 [1, 1, 1, 1]) (kRet Tryz.X60 60 Q)))))))) False)) False) False) False) False) False) ((okHrs (Hrs.mk op cl d0 d1 d2 d3 d4 d5 d6) ∧ okZone z ∧ okSal (Sal.mk (cI (el (List.drop (i * 3) l) 0 3) 0) (cI (el (List.drop (i * 3) l) 0 3) 1) (cI (el (List.drop (i * 3) l) 0 3) 2)) ∧ (0 : Int) ≤ cI (el (List.drop (i * 3) l) 0 3) 0 ∧ cI (el (List.drop (i * 3) l) 0 3) 0 ≤ (144001440 : Int)) ∧ cIf (!(earlV (Hrs.mk op cl d0 d1 d2 d3 d4 d5 d6) z (Sal.mk (cI (el (List.drop (i * 3) l) 0 3) 0) (cI (el (List.drop (i * 3) l) 0 3) 1) (cI (el (List.drop (i * 3) l) 0 3) 2)) (cI (el (List.drop (i * 3) l) 0 3) 0)).snd) (Q (CR.ret (AV.tup [AV.vs [] 0 Tok.zero, I (50 : Int)]))) (cIf (noHL 2 ([X, I z, X, AV.ptr 0 0, X, X, X, X, X, AV.vs cs nd (Tok.own j), X, AV.ptr 1 0, X, AV.int IntKind.i64 (earlV (Hrs.mk op cl d0 d1 d2 d3 d4 d5 d6) z (Sal.mk (cI (el (List.drop (i * 3) l) 0 3) 0) (cI (el (List.drop (i * 3) l) 0 3) 1) (cI (el (List.drop (i * 3) l) 0 3) 2)) (cI (el (List.drop (i * 3) l) 0 3) 0)).fst, X, X, X, X, X, X, X, X, X, AV.vs l n Tok.none, I (↑n : Int), I (↑i : Int), X, X, X, X, X, X, X, X, X, X, X, X, X, X, X, X, X, X, X, X, X, X, X, X, X, X, X, X, I (cI (el (List.drop (i * 3) l) 0 3) 1), I (0 : Int)] ++ List.replicate 14 X)) (WLoop Tryz.X60 (cd PP 60 [1, 1, 1, 0, 1, 0, 0, 1, 1, 0, 0, 1, 1, 1, 1, 1, 1, 0, 0]) ([X, I z, X, AV.ptr 0 0, X, X, X, X, X, AV.vs cs nd (Tok.own j), X, AV.ptr 1 0, X, AV.int IntKind.i64 (earlV (Hrs.mk op cl d0 d1 d2 d3 d4 d5 d6) z (Sal.mk (cI (el (List.drop (i * 3) l) 0 3) 0) (cI (el (List.drop (i * 3) l) 0 3) 1) (cI (el (List.drop (i * 3) l) 0 3) 2)) (cI (el (List.drop (i * 3) l) 0 3) 0)).fst, X, X, X, X, X, X, X, X, X, AV.vs l n Tok.none, I (↑n : Int), I (↑i : Int), X, X, X, X, X, X, X, X, X, X, X, X, X, X, X, X, X, X, X, X, X, X, X, X, X, X, X, X, I (cI (el (List.drop (i * 3) l) 0 3) 1), I (0 : Int)] ++ List.replicate 14 X) (St.mk [some (HB.cells [I op, I cl, Bo d0, Bo d1, Bo d2, Bo d3, Bo d4, Bo d5, Bo d6] 81), some (HB.cells [I (cI (el (List.drop (i * 3) l) 0 3) 0), I (cI (el (List.drop (i * 3) l) 0 3) 1), I (cI (el (List.drop (i * 3) l) 0 3) 2)] 103)] T []) (kBlock 2 (kBlock 1 (kSeq Tryz.X60 (cd PP 60 [1, 1, 1, 0, 1, 0, 0, 1, 1, 1]) (kLoop Tryz.X60 (cd PP 60 [1, 1, 1, 0, 1, 0, 0]) (kBlock 0 (kSeq Tryz.X60 (cd PP 60 [1, 1, 1, 1]) (kRet Tryz.X60 60 Q)))))))) False))) False) False) False) False) (kRet Tryz.X60 60 Q EX.ret [X, X, X, X, X, X, AV.vs cs nd (Tok.own j), I (0 : Int), X, AV.vs cs nd (Tok.own j), X, X, X, X, X, X, X, X, X, X, X, X, X, X, X, X, X, X, X, X, X, X, X, X, X, X, X, X, X, X, X, X, X, X, X, X, X, X, X, X, X, X, X, X, X, X, X, X, X, X, X, X, X, X, X, X, X, X, X, AV.vs cs nd (Tok.own j)] (St.mk [some (HB.cells [I op, I cl, Bo d0, Bo d1, Bo d2, Bo d3, Bo d4, Bo d5, Bo d6] 81)] T []))) := by kernel_rfl
theorem v60l2 (op cl z a g p m : Int) (d0 d1 d2 d3 d4 d5 d6 : Bool) (l cs : List AV) (n nd j i k : Nat) (T : List (Nat × (Nat × Nat))) (Q : CR → Prop) : wpC Tryz.X60 (cd PP 60 [1, 1, 1, 0, 1, 0, 0, 1, 1, 0, 0, 1, 1, 1, 1, 1, 1, 0, 0]) ([X, I z, X, .ptr 0 0, X, X, X, X, X, .vs cs nd (.own j), X, .ptr 1 0, X, I m, X, X, X, X, X, X, X, X, X, .vs l n .none, I n, I i, X, X, X, X, X, X, X, X, X, X, X, X, X, X, X, X, X, X, X, X, X, X, X, X, X, X, X, X, I g, I k] ++ List.replicate 14 X) ⟨[some (.cells [I op, I cl, Bo d0, Bo d1, Bo d2, Bo d3, Bo d4, Bo d5, Bo d6] 81), some (.cells [I a, I g, I p] 103)], T, []⟩ (kLoop Tryz.X60 (cd PP 60 [1, 1, 1, 0, 1, 0, 0, 1, 1, 0, 0, 1, 1, 1, 1, 1, 1, 0, 0]) (kBlock 2 (kBlock 1 (kSeq Tryz.X60 (cd PP 60 [1, 1, 1, 0, 1, 0, 0, 1, 1, 1]) (kLoop Tryz.X60 (cd PP 60 [1, 1, 1, 0, 1, 0, 0]) (kBlock 0 (kSeq Tryz.X60 (cd PP 60 [1, 1, 1, 1]) (kRet Tryz.X60 60 Q)))))))) =
  (cIf (decide ((↑k : Int) < g)) (cIf (decide ((nd + 1) * 8 ≤ 140737488355328)) (cIf (decide (nd + 1 ≤ 140737488355328)) (cIf (decide (cs.length = nd * 1)) (cIf (decide ((T ++ [(1, 1, 3)])[j]? = some (nd, 1, 3))) (cIf (noHL 2 ([X, I z, X, AV.ptr 0 0, X, X, X, X, X, AV.vs (cs ++ [I (IntKind.i64.wrap (m + IntKind.i64.wrap ((↑k : Int) * p)))]) (nd + 1) (Tok.own j), X, AV.ptr 1 0, X, I m, X, X, X, X, X, X, X, X, X, AV.vs l n Tok.none, I (↑n : Int), I (↑i : Int), X, X, X, X, X, X, X, X, X, X, X, X, X, X, X, X, X, X, X, X, X, X, X, X, X, X, X, X, I g, I (IntKind.i64.wrap ((↑k : Int) + (1 : Int)))] ++ List.replicate 14 X)) (WLoop Tryz.X60 (cd PP 60 [1, 1, 1, 0, 1, 0, 0, 1, 1, 0, 0, 1, 1, 1, 1, 1, 1, 0, 0]) ([X, I z, X, AV.ptr 0 0, X, X, X, X, X, AV.vs (cs ++ [I (IntKind.i64.wrap (m + IntKind.i64.wrap ((↑k : Int) * p)))]) (nd + 1) (Tok.own j), X, AV.ptr 1 0, X, I m, X, X, X, X, X, X, X, X, X, AV.vs l n Tok.none, I (↑n : Int), I (↑i : Int), X, X, X, X, X, X, X, X, X, X, X, X, X, X, X, X, X, X, X, X, X, X, X, X, X, X, X, X, I g, I (IntKind.i64.wrap ((↑k : Int) + (1 : Int)))] ++ List.replicate 14 X) (St.mk [some (HB.cells [I op, I cl, Bo d0, Bo d1, Bo d2, Bo d3, Bo d4, Bo d5, Bo d6] 81), some (HB.cells [I a, I g, I p] 103)] ((T ++ [(1, 1, 3)]).set j (nd + 1, 1, 3)) []) (kBlock 2 (kBlock 1 (kSeq Tryz.X60 (cd PP 60 [1, 1, 1, 0, 1, 0, 0, 1, 1, 1]) (kLoop Tryz.X60 (cd PP 60 [1, 1, 1, 0, 1, 0, 0]) (kBlock 0 (kSeq Tryz.X60 (cd PP 60 [1, 1, 1, 1]) (kRet Tryz.X60 60 Q)))))))) False) False) False) False) False) (cIf (noHL 1 ([X, I z, X, AV.ptr 0 0, X, X, X, X, X, AV.vs cs nd (Tok.own j), X, X, X, X, X, X, X, X, X, X, X, X, X, AV.vs l n Tok.none, I (↑n : Int), I (IntKind.i64.wrap ((↑i : Int) + (1 : Int)))] ++ List.replicate 44 X)) (WLoop Tryz.X60 (cd PP 60 [1, 1, 1, 0, 1, 0, 0]) ([X, I z, X, AV.ptr 0 0, X, X, X, X, X, AV.vs cs nd (Tok.own j), X, X, X, X, X, X, X, X, X, X, X, X, X, AV.vs l n Tok.none, I (↑n : Int), I (IntKind.i64.wrap ((↑i : Int) + (1 : Int)))] ++ List.replicate 44 X) (St.mk [some (HB.cells [I op, I cl, Bo d0, Bo d1, Bo d2, Bo d3, Bo d4, Bo d5, Bo d6] 81)] T []) (kBlock 0 (kSeq Tryz.X60 (cd PP 60 [1, 1, 1, 1]) (kRet Tryz.X60 60 Q)))) False)) := by kernel_rfl
theorem v62 (op cl z : Int) (d0 d1 d2 d3 d4 d5 d6 : Bool) (l s : List AV) (n k : Nat) (Q : CR → Prop) : wpF Tryz.X62 62 [.agg [I op, I cl, Bo d0, Bo d1, Bo d2, Bo d3, Bo d4, Bo d5, Bo d6], I z, .vs l n .none, .vs s k .none] Q =
  ((∃ (x : List Sal), l = encL encSv x ∧ n = x.length ∧ x.length ≤ 1000) ∧ cIf (onEnc (encL encSv) (fun (x : List Sal) => salsE op cl z x) (0 : Int) l != (0 : Int)) (Q (CR.ret (AV.tup [Bo false, I (onEnc (encL encSv) (fun (x : List Sal) => salsE op cl z x) (0 : Int) l)]))) (cIf (noHL 1 ([X, I z, X, AV.vs s k Tok.none, AV.ptr 0 0, X, X, X, X, X, X, I (-1 : Int), X, X, X, X, X, X, X, X, X, X, X, AV.vs l n Tok.none, I (↑n : Int), I (0 : Int)] ++ List.replicate 68 X)) (WLoop Tryz.X62 (cd Tryz.X62.P 62 [1, 1, 1, 0, 1, 0, 0]) ([X, I z, X, AV.vs s k Tok.none, AV.ptr 0 0, X, X, X, X, X, X, I (-1 : Int), X, X, X, X, X, X, X, X, X, X, X, AV.vs l n Tok.none, I (↑n : Int), I (0 : Int)] ++ List.replicate 68 X) (St.mk [some (HB.cells [I op, I cl, Bo d0, Bo d1, Bo d2, Bo d3, Bo d4, Bo d5, Bo d6] 81)] [] []) (kBlock 0 (kSeq Tryz.X62 (cd Tryz.X62.P 62 [1, 1, 1, 1]) (kRet Tryz.X62 62 Q)))) False)) := by kernel_rfl
theorem v62l (op cl z la : Int) (d0 d1 d2 d3 d4 d5 d6 : Bool) (l s : List AV) (n k i : Nat) (Q : CR → Prop) : wpC Tryz.X62 (cd PP 62 [1, 1, 1, 0, 1, 0, 0]) ([X, I z, X, .vs s k .none, .ptr 0 0, X, X, X, X, X, X, I la, X, X, X, X, X, X, X, X, X, X, X, .vs l n .none, I n, I i] ++ List.replicate 68 X) ⟨[some (.cells [I op, I cl, Bo d0, Bo d1, Bo d2, Bo d3, Bo d4, Bo d5, Bo d6] 81)], [], []⟩ (kLoop Tryz.X62 (cd PP 62 [1, 1, 1, 0, 1, 0, 0]) (kBlock 0 (kSeq Tryz.X62 (cd PP 62 [1, 1, 1, 1]) (kRet Tryz.X62 62 Q)))) =
  (cIf (decide ((↑i : Int) < (↑n : Int))) (cIf (decide (i < n)) (cIf (decide (n * 3 = l.length)) (cIf (decide (3 ≤ (List.drop (i * 3) l).length)) (cIf (like [I (0 : Int), I (0 : Int), I (0 : Int)] (el (List.drop (i * 3) l) 0 3)) (cIf (decide ((↑k : Int) < cI (el (List.drop (i * 3) l) 0 3) 1)) (Q (CR.ret (AV.tup [Bo false, I (0 : Int)]))) (cIf (decide (0 < k)) (cIf (decide (k * 1 = s.length)) (cIf (decide (0 < s.length)) (cIf (likeOk (AV.ofVal (Value.int IntKind.i64 (0 : Int))) (s.getD 0 X)) (cIf (decide (cI s 0 < cI (el (List.drop (i * 3) l) 0 3) 0)) (Q (CR.ret (AV.tup [Bo false, I (0 : Int)]))) (cIf (decide (0 < k)) (cIf (decide (k * 1 = s.length)) (cIf (decide (0 < s.length)) (cIf (likeOk (AV.ofVal (Value.int IntKind.i64 (0 : Int))) (s.getD 0 X)) (cIf (decide (cI s 0 ≤ la)) (Q (CR.ret (AV.tup [Bo false, I (0 : Int)]))) (cIf (decide (0 < k)) (cIf (decide (k * 1 = s.length)) (cIf (decide (0 < s.length)) (cIf (likeOk (AV.ofVal (Value.int IntKind.i64 (0 : Int))) (s.getD 0 X)) ((okHrs (Hrs.mk op cl d0 d1 d2 d3 d4 d5 d6) ∧ okZone z ∧ okSal (Sal.mk (cI (el (List.drop (i * 3) l) 0 3) 0) (cI (el (List.drop (i * 3) l) 0 3) 1) (cI (el (List.drop (i * 3) l) 0 3) 2))) ∧ St.mk [some (HB.cells [I op, I cl, Bo d0, Bo d1, Bo d2, Bo d3, Bo d4, Bo d5, Bo d6] 81), some (HB.cells [I (cI (el (List.drop (i * 3) l) 0 3) 0), I (cI (el (List.drop (i * 3) l) 0 3) 1), I (cI (el (List.drop (i * 3) l) 0 3) 2)] 103)] [] [1] = St.mk [some (HB.cells [I op, I cl, Bo d0, Bo d1, Bo d2, Bo d3, Bo d4, Bo d5, Bo d6] 81), some (HB.cells [I (cI (el (List.drop (i * 3) l) 0 3) 0), I (cI (el (List.drop (i * 3) l) 0 3) 1), I (cI (el (List.drop (i * 3) l) 0 3) 2)] 103)] [] [1] ∧ cIf (!fireB (Hrs.mk op cl d0 d1 d2 d3 d4 d5 d6) z (Sal.mk (cI (el (List.drop (i * 3) l) 0 3) 0) (cI (el (List.drop (i * 3) l) 0 3) 1) (cI (el (List.drop (i * 3) l) 0 3) 2)) (cI s 0)) (Q (CR.ret (AV.tup [Bo false, I (0 : Int)]))) (cIf (decide ((0 : Int) ≤ cI (el (List.drop (i * 3) l) 0 3) 1)) (cIf (decide ((cI (el (List.drop (i * 3) l) 0 3) 1).toNat ≤ k)) (cIf (noHL 2 ([X, I z, X, AV.vs s k Tok.none, AV.ptr 0 0, X, X, X, X, X, X, X, X, AV.ptr 1 0, X, X, X, X, X, X, X, X, X, AV.vs l n Tok.none, I (↑n : Int), I (↑i : Int), X, X, X, X, X, X, X, X, X, X, X, X, X, X, X, X, X, X, X, X, X, X, X, X, X, X, X, X, X, X, X, X, X, X, X, X, AV.vs (List.take (((cI (el (List.drop (i * 3) l) 0 3) 1).toNat - 0) * 1) s) ((cI (el (List.drop (i * 3) l) 0 3) 1).toNat - 0) (if 0 = 0 ∧ (cI (el (List.drop (i * 3) l) 0 3) 1).toNat = k then Tok.none else Tok.none), I (↑((cI (el (List.drop (i * 3) l) 0 3) 1).toNat - 0) : Int), I (0 : Int)] ++ List.replicate 29 X)) (WLoop Tryz.X62 (cd PP 62 [1, 1, 1, 0, 1, 0, 0, 1, 1, 0, 0, 1, 1, 0, 1, 0, 0]) ([X, I z, X, AV.vs s k Tok.none, AV.ptr 0 0, X, X, X, X, X, X, X, X, AV.ptr 1 0, X, X, X, X, X, X, X, X, X, AV.vs l n Tok.none, I (↑n : Int), I (↑i : Int), X, X, X, X, X, X, X, X, X, X, X, X, X, X, X, X, X, X, X, X, X, X, X, X, X, X, X, X, X, X, X, X, X, X, X, X, AV.vs (List.take (((cI (el (List.drop (i * 3) l) 0 3) 1).toNat - 0) * 1) s) ((cI (el (List.drop (i * 3) l) 0 3) 1).toNat - 0) (if 0 = 0 ∧ (cI (el (List.drop (i * 3) l) 0 3) 1).toNat = k then Tok.none else Tok.none), I (↑((cI (el (List.drop (i * 3) l) 0 3) 1).toNat - 0) : Int), I (0 : Int)] ++ List.replicate 29 X) (St.mk [some (HB.cells [I op, I cl, Bo d0, Bo d1, Bo d2, Bo d3, Bo d4, Bo d5, Bo d6] 81), some (HB.cells [I (cI (el (List.drop (i * 3) l) 0 3) 0), I (cI (el (List.drop (i * 3) l) 0 3) 1), I (cI (el (List.drop (i * 3) l) 0 3) 2)] 103)] [] []) (kBlock 2 (kSeq Tryz.X62 (cd PP 62 [1, 1, 1, 0, 1, 0, 0, 1, 1, 0, 0, 1, 1, 1]) (kBlock 1 (kSeq Tryz.X62 (cd PP 62 [1, 1, 1, 0, 1, 0, 0, 1, 1, 1]) (kLoop Tryz.X62 (cd PP 62 [1, 1, 1, 0, 1, 0, 0]) (kBlock 0 (kSeq Tryz.X62 (cd PP 62 [1, 1, 1, 1]) (kRet Tryz.X62 62 Q))))))))) False) False) False)) False) False) False) False)) False) False) False) False)) False) False) False) False)) False) False) False) False) (Q (CR.ret (AV.tup [Bo ((↑k : Int) == (0 : Int)), I (0 : Int)])))) := by kernel_rfl
theorem v62l2 (op cl z a g p : Int) (d0 d1 d2 d3 d4 d5 d6 : Bool) (l s s2 : List AV) (n k k2 i q : Nat) (Q : CR → Prop) : wpC Tryz.X62 (cd PP 62 [1, 1, 1, 0, 1, 0, 0, 1, 1, 0, 0, 1, 1, 0, 1, 0, 0]) ([X, I z, X, .vs s k .none, .ptr 0 0, X, X, X, X, X, X, X, X, .ptr 1 0, X, X, X, X, X, X, X, X, X, .vs l n .none, I n, I i, X, X, X, X, X, X, X, X, X, X, X, X, X, X, X, X, X, X, X, X, X, X, X, X, X, X, X, X, X, X, X, X, X, X, X, X, .vs s2 k2 .none, I k2, I q] ++ List.replicate 29 X) ⟨[some (.cells [I op, I cl, Bo d0, Bo d1, Bo d2, Bo d3, Bo d4, Bo d5, Bo d6] 81), some (.cells [I a, I g, I p] 103)], [], []⟩ (kLoop Tryz.X62 (cd PP 62 [1, 1, 1, 0, 1, 0, 0, 1, 1, 0, 0, 1, 1, 0, 1, 0, 0]) (kBlock 2 (kSeq Tryz.X62 (cd PP 62 [1, 1, 1, 0, 1, 0, 0, 1, 1, 0, 0, 1, 1, 1]) (kBlock 1 (kSeq Tryz.X62 (cd PP 62 [1, 1, 1, 0, 1, 0, 0, 1, 1, 1]) (kLoop Tryz.X62 (cd PP 62 [1, 1, 1, 0, 1, 0, 0]) (kBlock 0 (kSeq Tryz.X62 (cd PP 62 [1, 1, 1, 1]) (kRet Tryz.X62 62 Q))))))))) =
  (cIf (decide ((↑q : Int) < (↑k2 : Int))) (cIf (decide (q < k2)) (cIf (decide (k2 * 1 = s2.length)) (cIf (decide (0 < (List.drop (q * 1) s2).length)) (cIf (likeOk (AV.ofVal (Value.int IntKind.i64 (0 : Int))) ((List.drop (q * 1) s2).getD 0 X)) (cIf (decide (0 < k)) (cIf (decide (k * 1 = s.length)) (cIf (decide (0 < s.length)) (cIf (likeOk (AV.ofVal (Value.int IntKind.i64 (0 : Int))) (s.getD 0 X)) (cIf (cI (List.drop (q * 1) s2) 0 != IntKind.i64.wrap (cI s 0 + IntKind.i64.wrap ((↑q : Int) * p))) (Q (CR.ret (AV.tup [Bo false, I (0 : Int)]))) (cIf (noHL 2 ([X, I z, X, AV.vs s k Tok.none, AV.ptr 0 0, X, X, X, X, X, X, X, X, AV.ptr 1 0, X, X, X, X, X, X, X, X, X, AV.vs l n Tok.none, I (↑n : Int), I (↑i : Int), X, X, X, X, X, X, X, X, X, X, X, X, X, X, X, X, X, X, X, X, X, X, X, X, X, X, X, X, X, X, X, X, X, X, X, X, AV.vs s2 k2 Tok.none, I (↑k2 : Int), I (IntKind.i64.wrap ((↑q : Int) + (1 : Int)))] ++ List.replicate 29 X)) (WLoop Tryz.X62 (cd PP 62 [1, 1, 1, 0, 1, 0, 0, 1, 1, 0, 0, 1, 1, 0, 1, 0, 0]) ([X, I z, X, AV.vs s k Tok.none, AV.ptr 0 0, X, X, X, X, X, X, X, X, AV.ptr 1 0, X, X, X, X, X, X, X, X, X, AV.vs l n Tok.none, I (↑n : Int), I (↑i : Int), X, X, X, X, X, X, X, X, X, X, X, X, X, X, X, X, X, X, X, X, X, X, X, X, X, X, X, X, X, X, X, X, X, X, X, X, AV.vs s2 k2 Tok.none, I (↑k2 : Int), I (IntKind.i64.wrap ((↑q : Int) + (1 : Int)))] ++ List.replicate 29 X) (St.mk [some (HB.cells [I op, I cl, Bo d0, Bo d1, Bo d2, Bo d3, Bo d4, Bo d5, Bo d6] 81), some (HB.cells [I a, I g, I p] 103)] [] []) (kBlock 2 (kSeq Tryz.X62 (cd PP 62 [1, 1, 1, 0, 1, 0, 0, 1, 1, 0, 0, 1, 1, 1]) (kBlock 1 (kSeq Tryz.X62 (cd PP 62 [1, 1, 1, 0, 1, 0, 0, 1, 1, 1]) (kLoop Tryz.X62 (cd PP 62 [1, 1, 1, 0, 1, 0, 0]) (kBlock 0 (kSeq Tryz.X62 (cd PP 62 [1, 1, 1, 1]) (kRet Tryz.X62 62 Q))))))))) False)) False) False) False) False) False) False) False) False) (cIf (decide ((0 : Int) ≤ IntKind.i64.wrap (g - (1 : Int)))) (cIf (decide ((IntKind.i64.wrap (g - (1 : Int))).toNat < k)) (cIf (decide (k * 1 = s.length)) (cIf (decide (0 < (List.drop ((IntKind.i64.wrap (g - (1 : Int))).toNat * 1) s).length)) (cIf (likeOk (AV.ofVal (Value.int IntKind.i64 (0 : Int))) ((List.drop ((IntKind.i64.wrap (g - (1 : Int))).toNat * 1) s).getD 0 X)) (cIf (decide ((0 : Int) ≤ g)) (cIf (decide (g.toNat ≤ k)) (cIf (decide (k ≤ k)) (cIf (noHL 1 ([X, I z, X, AV.vs (List.take ((k - g.toNat) * 1) (List.drop (g.toNat * 1) s)) (k - g.toNat) (if g.toNat = 0 ∧ k = k then Tok.none else Tok.none), AV.ptr 0 0, X, X, X, X, X, X, I (cI (List.drop ((IntKind.i64.wrap (g - (1 : Int))).toNat * 1) s) 0), X, X, X, X, X, X, X, X, X, X, X, AV.vs l n Tok.none, I (↑n : Int), I (IntKind.i64.wrap ((↑i : Int) + (1 : Int)))] ++ List.replicate 68 X)) (WLoop Tryz.X62 (cd PP 62 [1, 1, 1, 0, 1, 0, 0]) ([X, I z, X, AV.vs (List.take ((k - g.toNat) * 1) (List.drop (g.toNat * 1) s)) (k - g.toNat) (if g.toNat = 0 ∧ k = k then Tok.none else Tok.none), AV.ptr 0 0, X, X, X, X, X, X, I (cI (List.drop ((IntKind.i64.wrap (g - (1 : Int))).toNat * 1) s) 0), X, X, X, X, X, X, X, X, X, X, X, AV.vs l n Tok.none, I (↑n : Int), I (IntKind.i64.wrap ((↑i : Int) + (1 : Int)))] ++ List.replicate 68 X) (St.mk [some (HB.cells [I op, I cl, Bo d0, Bo d1, Bo d2, Bo d3, Bo d4, Bo d5, Bo d6] 81)] [] []) (kBlock 0 (kSeq Tryz.X62 (cd PP 62 [1, 1, 1, 1]) (kRet Tryz.X62 62 Q)))) False) False) False) False) False) False) False) False) False)) := by kernel_rfl
theorem v63 (op cl z : Int) (d0 d1 d2 d3 d4 d5 d6 : Bool) (l s : List AV) (n k : Nat) (Q : CR → Prop) : wpF Tryz.X63 63 [.agg [I op, I cl, Bo d0, Bo d1, Bo d2, Bo d3, Bo d4, Bo d5, Bo d6], I z, .vs l n .none, .vs s k .none] Q =
  ((∃ (x : List Sal), l = encL encSv x ∧ n = x.length ∧ x.length ≤ 1000) ∧ cIf (onEnc (encL encSv) (fun (x : List Sal) => salsE op cl z x) (0 : Int) l != (0 : Int)) (Q (CR.ret (AV.tup [Bo false, I (onEnc (encL encSv) (fun (x : List Sal) => salsE op cl z x) (0 : Int) l)]))) (cIf (noHL 1 ([X, I z, AV.vs l n Tok.none, AV.vs s k Tok.none, AV.ptr 0 0, X, X, X, X, X, X, I (0 : Int), I (-1 : Int), I (0 : Int)] ++ List.replicate 98 X)) (WLoop Tryz.X63 (cd Tryz.X63.P 63 [1, 1, 1, 1, 1, 0, 1, 0, 0]) ([X, I z, AV.vs l n Tok.none, AV.vs s k Tok.none, AV.ptr 0 0, X, X, X, X, X, X, I (0 : Int), I (-1 : Int), I (0 : Int)] ++ List.replicate 98 X) (St.mk [some (HB.cells [I op, I cl, Bo d0, Bo d1, Bo d2, Bo d3, Bo d4, Bo d5, Bo d6] 81)] [] []) (kBlock 0 (kSeq Tryz.X63 (cd Tryz.X63.P 63 [1, 1, 1, 1, 1, 1]) (kRet Tryz.X63 63 Q)))) False)) := by kernel_rfl
theorem v16 (op cl z : Int) (d0 d1 d2 d3 d4 d5 d6 : Bool) (l s : List AV) (n k : Nat) (Q : CR → Prop) : wpF Tryz.X16 16 [.agg [I op, I cl, Bo d0, Bo d1, Bo d2, Bo d3, Bo d4, Bo d5, Bo d6], I z, .vs l n .none, .vs s k .none] Q =
  (cIf (decide ((↑n : Int) > (20 : Int))) (True ∧ Q (CR.ret (Bo true))) (cIf (decide ((↑k : Int) > (420 : Int))) (True ∧ Q (CR.ret (Bo true))) ((∃ (x : List Sal), l = encL encSv x ∧ n = x.length ∧ x.length ≤ 1000) ∧ (∃ (x : List Sal), ∃ (y : List Int), l = encL encSv x ∧ n = x.length ∧ x.length ≤ 1000 ∧ s = encL encNum y ∧ k = y.length ∧ y.length ≤ 1000000 ∧ ∀ (v : Int), v ∈ y → i64 v) ∧ cIf ((batR (Hrs.mk op cl d0 d1 d2 d3 d4 d5 d6) z l).snd == (50 : Int)) (True ∧ cIf (!(cbR (Hrs.mk op cl d0 d1 d2 d3 d4 d5 d6) z l s).fst) (cIf ((cbR (Hrs.mk op cl d0 d1 d2 d3 d4 d5 d6) z l s).snd == (0 : Int)) (Q (CR.ret (Bo ((↑(batR (Hrs.mk op cl d0 d1 d2 d3 d4 d5 d6) z l).fst.length : Int) == (0 : Int))))) (Q (CR.ret (Bo false)))) (Q (CR.ret (Bo false)))) (cIf ((batR (Hrs.mk op cl d0 d1 d2 d3 d4 d5 d6) z l).snd != (0 : Int)) (True ∧ cIf ((cbR (Hrs.mk op cl d0 d1 d2 d3 d4 d5 d6) z l s).snd == (batR (Hrs.mk op cl d0 d1 d2 d3 d4 d5 d6) z l).snd) (cIf (!(cbR (Hrs.mk op cl d0 d1 d2 d3 d4 d5 d6) z l s).fst) (Q (CR.ret (Bo ((↑(batR (Hrs.mk op cl d0 d1 d2 d3 d4 d5 d6) z l).fst.length : Int) == (0 : Int))))) (Q (CR.ret (Bo false)))) (Q (CR.ret (Bo false)))) ((∃ (x : List Sal), ∃ (y : List Int), l = encL encSv x ∧ n = x.length ∧ x.length ≤ 1000 ∧ encL encNum (batR (Hrs.mk op cl d0 d1 d2 d3 d4 d5 d6) z l).fst = encL encNum y ∧ (batR (Hrs.mk op cl d0 d1 d2 d3 d4 d5 d6) z l).fst.length = y.length ∧ y.length ≤ 1000000 ∧ ∀ (v : Int), v ∈ y → i64 v) ∧ cIf (!(cbR (Hrs.mk op cl d0 d1 d2 d3 d4 d5 d6) z l (encL encNum (batR (Hrs.mk op cl d0 d1 d2 d3 d4 d5 d6) z l).fst)).fst) (Q (CR.ret (Bo false))) (cIf ((cbR (Hrs.mk op cl d0 d1 d2 d3 d4 d5 d6) z l (encL encNum (batR (Hrs.mk op cl d0 d1 d2 d3 d4 d5 d6) z l).fst)).snd != (0 : Int)) (Q (CR.ret (Bo false))) (cIf ((cbR (Hrs.mk op cl d0 d1 d2 d3 d4 d5 d6) z l s).snd != (0 : Int)) (Q (CR.ret (Bo false))) (cIf (!(cbR (Hrs.mk op cl d0 d1 d2 d3 d4 d5 d6) z l s).fst) (True ∧ Q (CR.ret (Bo true))) (cIf ((↑k : Int) != (↑(batR (Hrs.mk op cl d0 d1 d2 d3 d4 d5 d6) z l).fst.length : Int)) (Q (CR.ret (Bo false))) (cIf (noHL 0 ([X, X, X, AV.vs s k Tok.none, X, X, X, X, X, AV.vs (encL encNum (batR (Hrs.mk op cl d0 d1 d2 d3 d4 d5 d6) z l).fst) (batR (Hrs.mk op cl d0 d1 d2 d3 d4 d5 d6) z l).fst.length Tok.none, X, X, X, X, X, X, X, X, X, X, X, X, X, X, X, X, X, X, X, X, X, X, X, X, X, X, X, X, X, X, X, X, X, X, X, X, X, X, X, X, X, X, X, X, X, X, X, X, X, X, X, X, X, X, X, X, X, X, X, X, X, X, X, X, X, X, X, X, X, X, X, X, X, X, X, X, X, X, X, X, X, X, X, X, X, X, X, X, X, X, I (↑(batR (Hrs.mk op cl d0 d1 d2 d3 d4 d5 d6) z l).fst.length : Int), I (0 : Int)] ++ List.replicate 13 X)) (WLoop Tryz.X16 (cd Tryz.X16.P 16 [1, 1, 1, 1, 1, 1, 1, 1, 1, 1, 0, 1, 0, 0]) ([X, X, X, AV.vs s k Tok.none, X, X, X, X, X, AV.vs (encL encNum (batR (Hrs.mk op cl d0 d1 d2 d3 d4 d5 d6) z l).fst) (batR (Hrs.mk op cl d0 d1 d2 d3 d4 d5 d6) z l).fst.length Tok.none, X, X, X, X, X, X, X, X, X, X, X, X, X, X, X, X, X, X, X, X, X, X, X, X, X, X, X, X, X, X, X, X, X, X, X, X, X, X, X, X, X, X, X, X, X, X, X, X, X, X, X, X, X, X, X, X, X, X, X, X, X, X, X, X, X, X, X, X, X, X, X, X, X, X, X, X, X, X, X, X, X, X, X, X, X, X, X, X, X, X, I (↑(batR (Hrs.mk op cl d0 d1 d2 d3 d4 d5 d6) z l).fst.length : Int), I (0 : Int)] ++ List.replicate 13 X) (St.mk [] [] []) (kBlock 0 (kSeq Tryz.X16 (cd Tryz.X16.P 16 [1, 1, 1, 1, 1, 1, 1, 1, 1, 1, 1]) (kRet Tryz.X16 16 Q)))) False)))))))))) := by kernel_rfl
theorem v16l (s a : List AV) (k q i : Nat) (Q : CR → Prop) : wpC Tryz.X16 (cd PP 16 [1, 1, 1, 1, 1, 1, 1, 1, 1, 1, 0, 1, 0, 0]) ([X, X, X, .vs s k .none, X, X, X, X, X, .vs a q .none, X, X, X, X, X, X, X, X, X, X, X, X, X, X, X, X, X, X, X, X, X, X, X, X, X, X, X, X, X, X, X, X, X, X, X, X, X, X, X, X, X, X, X, X, X, X, X, X, X, X, X, X, X, X, X, X, X, X, X, X, X, X, X, X, X, X, X, X, X, X, X, X, X, X, X, X, X, X, X, X, X, X, X, X, X, X, X, X, X, X, I q, I i] ++ List.replicate 13 X) ⟨[], [], []⟩ (kLoop Tryz.X16 (cd PP 16 [1, 1, 1, 1, 1, 1, 1, 1, 1, 1, 0, 1, 0, 0]) (kBlock 0 (kSeq Tryz.X16 (cd PP 16 [1, 1, 1, 1, 1, 1, 1, 1, 1, 1, 1]) (kRet Tryz.X16 16 Q)))) =
  (cIf (decide ((↑i : Int) < (↑q : Int))) (cIf (decide (i < k)) (cIf (decide (k * 1 = s.length)) (cIf (decide (0 < (List.drop (i * 1) s).length)) (cIf (likeOk (AV.ofVal (Value.int IntKind.i64 (0 : Int))) ((List.drop (i * 1) s).getD 0 X)) (cIf (decide (i < q)) (cIf (decide (q * 1 = a.length)) (cIf (decide (0 < (List.drop (i * 1) a).length)) (cIf (likeOk (AV.ofVal (Value.int IntKind.i64 (0 : Int))) ((List.drop (i * 1) a).getD 0 X)) (cIf (decide (cI (List.drop (i * 1) s) 0 < cI (List.drop (i * 1) a) 0)) (Q (CR.ret (Bo false))) (cIf (noHL 0 ([X, X, X, AV.vs s k Tok.none, X, X, X, X, X, AV.vs a q Tok.none, X, X, X, X, X, X, X, X, X, X, X, X, X, X, X, X, X, X, X, X, X, X, X, X, X, X, X, X, X, X, X, X, X, X, X, X, X, X, X, X, X, X, X, X, X, X, X, X, X, X, X, X, X, X, X, X, X, X, X, X, X, X, X, X, X, X, X, X, X, X, X, X, X, X, X, X, X, X, X, X, X, X, X, X, X, X, X, X, X, X, I (↑q : Int), I (IntKind.i64.wrap ((↑i : Int) + (1 : Int)))] ++ List.replicate 13 X)) (WLoop Tryz.X16 (cd PP 16 [1, 1, 1, 1, 1, 1, 1, 1, 1, 1, 0, 1, 0, 0]) ([X, X, X, AV.vs s k Tok.none, X, X, X, X, X, AV.vs a q Tok.none, X, X, X, X, X, X, X, X, X, X, X, X, X, X, X, X, X, X, X, X, X, X, X, X, X, X, X, X, X, X, X, X, X, X, X, X, X, X, X, X, X, X, X, X, X, X, X, X, X, X, X, X, X, X, X, X, X, X, X, X, X, X, X, X, X, X, X, X, X, X, X, X, X, X, X, X, X, X, X, X, X, X, X, X, X, X, X, X, X, X, I (↑q : Int), I (IntKind.i64.wrap ((↑i : Int) + (1 : Int)))] ++ List.replicate 13 X) (St.mk [] [] []) (kBlock 0 (kSeq Tryz.X16 (cd PP 16 [1, 1, 1, 1, 1, 1, 1, 1, 1, 1, 1]) (kRet Tryz.X16 16 Q)))) False)) False) False) False) False) False) False) False) False) (True ∧ Q (CR.ret (Bo true)))) := by kernel_rfl
theorem v60z (op cl z : Int) (d0 d1 d2 d3 d4 d5 d6 : Bool) (l cs : List AV) (n nd j i : Nat) (T : List (Nat × (Nat × Nat))) (Q : CR → Prop) : wpC Tryz.X60 (cd PP 60 [1, 1, 1, 0, 1, 0, 0]) ([X, I z, X, .ptr 0 0, X, X, X, X, X, .vs [] 0 .zero, X, X, X, X, X, X, X, X, X, X, X, X, X, .vs l n .none, I n, I i] ++ List.replicate 44 X) ⟨[some (.cells [I op, I cl, Bo d0, Bo d1, Bo d2, Bo d3, Bo d4, Bo d5, Bo d6] 81)], T, []⟩ (kLoop Tryz.X60 (cd PP 60 [1, 1, 1, 0, 1, 0, 0]) (kBlock 0 (kSeq Tryz.X60 (cd PP 60 [1, 1, 1, 1]) (kRet Tryz.X60 60 Q)))) =
  (cIf (decide ((↑i : Int) < (↑n : Int))) (cIf (decide (i < n)) (cIf (decide (n * 3 = l.length)) (cIf (decide (3 ≤ (List.drop (i * 3) l).length)) (cIf (like [I (0 : Int), I (0 : Int), I (0 : Int)] (el (List.drop (i * 3) l) 0 3)) ((okHrs (Hrs.mk op cl d0 d1 d2 d3 d4 d5 d6) ∧ okZone z ∧ okSal (Sal.mk (cI (el (List.drop (i * 3) l) 0 3) 0) (cI (el (List.drop (i * 3) l) 0 3) 1) (cI (el (List.drop (i * 3) l) 0 3) 2)) ∧ (0 : Int) ≤ cI (el (List.drop (i * 3) l) 0 3) 0 ∧ cI (el (List.drop (i * 3) l) 0 3) 0 ≤ (144001440 : Int)) ∧ cIf (!(earlV (Hrs.mk op cl d0 d1 d2 d3 d4 d5 d6) z (Sal.mk (cI (el (List.drop (i * 3) l) 0 3) 0) (cI (el (List.drop (i * 3) l) 0 3) 1) (cI (el (List.drop (i * 3) l) 0 3) 2)) (cI (el (List.drop (i * 3) l) 0 3) 0)).snd) (Q (CR.ret (AV.tup [AV.vs [] 0 Tok.zero, I (50 : Int)]))) (cIf (noHL 2 ([X, I z, X, AV.ptr 0 0, X, X, X, X, X, AV.vs [] 0 Tok.zero, X, AV.ptr 1 0, X, AV.int IntKind.i64 (earlV (Hrs.mk op cl d0 d1 d2 d3 d4 d5 d6) z (Sal.mk (cI (el (List.drop (i * 3) l) 0 3) 0) (cI (el (List.drop (i * 3) l) 0 3) 1) (cI (el (List.drop (i * 3) l) 0 3) 2)) (cI (el (List.drop (i * 3) l) 0 3) 0)).fst, X, X, X, X, X, X, X, X, X, AV.vs l n Tok.none, I (↑n : Int), I (↑i : Int), X, X, X, X, X, X, X, X, X, X, X, X, X, X, X, X, X, X, X, X, X, X, X, X, X, X, X, X, I (cI (el (List.drop (i * 3) l) 0 3) 1), I (0 : Int)] ++ List.replicate 14 X)) (WLoop Tryz.X60 (cd PP 60 [1, 1, 1, 0, 1, 0, 0, 1, 1, 0, 0, 1, 1, 1, 1, 1, 1, 0, 0]) ([X, I z, X, AV.ptr 0 0, X, X, X, X, X, AV.vs [] 0 Tok.zero, X, AV.ptr 1 0, X, AV.int IntKind.i64 (earlV (Hrs.mk op cl d0 d1 d2 d3 d4 d5 d6) z (Sal.mk (cI (el (List.drop (i * 3) l) 0 3) 0) (cI (el (List.drop (i * 3) l) 0 3) 1) (cI (el (List.drop (i * 3) l) 0 3) 2)) (cI (el (List.drop (i * 3) l) 0 3) 0)).fst, X, X, X, X, X, X, X, X, X, AV.vs l n Tok.none, I (↑n : Int), I (↑i : Int), X, X, X, X, X, X, X, X, X, X, X, X, X, X, X, X, X, X, X, X, X, X, X, X, X, X, X, X, I (cI (el (List.drop (i * 3) l) 0 3) 1), I (0 : Int)] ++ List.replicate 14 X) (St.mk [some (HB.cells [I op, I cl, Bo d0, Bo d1, Bo d2, Bo d3, Bo d4, Bo d5, Bo d6] 81), some (HB.cells [I (cI (el (List.drop (i * 3) l) 0 3) 0), I (cI (el (List.drop (i * 3) l) 0 3) 1), I (cI (el (List.drop (i * 3) l) 0 3) 2)] 103)] T []) (kBlock 2 (kBlock 1 (kSeq Tryz.X60 (cd PP 60 [1, 1, 1, 0, 1, 0, 0, 1, 1, 1]) (kLoop Tryz.X60 (cd PP 60 [1, 1, 1, 0, 1, 0, 0]) (kBlock 0 (kSeq Tryz.X60 (cd PP 60 [1, 1, 1, 1]) (kRet Tryz.X60 60 Q)))))))) False)) False) False) False) False) (Q (CR.ret (AV.tup [AV.vs [] 0 Tok.zero, I (0 : Int)])))) := by kernel_rfl
theorem v60y (op cl z a g p m : Int) (d0 d1 d2 d3 d4 d5 d6 : Bool) (l cs : List AV) (n nd j i k : Nat) (T : List (Nat × (Nat × Nat))) (Q : CR → Prop) : wpC Tryz.X60 (cd PP 60 [1, 1, 1, 0, 1, 0, 0, 1, 1, 0, 0, 1, 1, 1, 1, 1, 1, 0, 0]) ([X, I z, X, .ptr 0 0, X, X, X, X, X, .vs [] 0 .zero, X, .ptr 1 0, X, I m, X, X, X, X, X, X, X, X, X, .vs l n .none, I n, I i, X, X, X, X, X, X, X, X, X, X, X, X, X, X, X, X, X, X, X, X, X, X, X, X, X, X, X, X, I g, I k] ++ List.replicate 14 X) ⟨[some (.cells [I op, I cl, Bo d0, Bo d1, Bo d2, Bo d3, Bo d4, Bo d5, Bo d6] 81), some (.cells [I a, I g, I p] 103)], T, []⟩ (kLoop Tryz.X60 (cd PP 60 [1, 1, 1, 0, 1, 0, 0, 1, 1, 0, 0, 1, 1, 1, 1, 1, 1, 0, 0]) (kBlock 2 (kBlock 1 (kSeq Tryz.X60 (cd PP 60 [1, 1, 1, 0, 1, 0, 0, 1, 1, 1]) (kLoop Tryz.X60 (cd PP 60 [1, 1, 1, 0, 1, 0, 0]) (kBlock 0 (kSeq Tryz.X60 (cd PP 60 [1, 1, 1, 1]) (kRet Tryz.X60 60 Q)))))))) =
  (cIf (decide ((↑k : Int) < g)) (cIf (noHL 2 ([X, I z, X, AV.ptr 0 0, X, X, X, X, X, AV.vs [I (IntKind.i64.wrap (m + IntKind.i64.wrap ((↑k : Int) * p)))] 1 (Tok.own (T ++ [(1, 1, 3)]).length), X, AV.ptr 1 0, X, I m, X, X, X, X, X, X, X, X, X, AV.vs l n Tok.none, I (↑n : Int), I (↑i : Int), X, X, X, X, X, X, X, X, X, X, X, X, X, X, X, X, X, X, X, X, X, X, X, X, X, X, X, X, I g, I (IntKind.i64.wrap ((↑k : Int) + (1 : Int)))] ++ List.replicate 14 X)) (WLoop Tryz.X60 (cd PP 60 [1, 1, 1, 0, 1, 0, 0, 1, 1, 0, 0, 1, 1, 1, 1, 1, 1, 0, 0]) ([X, I z, X, AV.ptr 0 0, X, X, X, X, X, AV.vs [I (IntKind.i64.wrap (m + IntKind.i64.wrap ((↑k : Int) * p)))] 1 (Tok.own (T ++ [(1, 1, 3)]).length), X, AV.ptr 1 0, X, I m, X, X, X, X, X, X, X, X, X, AV.vs l n Tok.none, I (↑n : Int), I (↑i : Int), X, X, X, X, X, X, X, X, X, X, X, X, X, X, X, X, X, X, X, X, X, X, X, X, X, X, X, X, I g, I (IntKind.i64.wrap ((↑k : Int) + (1 : Int)))] ++ List.replicate 14 X) (St.mk [some (HB.cells [I op, I cl, Bo d0, Bo d1, Bo d2, Bo d3, Bo d4, Bo d5, Bo d6] 81), some (HB.cells [I a, I g, I p] 103)] (T ++ [(1, 1, 3)] ++ [(1, 1, 3)]) []) (kBlock 2 (kBlock 1 (kSeq Tryz.X60 (cd PP 60 [1, 1, 1, 0, 1, 0, 0, 1, 1, 1]) (kLoop Tryz.X60 (cd PP 60 [1, 1, 1, 0, 1, 0, 0]) (kBlock 0 (kSeq Tryz.X60 (cd PP 60 [1, 1, 1, 1]) (kRet Tryz.X60 60 Q)))))))) False) (cIf (noHL 1 ([X, I z, X, AV.ptr 0 0, X, X, X, X, X, AV.vs [] 0 Tok.zero, X, X, X, X, X, X, X, X, X, X, X, X, X, AV.vs l n Tok.none, I (↑n : Int), I (IntKind.i64.wrap ((↑i : Int) + (1 : Int)))] ++ List.replicate 44 X)) (WLoop Tryz.X60 (cd PP 60 [1, 1, 1, 0, 1, 0, 0]) ([X, I z, X, AV.ptr 0 0, X, X, X, X, X, AV.vs [] 0 Tok.zero, X, X, X, X, X, X, X, X, X, X, X, X, X, AV.vs l n Tok.none, I (↑n : Int), I (IntKind.i64.wrap ((↑i : Int) + (1 : Int)))] ++ List.replicate 44 X) (St.mk [some (HB.cells [I op, I cl, Bo d0, Bo d1, Bo d2, Bo d3, Bo d4, Bo d5, Bo d6] 81)] T []) (kBlock 0 (kSeq Tryz.X60 (cd PP 60 [1, 1, 1, 1]) (kRet Tryz.X60 60 Q)))) False)) := by kernel_rfl
end Go.Proofs
/-! BB -/
set_option maxRecDepth 100000
set_option linter.unusedVariables false
set_option linter.unusedSimpArgs false
namespace Go.Ev
theorem Num_like (x : Int) : like [I (0 : Int)] (encNum x) = true := rfl
theorem Num_lk0 (x : Int) : likeOk (AV.ofVal (Value.int IntKind.i64 (0 : Int))) ((encNum x).getD 0 X) = true := rfl
theorem Num_c0 (x : Int) : cI (encNum x) 0 = x := rfl
theorem encNum_snoc (l : List Int) (v : Int) : encL encNum l ++ [I v] = encL encNum (l ++ [v]) := by rw [encL_app]; rfl
theorem zapNum (l : List Int) : zapL (encL encNum l) = encL encNum l := by
  induction l with
  | nil => rfl
  | cons x l ih => rw [encL, zapL_app, ih]; rfl
def lastV (l : List Int) : Int := if l.length = 0 then -1 else l.getD (l.length - 1) 0
theorem lastV_snoc (l : List Int) (v : Int) : lastV (l ++ [v]) = v := by
  unfold lastV
  rw [if_neg (by rw [List.length_append]; simp), List.length_append, List.length_singleton, Nat.add_sub_cancel, List.getD_eq_getElem?_getD, List.getElem?_append_right (Nat.le_refl _), Nat.sub_self]
  rfl
theorem shots_len (s : Sal) (m : Int) : (shots s m).length = s.gu.toNat := by unfold shots; simp
theorem shots_get (s : Sal) (m : Int) {k : Nat} (h : k < s.gu.toNat) : (shots s m)[k]? = some (m + (k : Int) * s.ga) := by
  unfold shots
  rw [List.getElem?_map, List.getElem?_range h]
  rfl
theorem shots_take (s : Sal) (m : Int) {k : Nat} (h : k < s.gu.toNat) : (shots s m).take (k + 1) = (shots s m).take k ++ [m + (k : Int) * s.ga] := by
  rw [List.take_add_one, shots_get s m h]; rfl
theorem shots_last {s : Sal} (hs : okSal s) (m : Int) (out : List Int) : lastV (out ++ shots s m) = m + lng s := by
  have hg := hs.2.2.1
  have h : s.gu.toNat - 1 < s.gu.toNat := by omega
  have e := shots_take s m h
  rw [Nat.sub_add_cancel (by omega), List.take_of_length_le (by rw [shots_len]; exact Nat.le_refl _)] at e
  rw [e, ← List.append_assoc, lastV_snoc]
  unfold lng
  have : ((s.gu.toNat - 1 : Nat) : Int) = s.gu - 1 := by omega
  rw [this]
theorem shot_bd {s : Sal} (hs : okSal s) {k : Nat} (h : k < s.gu.toNat) : 0 ≤ (k : Int) * s.ga ∧ (k : Int) * s.ga ≤ lng s := by
  obtain ⟨_, _, h1, h2, h3, h4⟩ := hs
  have hk : (k : Int) ≤ s.gu - 1 := by omega
  refine ⟨Int.mul_nonneg (Int.natCast_nonneg k) (by omega), ?_⟩
  unfold lng
  exact Int.mul_le_mul_of_nonneg_right hk (by omega)
def Dn3 (L : List Int) (t : Tok) (T : List (Nat × (Nat × Nat))) : Prop := (L = [] ∧ t = .zero) ∨ ∃ j, t = .own j ∧ T[j]? = some (L.length, (1, 3))
noncomputable def batP (o : Option (List Int)) : List Int × Int := match o with | none => ([], 50) | some L => (L, 0)
end Go.Ev
namespace Go.Proofs
open Go Go.Ev
attribute [local irreducible] wpF wpC cd
section
variable {xs ys : List Int} (hl : xs.length ≤ 10000000) (he : xs.length = ys.length)
include hl he
end
/-! ### Battery -/
noncomputable abbrev K60 (Q : CR → Prop) : Kont := kBlock 0 (kSeq Tryz.X60 (cd PP 60 [1, 1, 1, 1]) (kRet Tryz.X60 60 Q))
abbrev E60 (z : Int) (xs : List Sal) (dv : AV) (i : Nat) : Env := [X, I z, X, .ptr 0 0, X, X, X, X, X, dv, X, X, X, X, X, X, X, X, X, X, X, X, X, .vs (encL encSv xs) xs.length .none, I xs.length, I i] ++ List.replicate 44 X
abbrev F60 (z : Int) (xs : List Sal) (dv : AV) (i : Nat) (m g : Int) (k : Nat) : Env := [X, I z, X, .ptr 0 0, X, X, X, X, X, dv, X, .ptr 1 0, X, I m, X, X, X, X, X, X, X, X, X, .vs (encL encSv xs) xs.length .none, I xs.length, I i, X, X, X, X, X, X, X, X, X, X, X, X, X, X, X, X, X, X, X, X, X, X, X, X, X, X, X, X, I g, I k] ++ List.replicate 14 X
theorem nE60 {z : Int} {xs : List Sal} {L : List Int} {t : Tok} {i : Nat} : noHL 1 (E60 z xs (.vs (encL encNum L) L.length t) i) = true := by
  unfold E60; simp [noHL_append, noHL, noH, eSv.noHL', eNum.noHL', noHL_rep]
theorem nF60 {z : Int} {xs : List Sal} {L : List Int} {t : Tok} {i k : Nat} {m g : Int} : noHL 2 (F60 z xs (.vs (encL encNum L) L.length t) i m g k) = true := by
  unfold F60; simp [noHL_append, noHL, noH, eSv.noHL', eNum.noHL', noHL_rep]
theorem step60 {c : Code} {env : Env} {S : St} {k : Kont} (h : wpC Tryz.X60 c env S (kLoop Tryz.X60 c k)) : WLoop Tryz.X60 c env S k := WLoop_step Tryz.bok (((Cts.nil _).cons ct127).cons ct126) h
section
variable {h : Hrs} {z : Int} {xs : List Sal} {s : Sal} {m : Int} {i : Nat} {out : List Int}
theorem inner60 (hs : okSal s) (hm0 : 0 ≤ m) (hm1 : m + lng s ≤ 144001439) (hx : xs.length ≤ 1000) (hi : i < 1000) (ho : out.length ≤ 100000) (Q : CR → Prop) (hc : ∀ t' T', Dn3 (out ++ shots s m) t' T' → WLoop Tryz.X60 (cd PP 60 [1, 1, 1, 0, 1, 0, 0]) (E60 z xs (.vs (encL encNum (out ++ shots s m)) (out ++ shots s m).length t') (i + 1)) ⟨[some (.cells (HH h) 81)], T', []⟩ (K60 Q)) :
    ∀ (d k : Nat) (L : List Int) (t : Tok) (T : List (Nat × (Nat × Nat))), s.gu.toNat - k = d → k ≤ s.gu.toNat → L = out ++ (shots s m).take k → Dn3 L t T →
    WLoop Tryz.X60 (cd PP 60 [1, 1, 1, 0, 1, 0, 0, 1, 1, 0, 0, 1, 1, 1, 1, 1, 1, 0, 0]) (F60 z xs (.vs (encL encNum L) L.length t) i m s.gu k) ⟨[some (.cells (HH h) 81), some (.cells [I s.at', I s.gu, I s.ga] 103)], T, []⟩ (kBlock 2 (kBlock 1 (kSeq Tryz.X60 (cd PP 60 [1, 1, 1, 0, 1, 0, 0, 1, 1, 1]) (kLoop Tryz.X60 (cd PP 60 [1, 1, 1, 0, 1, 0, 0]) (K60 Q))))) := by
  have hg := hs.2.2.1
  have hg2 := hs.2.2.2.1
  have hlg := lng_bd hs
  have wi : IntKind.i64.wrap ((i : Int) + 1) = ((i + 1 : Nat) : Int) := wrap_id (by omega) (by omega)
  intro d
  induction d with
  | zero =>
    intro k L t T hd hk hL hD
    have hk' : k = s.gu.toNat := by omega
    have hno : ¬ (k : Int) < s.gu := by omega
    rw [hk', List.take_of_length_le (by rw [shots_len]; exact Nat.le_refl _)] at hL
    subst hL
    rcases hD with ⟨hnil, rfl⟩ | ⟨j, rfl, hj⟩
    · exfalso
      have := congrArg List.length hnil
      rw [List.length_append, shots_len] at this
      simp at this; omega
    · refine step60 ((v60l2 h.op h.cl z s.at' s.gu s.ga m h.d0 h.d1 h.d2 h.d3 h.d4 h.d5 h.d6 (encL encSv xs) (encL encNum (out ++ shots s m)) xs.length (out ++ shots s m).length j i k T Q).mpr (cIf_neg (df hno) ?_))
      rw [wi]
      exact cIf_pos nE60 (hc _ _ (.inr ⟨j, rfl, hj⟩))
  | succ d ih =>
    intro k L t T hd hk hL hD
    have hlt : k < s.gu.toNat := by omega
    have hlt2 : (k : Int) < s.gu := by omega
    have hb := shot_bd hs hlt
    have wk : IntKind.i64.wrap ((k : Int) + 1) = ((k + 1 : Nat) : Int) := wrap_id (by omega) (by omega)
    have w0 : IntKind.i64.wrap ((k : Int) * s.ga) = (k : Int) * s.ga := wrap_id (by omega) (by omega)
    have w1 : IntKind.i64.wrap (m + (k : Int) * s.ga) = m + (k : Int) * s.ga := wrap_id (by omega) (by omega)
    have hL' : L ++ [m + (k : Int) * s.ga] = out ++ (shots s m).take (k + 1) := by rw [hL, shots_take s m hlt, List.append_assoc]
    have hLl : L.length ≤ 100021 := by
      rw [hL, List.length_append, List.length_take]; omega
    have hl1 : (L ++ [m + (k : Int) * s.ga]).length = L.length + 1 := by rw [List.length_append]; rfl
    have hnext := fun t' T' (hD' : Dn3 (L ++ [m + (k : Int) * s.ga]) t' T') => ih (k + 1) (L ++ [m + (k : Int) * s.ga]) t' T' (by omega) hlt hL' hD'
    rcases hD with ⟨rfl, rfl⟩ | ⟨j, rfl, hj⟩
    · refine step60 ((v60y h.op h.cl z s.at' s.gu s.ga m h.d0 h.d1 h.d2 h.d3 h.d4 h.d5 h.d6 (encL encSv xs) [] xs.length 0 0 i k T Q).mpr (cIf_pos (dt hlt2) ?_))
      rw [w0, w1, wk]
      have := hnext (.own (T ++ [(1, 1, 3)]).length) (T ++ [(1, 1, 3)] ++ [(1, 1, 3)]) (.inr ⟨(T ++ [(1, 1, 3)]).length, rfl, by simp⟩)
      exact cIf_pos (nF60 (L := [m + (k : Int) * s.ga])) this
    · have hjl := (List.getElem?_eq_some_iff.1 hj).1
      have t1 : (T ++ [(1, 1, 3)])[j]? = some (L.length, 1, 3) := by rw [List.getElem?_append_left hjl]; exact hj
      have b1 : (L.length + 1) * 8 ≤ 140737488355328 := by omega
      have b2 : L.length + 1 ≤ 140737488355328 := by omega
      refine step60 ((v60l2 h.op h.cl z s.at' s.gu s.ga m h.d0 h.d1 h.d2 h.d3 h.d4 h.d5 h.d6 (encL encSv xs) (encL encNum L) xs.length L.length j i k T Q).mpr (cIf_pos (dt hlt2) ?_))
      rw [w0, w1, wk, dt b1, dt b2, dt (eNum.lenL L), dt t1, encNum_snoc]
      have := hnext (.own j) ((T ++ [(1, 1, 3)]).set j (L.length + 1, 1, 3)) (.inr ⟨j, rfl, by rw [List.getElem?_set_self (by rw [List.length_append]; omega), hl1]⟩)
      rw [hl1] at this
      refine cIf_pos rfl (cIf_pos rfl (cIf_pos rfl (cIf_pos rfl (cIf_pos (by rw [← hl1]; exact nF60) this))))
end
theorem batF_none {h : Hrs} {z la : Int} {s : Sal} {l : List Sal} {out : List Int} (he : earl h z s (max s.at' (la + 1)) = none) : batF h z (s :: l) la out = none := by
  unfold batF; rw [he]
theorem batF_some {h : Hrs} {z la m : Int} {s : Sal} {l : List Sal} {out : List Int} (he : earl h z s (max s.at' (la + 1)) = some m) : batF h z (s :: l) la out = batF h z l (m + lng s) (out ++ shots s m) := by
  conv => lhs; unfold batF
  rw [he]
theorem earl_rng {h : Hrs} {z f m : Int} {s : Sal} (hf : 0 ≤ f) (he : earl h z s f = some m) : 0 ≤ m ∧ m + lng s ≤ 144001439 := by
  obtain ⟨e1, e2, _⟩ := earl_spec he
  exact ⟨e2.1, e2.2.1⟩
theorem lastV_get {l : List Int} (h : 0 < l.length) : l[l.length - 1]? = some (lastV l) := by
  unfold lastV
  rw [if_neg (by omega), List.getD_eq_getElem?_getD, List.getElem?_eq_getElem (by omega)]
  rfl
section
variable {h : Hrs} {z : Int} {xs : List Sal} (hh : okHrs h) (hz : okZone z) (hx : xs.length ≤ 1000) (hok : ∀ s ∈ xs, okSal s)
include hh hz hx hok
theorem bat60 (Q : CR → Prop) : ∀ (d i : Nat) (out : List Int) (t : Tok) (T : List (Nat × (Nat × Nat))), xs.length - i = d → i ≤ xs.length → out.length ≤ 21 * i → -1 ≤ lastV out → lastV out ≤ 144001439 → Dn3 out t T →
    (∀ t', Q (.ret (.tup [.vs (encL encNum (batP (batF h z (xs.drop i) (lastV out) out)).1) (batP (batF h z (xs.drop i) (lastV out) out)).1.length t', I (batP (batF h z (xs.drop i) (lastV out) out)).2]))) →
    WLoop Tryz.X60 (cd PP 60 [1, 1, 1, 0, 1, 0, 0]) (E60 z xs (.vs (encL encNum out) out.length t) i) ⟨[some (.cells (HH h) 81)], T, []⟩ (K60 Q) := by
  intro d
  induction d with
  | zero =>
    intro i out t T hd hi ho hl0 hl1 hD hQ
    have hi' : i = xs.length := by omega
    subst hi'
    have hno : ¬ ((xs.length : Nat) : Int) < (xs.length : Nat) := by omega
    rw [List.drop_length] at hQ
    rcases hD with ⟨rfl, rfl⟩ | ⟨j, rfl, hj⟩
    · exact step60 ((v60z h.op h.cl z h.d0 h.d1 h.d2 h.d3 h.d4 h.d5 h.d6 (encL encSv xs) [] xs.length 0 0 xs.length T Q).mpr (cIf_neg (df hno) (hQ .zero)))
    · refine step60 ((v60l h.op h.cl z h.d0 h.d1 h.d2 h.d3 h.d4 h.d5 h.d6 (encL encSv xs) (encL encNum out) xs.length out.length j xs.length T Q).mpr (cIf_neg (df hno) ?_))
      exact kRet_vs (C := Tryz.X60) (fn := Tryz.f60) Tryz.func60 rfl (eNum.noHL' 0 _) (eNum.scL 0 _) hQ
  | succ d ih =>
    intro i out t T hd hi ho hl0 hl1 hD hQ
    have hlt : i < xs.length := by omega
    have e1 : xs.length - (i + 1) = d := by omega
    have h1 : (i : Int) < xs.length := by omega
    have hi2 : i < 1000 := by omega
    have ho2 : out.length ≤ 100000 := by omega
    obtain ⟨s, hs, hdr⟩ := drop_cons hlt
    have hsk := hok s (List.mem_of_getElem? hs)
    have hs0 := hsk.1
    have hs1 := hsk.2.1
    rw [hdr] at hQ
    have eH : Hrs.mk h.op h.cl h.d0 h.d1 h.d2 h.d3 h.d4 h.d5 h.d6 = h := rfl
    have eS : Sal.mk s.at' s.gu s.ga = s := rfl
    have hf0 : 0 ≤ max s.at' (lastV out + 1) := by omega
    have hf1 : max s.at' (lastV out + 1) ≤ 144001440 := by omega
    have hnone : earl h z s (max s.at' (lastV out + 1)) = none → Q (.ret (.tup [.vs [] 0 .zero, I 50])) := fun he => by
      have := hQ .zero
      rw [batF_none he] at this
      exact this
    have hsome : ∀ m, earl h z s (max s.at' (lastV out + 1)) = some m → WLoop Tryz.X60 (cd PP 60 [1, 1, 1, 0, 1, 0, 0, 1, 1, 0, 0, 1, 1, 1, 1, 1, 1, 0, 0]) (F60 z xs (.vs (encL encNum out) out.length t) i m s.gu 0) ⟨[some (.cells (HH h) 81), some (.cells [I s.at', I s.gu, I s.ga] 103)], T, []⟩ (kBlock 2 (kBlock 1 (kSeq Tryz.X60 (cd PP 60 [1, 1, 1, 0, 1, 0, 0, 1, 1, 1]) (kLoop Tryz.X60 (cd PP 60 [1, 1, 1, 0, 1, 0, 0]) (K60 Q))))) := fun m he => by
      obtain ⟨m0, m1⟩ := earl_rng hf0 he
      have hlg := lng_bd hsk
      refine inner60 hsk m0 m1 hx hi2 ho2 Q (fun t' T' hD' => ?_) _ 0 out t T rfl (Nat.zero_le _) (by simp) hD
      have hgl := hsk.2.2.2.1
      have hsl : (out ++ shots s m).length ≤ 21 * (i + 1) := by rw [List.length_append, shots_len]; omega
      have hla := shots_last hsk m out
      refine ih (i + 1) (out ++ shots s m) t' T' e1 hlt hsl (by omega) (by omega) hD' fun t'' => ?_
      have := hQ t''
      rw [batF_some he, ← hla] at this
      exact this
    rcases hD with ⟨rfl, rfl⟩ | ⟨j, rfl, hj⟩
    · have hmx : max s.at' (lastV [] + 1) = s.at' := by show max s.at' (-1 + 1) = s.at'; omega
      rw [hmx] at hf0 hf1 hnone hsome
      refine step60 ((v60z h.op h.cl z h.d0 h.d1 h.d2 h.d3 h.d4 h.d5 h.d6 (encL encSv xs) [] xs.length 0 0 i T Q).mpr ?_)
      simp only [dt h1, dt hlt, eSv.gl, eSv.gd hlt, eSv.g0 hlt (by decide), eSv.el hs, eSv.ld0 hs (by decide), Sv_like, eSv.cI0 hs (by decide), Sv_lk0, Sv_c0, eSv.gf hlt 1 (by decide), eSv.ld hs 1 (by decide), eSv.cI hs 1 (by decide), Sv_lk1, Sv_c1, eSv.gf hlt 2 (by decide), eSv.ld hs 2 (by decide), eSv.cI hs 2 (by decide), Sv_lk2, Sv_c2, cIf_true, eH, eS]
      refine ⟨⟨hh, hz, hsk, hf0, hf1⟩, ?_⟩
      cases he : earl h z s s.at' with
      | none => rw [earlV_none he]; exact cIf_pos rfl (hnone he)
      | some m => rw [earlV_some he]; exact cIf_neg rfl (cIf_pos (nF60 (L := []) (k := 0)) (hsome m he))
    · refine step60 ((v60l h.op h.cl z h.d0 h.d1 h.d2 h.d3 h.d4 h.d5 h.d6 (encL encSv xs) (encL encNum out) xs.length out.length j i T Q).mpr ?_)
      simp only [dt h1, dt hlt, eSv.gl, eSv.gd hlt, eSv.g0 hlt (by decide), eSv.el hs, eSv.ld0 hs (by decide), Sv_like, eSv.cI0 hs (by decide), Sv_lk0, Sv_c0, eSv.gf hlt 1 (by decide), eSv.ld hs 1 (by decide), eSv.cI hs 1 (by decide), Sv_lk1, Sv_c1, eSv.gf hlt 2 (by decide), eSv.ld hs 2 (by decide), eSv.cI hs 2 (by decide), Sv_lk2, Sv_c2, cIf_true, eH, eS]
      by_cases hp : 0 < out.length
      · have hp1 : (out.length : Int) > 0 := by omega
        have hlt2 : out.length - 1 < out.length := by omega
        have hg := lastV_get hp
        have w1 : IntKind.i64.wrap ((out.length : Int) - 1) = ((out.length - 1 : Nat) : Int) := by
          rw [show (out.length : Int) - 1 = ((out.length - 1 : Nat) : Int) by omega]
          exact wrap_id (by omega) (by omega)
        have w2 : IntKind.i64.wrap (lastV out + 1) = lastV out + 1 := wrap_id (by omega) (by omega)
        have hmx : (if lastV out + 1 > s.at' then lastV out + 1 else s.at') = max s.at' (lastV out + 1) := by split <;> omega
        simp only [dt hp1, w1, dt (Int.natCast_nonneg (out.length - 1)), Int.toNat_natCast, dt hlt2, eNum.gl, eNum.gd hlt2, eNum.g0 hlt2 (by decide), eNum.el hg, eNum.ld0 hg (by decide), Num_like, eNum.cI0 hg (by decide), Num_lk0, Num_c0, cIf_true, w2, hmx]
        refine ⟨⟨hh, hz, hsk, hf0, hf1⟩, ?_⟩
        cases he : earl h z s (max s.at' (lastV out + 1)) with
        | none => rw [earlV_none he]; exact cIf_pos rfl (hnone he)
        | some m => rw [earlV_some he]; exact cIf_neg rfl (cIf_pos (nF60 (L := out) (k := 0)) (hsome m he))
      · have hp0 : out = [] := List.eq_nil_of_length_eq_zero (by omega)
        subst hp0
        have hmx : max s.at' (lastV [] + 1) = s.at' := by show max s.at' (-1 + 1) = s.at'; omega
        rw [hmx] at hf0 hf1 hnone hsome
        refine cIf_neg rfl ⟨⟨hh, hz, hsk, hf0, hf1⟩, ?_⟩
        cases he : earl h z s s.at' with
        | none => rw [earlV_none he]; exact cIf_pos rfl (hnone he)
        | some m => rw [earlV_some he]; exact cIf_neg rfl (cIf_pos (nF60 (L := []) (k := 0)) (hsome m he))
end
theorem salsE_ok {op cl z : Int} {d0 d1 d2 d3 d4 d5 d6 : Bool} {l : List Sal} (h : salsE op cl z l = 0) : okHrs ⟨op, cl, d0, d1, d2, d3, d4, d5, d6⟩ ∧ okZone z ∧ ∀ s ∈ l, okSal s := by
  unfold salsE at h
  split at h
  · rename_i hb
    split at h
    · cases h
    · split at h
      · rename_i ha
        unfold hrsB at hb
        simp only [Bool.and_eq_true, decide_eq_true_eq] at hb
        obtain ⟨⟨⟨a, b⟩, c⟩, d, e⟩ := hb
        exact ⟨⟨a, b, c⟩, ⟨d, e⟩, fun s hs => salB_ok.1 (List.all_eq_true.1 ha s hs)⟩
      · cases h
  · cases h
theorem ct60 : Ct Tryz.B.c0 60 R60 := Ct.of_wpZ (l := [(126, R126), (127, R127)]) (lm := lm60) (tp := []) (ct := []) (sm := [(6, 1), (15, 2), (19, 1), (20, 0)]) Tryz.bok (((Cts.nil _).cons ct127).cons ct126) ⟨_, _, Tryz.func60, rfl⟩ fun args D r hR hD => by
  unfold R60 at hR
  split at hR <;> cases hR
  rename_i op cl d0 d1 d2 d3 d4 d5 d6 z l n
  obtain ⟨xs, rfl, rfl, hx⟩ := hD
  refine ⟨by simp [noHL, noH, eSv.noHL'], ?_⟩
  rw [show scrubL 0 [AV.agg [I op, I cl, Bo d0, Bo d1, Bo d2, Bo d3, Bo d4, Bo d5, Bo d6], I z, AV.vs (encL encSv xs) xs.length .none] = [AV.agg [I op, I cl, Bo d0, Bo d1, Bo d2, Bo d3, Bo d4, Bo d5, Bo d6], I z, AV.vs (encL encSv xs) xs.length .none] by simp [scrubL, scrub, eSv.scL, Tok.scrub]]
  have hb : batR ⟨op, cl, d0, d1, d2, d3, d4, d5, d6⟩ z (encL encSv xs) = batV ⟨op, cl, d0, d1, d2, d3, d4, d5, d6⟩ z xs := by unfold batR; rw [eSv.on (by decide)]
  rw [hb]
  show wpF Tryz.X60 60 _ _
  rw [v60]
  refine ⟨⟨xs, rfl, rfl, hx⟩, ?_⟩
  rw [eSv.on (by decide)]
  refine cIf_intro (fun hne => ?_) (fun he => ?_)
  · have hne : salsE op cl z xs ≠ 0 := by simpa using hne
    have : batV ⟨op, cl, d0, d1, d2, d3, d4, d5, d6⟩ z xs = ([], salsE op cl z xs) := by unfold batV; rw [if_neg hne]
    rw [this]; rfl
  · have he : salsE op cl z xs = 0 := by simpa using he
    obtain ⟨hh, hz, hok⟩ := salsE_ok (d0 := d0) (d1 := d1) (d2 := d2) (d3 := d3) (d4 := d4) (d5 := d5) (d6 := d6) he
    have : batV ⟨op, cl, d0, d1, d2, d3, d4, d5, d6⟩ z xs = batP (batF ⟨op, cl, d0, d1, d2, d3, d4, d5, d6⟩ z xs (-1) []) := by unfold batV; rw [if_pos he]; rfl
    rw [this]
    refine cIf_pos (nE60 (L := []) (t := .zero) (i := 0)) (bat60 (h := ⟨op, cl, d0, d1, d2, d3, d4, d5, d6⟩) hh hz hx hok _ _ 0 [] .zero [] rfl (Nat.zero_le _) (Nat.zero_le _) (by decide) (by decide) (.inl ⟨rfl, rfl⟩) fun t' => ?_)
    show CR.ret (AV.tup [AV.vs (zapL _) _ .none, I _]) = _
    rw [zapNum]; rfl
/-! ### Battery, the other way -/
section
variable {h : Hrs} {z : Int} {xs : List Sal} {s : Sal} {m : Int} {i : Nat} {out : List Int}
end
section
variable {h : Hrs} {z : Int} {xs : List Sal} (hh : okHrs h) (hz : okZone z) (hx : xs.length ≤ 1000) (hok : ∀ s ∈ xs, okSal s)
include hh hz hx hok
end
/-! ### CheckBattery -/
theorem chk_no {h : Hrs} {z la m : Int} {s : Sal} {l : List Sal} {sh : List Int} (hm : sh.getD 0 0 = m) (hn : s.gu ≤ sh.length → s.at' ≤ m → la < m → fireB h z s m = true → sh.take s.gu.toNat = shots s m → False) : chkB h z (s :: l) la sh = false := by
  cases hc : chkB h z (s :: l) la sh with
  | false => rfl
  | true =>
    exfalso
    unfold chkB at hc
    simp only [Bool.and_eq_true, decide_eq_true_eq, hm] at hc
    obtain ⟨⟨⟨⟨a, b, c⟩, d⟩, e⟩, f⟩ := hc
    exact hn a b c d e
theorem chk_yes {h : Hrs} {z la m : Int} {s : Sal} {l : List Sal} {sh : List Int} (hm : sh.getD 0 0 = m) (a : s.gu ≤ sh.length) (b : s.at' ≤ m) (c : la < m) (d : fireB h z s m = true) (e : sh.take s.gu.toNat = shots s m) : chkB h z (s :: l) la sh = chkB h z l (m + lng s) (sh.drop s.gu.toNat) := by
  conv => lhs; unfold chkB
  rw [hm, d, e]
  simp only [dt a, dt b, dt c, decide_true, Bool.and_self, Bool.true_and]
theorem dropNum : ∀ (k : Nat) (l : List Int), List.drop k (encL encNum l) = encL encNum (l.drop k)
  | 0, _ => rfl
  | k + 1, [] => rfl
  | k + 1, x :: l => dropNum k l
theorem takeNum : ∀ (k : Nat) (l : List Int), List.take k (encL encNum l) = encL encNum (l.take k)
  | 0, _ => rfl
  | k + 1, [] => rfl
  | k + 1, x :: l => congrArg (fun r => I x :: r) (takeNum k l)
theorem first {sh : List Int} {m : Int} (h : sh[0]? = some m) : 0 < sh.length ∧ 0 < (encL encNum sh).length ∧ likeOk (AV.ofVal (Value.int IntKind.i64 (0 : Int))) ((encL encNum sh).getD 0 X) = true ∧ cI (encL encNum sh) 0 = m ∧ sh.getD 0 0 = m := by
  cases sh with
  | nil => cases h
  | cons x l => cases h; exact ⟨Nat.succ_pos _, Nat.succ_pos _, rfl, rfl, rfl⟩
theorem fire_rng {h : Hrs} {z m : Int} {s : Sal} (he : fireB h z s m = true) : 0 ≤ m ∧ m + lng s ≤ 144001439 := by
  have e2 := fireB_iff.1 he
  exact ⟨e2.1, e2.2.1⟩
theorem lenNum (l : List Int) : l.length * 1 = (encL encNum l).length := by rw [eNum.lenL]
noncomputable abbrev K62 (Q : CR → Prop) : Kont := (kBlock 0 (kSeq Tryz.X62 (cd PP 62 [1, 1, 1, 1]) (kRet Tryz.X62 62 Q)))
abbrev E62 (z : Int) (xs : List Sal) (sh : List Int) (la : Int) (i : Nat) : Env := [X, I z, X, .vs (encL encNum sh) sh.length .none, .ptr 0 0, X, X, X, X, X, X, I la, X, X, X, X, X, X, X, X, X, X, X, .vs (encL encSv xs) xs.length .none, I xs.length, I i] ++ List.replicate 68 X
abbrev F62 (z : Int) (xs : List Sal) (sh A : List Int) (g i q : Nat) : Env := [X, I z, X, .vs (encL encNum sh) sh.length .none, .ptr 0 0, X, X, X, X, X, X, X, X, .ptr 1 0, X, X, X, X, X, X, X, X, X, .vs (encL encSv xs) xs.length .none, I xs.length, I i, X, X, X, X, X, X, X, X, X, X, X, X, X, X, X, X, X, X, X, X, X, X, X, X, X, X, X, X, X, X, X, X, X, X, X, X, .vs (encL encNum A) g .none, I g, I q] ++ List.replicate 29 X
theorem nE62 {z la : Int} {xs : List Sal} {sh : List Int} {i : Nat} : noHL 1 (E62 z xs sh la i) = true := by
  unfold E62; simp [noHL_append, noHL, noH, eSv.noHL', eNum.noHL', noHL_rep]
theorem nF62 {z : Int} {xs : List Sal} {sh A : List Int} {g i q : Nat} : noHL 2 (F62 z xs sh A g i q) = true := by
  unfold F62; simp [noHL_append, noHL, noH, eSv.noHL', eNum.noHL', noHL_rep]
theorem step62 {c : Code} {env : Env} {S : St} {k : Kont} (h : wpC Tryz.X62 c env S (kLoop Tryz.X62 c k)) : WLoop Tryz.X62 c env S k := WLoop_step Tryz.bok (((Cts.nil _).cons ct130).cons ct126) h
section
variable {h : Hrs} {z : Int} {xs : List Sal} {s : Sal} {m : Int} {i : Nat} {sh A : List Int}
theorem inner62 (hs : okSal s) (h0 : sh[0]? = some m) (hm0 : 0 ≤ m) (hm1 : m + lng s ≤ 144001439) (hx : xs.length ≤ 1000) (hi : i < 1000) (hsh : s.gu.toNat ≤ sh.length) (hA : A = sh.take s.gu.toNat) (Q : CR → Prop) (hno : A ≠ shots s m → Q (.ret (.tup [Bo false, I 0]))) (hc : A = shots s m → WLoop Tryz.X62 (cd PP 62 [1, 1, 1, 0, 1, 0, 0]) (E62 z xs (sh.drop s.gu.toNat) (m + lng s) (i + 1)) ⟨[some (.cells (HH h) 81)], [], []⟩ (K62 Q)) :
    ∀ (d q : Nat), s.gu.toNat - q = d → q ≤ s.gu.toNat → A.take q = (shots s m).take q →
    WLoop Tryz.X62 (cd PP 62 [1, 1, 1, 0, 1, 0, 0, 1, 1, 0, 0, 1, 1, 0, 1, 0, 0]) (F62 z xs sh A s.gu.toNat i q) ⟨[some (.cells (HH h) 81), some (.cells [I s.at', I s.gu, I s.ga] 103)], [], []⟩ (kBlock 2 (kSeq Tryz.X62 (cd PP 62 [1, 1, 1, 0, 1, 0, 0, 1, 1, 0, 0, 1, 1, 1]) (kBlock 1 (kSeq Tryz.X62 (cd PP 62 [1, 1, 1, 0, 1, 0, 0, 1, 1, 1]) (kLoop Tryz.X62 (cd PP 62 [1, 1, 1, 0, 1, 0, 0]) (K62 Q)))))) := by
  have hg := hs.2.2.1
  have hg2 := hs.2.2.2.1
  have hlg := lng_bd hs
  have wi : IntKind.i64.wrap ((i : Int) + 1) = ((i + 1 : Nat) : Int) := wrap_id (by omega) (by omega)
  have hAl : A.length = s.gu.toNat := by rw [hA, List.length_take]; omega
  obtain ⟨f1, f2, f3, f4, f5⟩ := first h0
  intro d
  induction d with
  | zero =>
    intro q hd hq hT
    have hk' : q = s.gu.toNat := by omega
    subst hk'
    have hlt : ¬ ((s.gu.toNat : Nat) : Int) < (s.gu.toNat : Nat) := by omega
    rw [List.take_of_length_le (by omega), List.take_of_length_le (by rw [shots_len]; exact Nat.le_refl _)] at hT
    have hlast : sh[s.gu.toNat - 1]? = some (m + lng s) := by
      have e : A[s.gu.toNat - 1]? = some (m + ((s.gu.toNat - 1 : Nat) : Int) * s.ga) := by rw [hT]; exact shots_get s m (by omega)
      rw [hA, List.getElem?_take_of_lt (by omega)] at e
      rw [e]
      unfold lng
      rw [show ((s.gu.toNat - 1 : Nat) : Int) = s.gu - 1 by omega]
    have hl1 : s.gu.toNat - 1 < sh.length := by omega
    have w1 : IntKind.i64.wrap (s.gu - 1) = ((s.gu.toNat - 1 : Nat) : Int) := by
      rw [show s.gu - 1 = ((s.gu.toNat - 1 : Nat) : Int) by omega]
      exact wrap_id (by omega) (by omega)
    have hg0 : 0 ≤ s.gu := by omega
    refine step62 ((v62l2 h.op h.cl z s.at' s.gu s.ga h.d0 h.d1 h.d2 h.d3 h.d4 h.d5 h.d6 (encL encSv xs) (encL encNum sh) (encL encNum A) xs.length sh.length s.gu.toNat i s.gu.toNat Q).mpr (cIf_neg (df hlt) ?_))
    simp only [w1, dt (Int.natCast_nonneg (s.gu.toNat - 1)), Int.toNat_natCast, dt hl1, eNum.gl, eNum.gd hl1, eNum.g0 hl1 (by decide), eNum.el hlast, eNum.ld0 hlast (by decide), Num_like, eNum.cI0 hlast (by decide), Num_lk0, Num_c0, cIf_true, dt hg0, dt hsh, dt (Nat.le_refl sh.length), wi]
    simp only [Nat.mul_one, dropNum, ite_self]
    rw [List.take_of_length_le (by rw [eNum.lenL, List.length_drop]; omega), ← List.length_drop]
    exact cIf_pos nE62 (hc hT)
  | succ d ih =>
    intro q hd hq hT
    have hlt : q < s.gu.toNat := by omega
    have hlt1 : ((q : Nat) : Int) < (s.gu.toNat : Nat) := by omega
    have hltA : q < A.length := by omega
    have hb := shot_bd hs hlt
    have wk : IntKind.i64.wrap ((q : Int) + 1) = ((q + 1 : Nat) : Int) := wrap_id (by omega) (by omega)
    have w0 : IntKind.i64.wrap ((q : Int) * s.ga) = (q : Int) * s.ga := wrap_id (by omega) (by omega)
    have w1 : IntKind.i64.wrap (m + (q : Int) * s.ga) = m + (q : Int) * s.ga := wrap_id (by omega) (by omega)
    have ihq := ih (q + 1) (by omega) hlt
    obtain ⟨v, hv⟩ : ∃ v, A[q]? = some v := ⟨_, List.getElem?_eq_getElem hltA⟩
    refine step62 ((v62l2 h.op h.cl z s.at' s.gu s.ga h.d0 h.d1 h.d2 h.d3 h.d4 h.d5 h.d6 (encL encSv xs) (encL encNum sh) (encL encNum A) xs.length sh.length s.gu.toNat i q Q).mpr (cIf_pos (dt hlt1) ?_))
    rw [← hAl] at ihq ⊢
    simp only [dt hltA, eNum.gl, eNum.gd hltA, eNum.g0 hltA (by decide), eNum.el hv, eNum.ld0 hv (by decide), Num_like, eNum.cI0 hv (by decide), Num_lk0, Num_c0, cIf_true, dt f1, dt (lenNum sh), dt f2, f3, f4, w0, w1, wk]
    refine cIf_intro (fun hne => hno fun e => ?_) (fun heq => cIf_pos nF62 (ihq ?_))
    · have hne : v ≠ m + (q : Int) * s.ga := by simpa using hne
      rw [e, shots_get s m hlt] at hv
      exact hne (Option.some.inj hv).symm
    · have heq : v = m + (q : Int) * s.ga := by simpa using heq
      rw [shots_take s m hlt, List.take_add_one, hv, hT, heq]; rfl
end
section
variable {h : Hrs} {z : Int} {xs : List Sal} (hh : okHrs h) (hz : okZone z) (hx : xs.length ≤ 1000) (hok : ∀ s ∈ xs, okSal s)
include hh hz hx hok
theorem chk62 (Q : CR → Prop) : ∀ (d i : Nat) (sh : List Int) (la : Int), xs.length - i = d → i ≤ xs.length →
    Q (.ret (.tup [Bo (chkB h z (xs.drop i) la sh), I 0])) →
    WLoop Tryz.X62 (cd PP 62 [1, 1, 1, 0, 1, 0, 0]) (E62 z xs sh la i) ⟨[some (.cells (HH h) 81)], [], []⟩ (K62 Q) := by
  intro d
  induction d with
  | zero =>
    intro i sh la hd hi hQ
    have hi' : i = xs.length := by omega
    subst hi'
    have hno : ¬ ((xs.length : Nat) : Int) < (xs.length : Nat) := by omega
    rw [List.drop_length, show chkB h z [] la sh = ((sh.length : Int) == 0) by unfold chkB; rw [Bool.eq_iff_iff]; simp] at hQ
    exact step62 ((v62l h.op h.cl z la h.d0 h.d1 h.d2 h.d3 h.d4 h.d5 h.d6 (encL encSv xs) (encL encNum sh) xs.length sh.length xs.length Q).mpr (cIf_neg (df hno) hQ))
  | succ d ih =>
    intro i sh la hd hi hQ
    have hlt : i < xs.length := by omega
    have e1 : xs.length - (i + 1) = d := by omega
    have h1 : (i : Int) < xs.length := by omega
    have hi2 : i < 1000 := by omega
    obtain ⟨s, hs, hdr⟩ := drop_cons hlt
    have hsk := hok s (List.mem_of_getElem? hs)
    have hg1 := hsk.2.2.1
    rw [hdr] at hQ
    have eH : Hrs.mk h.op h.cl h.d0 h.d1 h.d2 h.d3 h.d4 h.d5 h.d6 = h := rfl
    have eS : Sal.mk s.at' s.gu s.ga = s := rfl
    refine step62 ((v62l h.op h.cl z la h.d0 h.d1 h.d2 h.d3 h.d4 h.d5 h.d6 (encL encSv xs) (encL encNum sh) xs.length sh.length i Q).mpr ?_)
    simp only [dt h1, dt hlt, eSv.gl, eSv.gd hlt, eSv.g0 hlt (by decide), eSv.el hs, eSv.ld0 hs (by decide), Sv_like, eSv.cI0 hs (by decide), Sv_lk0, Sv_c0, eSv.gf hlt 1 (by decide), eSv.ld hs 1 (by decide), eSv.cI hs 1 (by decide), Sv_lk1, Sv_c1, eSv.gf hlt 2 (by decide), eSv.ld hs 2 (by decide), eSv.cI hs 2 (by decide), Sv_lk2, Sv_c2, cIf_true, eH, eS]
    refine cIf_intro (fun hk => ?_) (fun hk => ?_)
    · have hk := of_decide_eq_true hk
      rw [chk_no rfl fun a _ _ _ _ => by omega] at hQ
      exact hQ
    · have hk := of_decide_eq_false hk
      have hk1 : s.gu ≤ sh.length := by omega
      have hk2 : s.gu.toNat ≤ sh.length := by omega
      obtain ⟨m, h0⟩ : ∃ v, sh[0]? = some v := ⟨_, List.getElem?_eq_getElem (by omega)⟩
      obtain ⟨f1, f2, f3, f4, f5⟩ := first h0
      simp only [dt f1, dt (lenNum sh), dt f2, f3, f4, cIf_true]
      refine cIf_intro (fun c => ?_) (fun ca => cIf_intro (fun c => ?_) (fun cb => ⟨⟨hh, hz, hsk⟩, trivial, cIf_intro (fun c => ?_) (fun cc => ?_)⟩))
      · have c := of_decide_eq_true c
        rw [chk_no f5 fun _ a _ _ _ => by omega] at hQ
        exact hQ
      · have c := of_decide_eq_true c
        rw [chk_no f5 fun _ _ a _ _ => by omega] at hQ
        exact hQ
      · have c : fireB h z s m = false := by simpa using c
        rw [chk_no f5 fun _ _ _ a _ => by rw [c] at a; cases a] at hQ
        exact hQ
      · have ca := of_decide_eq_false ca
        have cb := of_decide_eq_false cb
        have cc : fireB h z s m = true := by simpa using cc
        obtain ⟨m0, m1⟩ := fire_rng cc
        have hg0 : 0 ≤ s.gu := by omega
        simp only [dt hg0, dt hk2, cIf_true]
        simp only [Nat.sub_zero, Nat.mul_one, takeNum, ite_self]
        refine cIf_pos nF62 (inner62 (A := sh.take s.gu.toNat) hsk h0 m0 m1 hx hi2 hk2 rfl Q (fun hne => ?_) (fun heq => ?_) _ 0 rfl (Nat.zero_le _) rfl)
        · rw [chk_no f5 fun _ _ _ _ a => hne a] at hQ
          exact hQ
        · rw [chk_yes f5 hk1 (by omega) (by omega) cc heq] at hQ
          exact ih (i + 1) _ _ e1 hlt hQ
end
section
variable {h : Hrs} {z : Int} {xs : List Sal} {s : Sal} {m : Int} {i t : Nat} {sh A : List Int}
end
section
variable {h : Hrs} {z : Int} {xs : List Sal} {sh : List Int} (hh : okHrs h) (hz : okZone z) (hx : xs.length ≤ 1000) (hok : ∀ s ∈ xs, okSal s) (hk : sh.length ≤ 1000000) (h64 : ∀ v ∈ sh, i64 v)
include hh hz hx hok hk h64
end
theorem cbR_eq {h : Hrs} {z : Int} {xs : List Sal} {sh : List Int} : cbR h z (encL encSv xs) (encL encNum sh) = cbV h z xs sh := by
  unfold cbR; rw [eSv.on (by decide), eNum.on (by decide)]
theorem batR_eq {h : Hrs} {z : Int} {xs : List Sal} : batR h z (encL encSv xs) = batV h z xs := by
  unfold batR; rw [eSv.on (by decide)]
theorem ct62 : Ct Tryz.B.c0 62 R62 := Ct.of_wp (l := [(126, R126), (130, R130)]) (lm := lm62) (tp := []) (ct := []) (sm := [(6, 1), (11, 2), (16, 2), (18, 1), (19, 0)]) Tryz.bok (((Cts.nil _).cons ct130).cons ct126) ⟨_, _, Tryz.func62, rfl⟩ fun args D r hR hD => by
  unfold R62 at hR
  split at hR <;> cases hR
  rename_i op cl d0 d1 d2 d3 d4 d5 d6 z l n s k
  obtain ⟨xs, sh, rfl, rfl, hx, rfl, rfl, hk, h64⟩ := hD
  refine ⟨by simp [noHL, noH, eSv.noHL', eNum.noHL'], ?_⟩
  rw [show scrubL 0 [AV.agg [I op, I cl, Bo d0, Bo d1, Bo d2, Bo d3, Bo d4, Bo d5, Bo d6], I z, AV.vs (encL encSv xs) xs.length .none, AV.vs (encL encNum sh) sh.length .none] = [AV.agg [I op, I cl, Bo d0, Bo d1, Bo d2, Bo d3, Bo d4, Bo d5, Bo d6], I z, AV.vs (encL encSv xs) xs.length .none, AV.vs (encL encNum sh) sh.length .none] by simp [scrubL, scrub, eSv.scL, eNum.scL, Tok.scrub]]
  rw [cbR_eq]
  show wpF Tryz.X62 62 _ _
  rw [v62]
  refine ⟨⟨xs, rfl, rfl, hx⟩, ?_⟩
  rw [eSv.on (by decide)]
  refine cIf_intro (fun hne => ?_) (fun he => ?_)
  · have hne : salsE op cl z xs ≠ 0 := by simpa using hne
    have : cbV ⟨op, cl, d0, d1, d2, d3, d4, d5, d6⟩ z xs sh = (false, salsE op cl z xs) := by unfold cbV; rw [if_neg hne]
    rw [this]
  · have he : salsE op cl z xs = 0 := by simpa using he
    obtain ⟨hh, hz, hok⟩ := salsE_ok (d0 := d0) (d1 := d1) (d2 := d2) (d3 := d3) (d4 := d4) (d5 := d5) (d6 := d6) he
    have : cbV ⟨op, cl, d0, d1, d2, d3, d4, d5, d6⟩ z xs sh = (chkB ⟨op, cl, d0, d1, d2, d3, d4, d5, d6⟩ z xs (-1) sh, 0) := by unfold cbV; rw [if_pos he]
    rw [this]
    exact cIf_pos (nE62 (la := -1) (i := 0)) (chk62 (h := ⟨op, cl, d0, d1, d2, d3, d4, d5, d6⟩) hh hz hx hok _ _ 0 sh (-1) rfl (Nat.zero_le _) rfl)
/-! ### The laws -/
noncomputable def R15 : Spc := fun args => match args with
  | [.agg [.int .i64 op, .int .i64 cl, .bool d0, .bool d1, .bool d2, .bool d3, .bool d4, .bool d5, .bool d6], .int .i64 z, .vs l n .none, .vs s k .none] => some (∃ x y, l = encL encSv x ∧ n = x.length ∧ s = encL encNum y ∧ k = y.length ∧ ∀ v ∈ y, i64 v, rB true)
  | _ => none
theorem batF_inv {h : Hrs} {z : Int} : ∀ (l : List Sal) (la : Int) (out L : List Int), (∀ s ∈ l, okSal s) → (∀ v ∈ out, i64 v) → batF h z l la out = some L → L.length ≤ out.length + 21 * l.length ∧ ∀ v ∈ L, i64 v
  | [], la, out, L, _, ho, he => by
    cases he
    exact ⟨by simp, ho⟩
  | s :: l, la, out, L, hs, ho, he => by
    cases h1 : earl h z s (max s.at' (la + 1)) with
    | none => rw [batF_none h1] at he; cases he
    | some m =>
      rw [batF_some h1] at he
      have hsk := hs s List.mem_cons_self
      have hs0 := hsk.1
      obtain ⟨m0, m1⟩ := earl_rng (by omega) h1
      have hlg := lng_bd hsk
      obtain ⟨q1, q2⟩ := batF_inv l _ _ L (fun x hx => hs x (List.mem_cons_of_mem _ hx)) (fun v hv => by
        rcases List.mem_append.1 hv with q | q
        · exact ho v q
        · unfold shots at q
          obtain ⟨k, hk, rfl⟩ := List.mem_map.1 q
          have hb := shot_bd hsk (List.mem_range.1 hk)
          exact ⟨by omega, by omega⟩) he
      rw [List.length_append, shots_len] at q1
      have hg := hsk.2.2.2.1
      rw [List.length_cons]
      exact ⟨by omega, q2⟩
theorem batV_ok {h : Hrs} {z : Int} {xs : List Sal} : (batV h z xs).1.length ≤ 21 * xs.length ∧ ∀ v ∈ (batV h z xs).1, i64 v := by
  unfold batV
  split
  · rename_i he
    obtain ⟨_, _, hok⟩ := salsE_ok (d0 := true) (d1 := true) (d2 := true) (d3 := true) (d4 := true) (d5 := true) (d6 := true) he
    cases hb : batF h z xs (-1) [] with
    | none => exact ⟨Nat.zero_le _, fun v hv => by cases hv⟩
    | some L =>
      obtain ⟨q1, q2⟩ := batF_inv xs _ _ L hok (fun v hv => by cases hv) hb
      exact ⟨by simpa using q1, q2⟩
  · exact ⟨Nat.zero_le _, fun v hv => by cases hv⟩
/-! ### HonoursFirst -/
def LeL (L sh : List Int) : Prop := L.length = sh.length ∧ ∀ (i : Nat) (a b : Int), L[i]? = some a → sh[i]? = some b → a ≤ b
theorem LeL_append {a b c d : List Int} (h1 : LeL a b) (h2 : LeL c d) : LeL (a ++ c) (b ++ d) := by
  refine ⟨by rw [List.length_append, List.length_append, h1.1, h2.1], fun i u v hu hv => ?_⟩
  rcases Nat.lt_or_ge i a.length with q | q
  · rw [List.getElem?_append_left q] at hu
    rw [List.getElem?_append_left (by rw [← h1.1]; exact q)] at hv
    exact h1.2 i u v hu hv
  · rw [List.getElem?_append_right q] at hu
    rw [List.getElem?_append_right (by rw [← h1.1]; exact q), ← h1.1] at hv
    exact h2.2 _ u v hu hv
theorem LeL_shots {s : Sal} {m n : Int} (h : m ≤ n) : LeL (shots s m) (shots s n) := by
  refine ⟨by rw [shots_len, shots_len], fun i u v hu hv => ?_⟩
  have hi := (List.getElem?_eq_some_iff.1 hu).1
  rw [shots_len] at hi
  rw [shots_get s m hi] at hu
  rw [shots_get s n hi] at hv
  cases hu; cases hv
  omega
theorem chk_inv {h : Hrs} {z la : Int} {s : Sal} {l : List Sal} {sh : List Int} (hc : chkB h z (s :: l) la sh = true) : s.gu ≤ sh.length ∧ s.at' ≤ sh.getD 0 0 ∧ la < sh.getD 0 0 ∧ Fire h z s (sh.getD 0 0) ∧ sh.take s.gu.toNat = shots s (sh.getD 0 0) ∧ chkB h z l (sh.getD 0 0 + lng s) (sh.drop s.gu.toNat) = true := by
  unfold chkB at hc
  simp only [Bool.and_eq_true, decide_eq_true_eq] at hc
  obtain ⟨⟨⟨⟨a, b, c⟩, d⟩, e⟩, f⟩ := hc
  exact ⟨a, b, c, fireB_iff.1 d, e, f⟩
def BatLaw (h : Hrs) (z : Int) (l : List Sal) (la : Int) (out : List Int) : Option (List Int) → Prop
  | none => ∀ la' sh, la ≤ la' → chkB h z l la' sh = true → False
  | some R => ∃ L, R = out ++ L ∧ chkB h z l la L = true ∧ ∀ la' sh, la ≤ la' → chkB h z l la' sh = true → LeL L sh
theorem bat_law {h : Hrs} {z : Int} : ∀ (l : List Sal) (la : Int) (out : List Int), (∀ s ∈ l, okSal s) → BatLaw h z l la out (batF h z l la out)
  | [], la, out, _ => by
    refine ⟨[], by simp, rfl, fun la' sh _ hc => ?_⟩
    have h0 : sh.length = 0 := by unfold chkB at hc; simpa using hc
    exact ⟨h0.symm, fun i a b ha _ => by cases ha⟩
  | s :: l, la, out, hs => by
    have hsk := hs s List.mem_cons_self
    have ih := fun la' out' => bat_law (h := h) (z := z) l la' out' (fun x hx => hs x (List.mem_cons_of_mem _ hx))
    cases h1 : earl h z s (max s.at' (la + 1)) with
    | none =>
      rw [batF_none h1]
      intro la' sh hla hc
      obtain ⟨a, b, c, d, e, f⟩ := chk_inv hc
      exact earl_not h1 _ (by omega) d
    | some m =>
      rw [batF_some h1]
      have hle : ∀ la' sh, la ≤ la' → chkB h z (s :: l) la' sh = true → m ≤ sh.getD 0 0 := fun la' sh hla hc => by
        obtain ⟨a, b, c, d, e, f⟩ := chk_inv hc
        obtain ⟨m0, q1, q2⟩ := earl_mono (f := max s.at' (la + 1)) (g := sh.getD 0 0) (by omega) (Int.le_refl _) d
        rw [h1] at q1
        cases q1
        exact q2
      have ih1 := ih (m + lng s) (out ++ shots s m)
      cases hb : batF h z l (m + lng s) (out ++ shots s m) with
      | none =>
        rw [hb] at ih1
        intro la' sh hla hc
        have := hle la' sh hla hc
        obtain ⟨a, b, c, d, e, f⟩ := chk_inv hc
        exact ih1 _ _ (by omega) f
      | some R =>
        rw [hb] at ih1
        obtain ⟨L, rfl, hL, hall⟩ := ih1
        have hsp := earl_spec h1
        have hg := hsk.2.2.1
        have hm : (shots s m ++ L).getD 0 0 = m := by
          rw [List.getD_eq_getElem?_getD, List.getElem?_append_left (by rw [shots_len]; omega), shots_get s m (by omega)]
          simp
        have htk : (shots s m ++ L).take s.gu.toNat = shots s m := by
          rw [List.take_append_of_le_length (by rw [shots_len]; exact Nat.le_refl _), List.take_of_length_le (by rw [shots_len]; exact Nat.le_refl _)]
        have hdp : (shots s m ++ L).drop s.gu.toNat = L := by
          have := List.drop_left (l₁ := shots s m) (l₂ := L)
          rwa [shots_len] at this
        have hfm := hsp.1
        refine ⟨shots s m ++ L, by rw [List.append_assoc], ?_, fun la' sh hla hc => ?_⟩
        · rw [chk_yes hm (by rw [List.length_append, shots_len]; omega) (by omega) (by omega) (fireB_iff.2 hsp.2.1) htk, hdp]
          exact hL
        · have h2 := hle la' sh hla hc
          obtain ⟨a, b, c, d, e, f⟩ := chk_inv hc
          rw [← List.take_append_drop s.gu.toNat sh, e]
          exact LeL_append (LeL_shots h2) (hall _ _ (by omega) f)
theorem salsE_lt (op cl z : Int) (l : List Sal) : salsE op cl z l ≠ 50 := by
  unfold salsE
  split
  · split
    · decide
    · split <;> decide
  · decide
theorem step16 {c : Code} {env : Env} {S : St} {k : Kont} (h : wpC Tryz.X16 c env S (kLoop Tryz.X16 c k)) : WLoop Tryz.X16 c env S k := WLoop_step Tryz.bok ((((Cts.nil _).cons ct26).cons ct62).cons ct60) h
abbrev E16 (sh L : List Int) (i : Nat) : Env := [X, X, X, .vs (encL encNum sh) sh.length .none, X, X, X, X, X, .vs (encL encNum L) L.length .none, X, X, X, X, X, X, X, X, X, X, X, X, X, X, X, X, X, X, X, X, X, X, X, X, X, X, X, X, X, X, X, X, X, X, X, X, X, X, X, X, X, X, X, X, X, X, X, X, X, X, X, X, X, X, X, X, X, X, X, X, X, X, X, X, X, X, X, X, X, X, X, X, X, X, X, X, X, X, X, X, X, X, X, X, X, X, X, X, X, X, I L.length, I i] ++ List.replicate 13 X
theorem nE16 {sh L : List Int} {i : Nat} : noHL 0 (E16 sh L i) = true := by
  unfold E16; simp [noHL_append, noHL, noH, eNum.noHL', noHL_rep]
theorem loop16 {sh L : List Int} (hl : LeL L sh) (hk : L.length ≤ 1000000) (Q : CR → Prop) (hQ : Q (.ret (Bo true))) : ∀ (d i : Nat), L.length - i = d → i ≤ L.length →
    WLoop Tryz.X16 (cd PP 16 [1, 1, 1, 1, 1, 1, 1, 1, 1, 1, 0, 1, 0, 0]) (E16 sh L i) ⟨[], [], []⟩ (kBlock 0 (kSeq Tryz.X16 (cd PP 16 [1, 1, 1, 1, 1, 1, 1, 1, 1, 1, 1]) (kRet Tryz.X16 16 Q))) := by
  intro d
  induction d with
  | zero =>
    intro i hd hi
    have hno : ¬ (i : Int) < (L.length : Nat) := by omega
    exact step16 ((v16l (encL encNum sh) (encL encNum L) sh.length L.length i Q).mpr (cIf_neg (df hno) ⟨trivial, hQ⟩))
  | succ d ih =>
    intro i hd hi
    have hlt : i < L.length := by omega
    have hlen := hl.1
    have hlt2 : i < sh.length := by omega
    have h1 : (i : Int) < L.length := by omega
    have w1 : IntKind.i64.wrap ((i : Int) + 1) = ((i + 1 : Nat) : Int) := wrap_id (by omega) (by omega)
    have ihq := ih (i + 1) (by omega) hlt
    obtain ⟨a, ha⟩ : ∃ v, L[i]? = some v := ⟨_, List.getElem?_eq_getElem hlt⟩
    obtain ⟨b, hb⟩ : ∃ v, sh[i]? = some v := ⟨_, List.getElem?_eq_getElem hlt2⟩
    have hab := hl.2 i a b ha hb
    have hnb : ¬ b < a := by omega
    refine step16 ((v16l (encL encNum sh) (encL encNum L) sh.length L.length i Q).mpr ?_)
    simp only [dt h1, dt hlt, dt hlt2, eNum.gl, eNum.gd hlt, eNum.g0 hlt (by decide), eNum.el ha, eNum.ld0 ha (by decide), Num_like, eNum.cI0 ha (by decide), Num_lk0, Num_c0, eNum.gl, eNum.gd hlt2, eNum.g0 hlt2 (by decide), eNum.el hb, eNum.ld0 hb (by decide), Num_like, eNum.cI0 hb (by decide), Num_lk0, Num_c0, cIf_true, df hnb, cIf_false, w1]
    exact cIf_pos nE16 ihq
theorem ct16 : Ct Tryz.B.c0 16 R15 := Ct.of_wp (l := [(60, R60), (62, R62), (26, R26)]) (lm := lm16) (tp := []) (ct := []) (sm := [(17, 0), (22, 0)]) Tryz.bok ((((Cts.nil _).cons ct26).cons ct62).cons ct60) ⟨_, _, Tryz.func16, rfl⟩ fun args D r hR hD => by
  unfold R15 at hR
  split at hR <;> cases hR
  rename_i op cl d0 d1 d2 d3 d4 d5 d6 z l n s k
  obtain ⟨xs, sh, rfl, rfl, rfl, rfl, h64⟩ := hD
  refine ⟨by simp [noHL, noH, eSv.noHL', eNum.noHL'], ?_⟩
  rw [show scrubL 0 [AV.agg [I op, I cl, Bo d0, Bo d1, Bo d2, Bo d3, Bo d4, Bo d5, Bo d6], I z, AV.vs (encL encSv xs) xs.length .none, AV.vs (encL encNum sh) sh.length .none] = [AV.agg [I op, I cl, Bo d0, Bo d1, Bo d2, Bo d3, Bo d4, Bo d5, Bo d6], I z, AV.vs (encL encSv xs) xs.length .none, AV.vs (encL encNum sh) sh.length .none] by simp [scrubL, scrub, eSv.scL, eNum.scL, Tok.scrub]]
  show wpF Tryz.X16 16 _ _
  rw [v16]
  obtain ⟨bl, b64⟩ := batV_ok (h := ⟨op, cl, d0, d1, d2, d3, d4, d5, d6⟩) (z := z) (xs := xs)
  refine cIf_intro (fun _ => ⟨trivial, rfl⟩) (fun h1 => cIf_intro (fun _ => ⟨trivial, rfl⟩) (fun h2 => ?_))
  have h1 : xs.length ≤ 20 := by have := of_decide_eq_false h1; omega
  have h2 : sh.length ≤ 420 := by have := of_decide_eq_false h2; omega
  rw [batR_eq, cbR_eq, cbR_eq]
  refine ⟨⟨xs, rfl, rfl, by omega⟩, ⟨xs, sh, rfl, rfl, by omega, rfl, rfl, by omega, h64⟩, ?_⟩
  by_cases he : salsE op cl z xs = 0
  · obtain ⟨hh, hz, hok⟩ := salsE_ok (d0 := d0) (d1 := d1) (d2 := d2) (d3 := d3) (d4 := d4) (d5 := d5) (d6 := d6) he
    have hcb : ∀ y, cbV ⟨op, cl, d0, d1, d2, d3, d4, d5, d6⟩ z xs y = (chkB ⟨op, cl, d0, d1, d2, d3, d4, d5, d6⟩ z xs (-1) y, 0) := fun y => by unfold cbV; rw [if_pos he]
    have hbv : batV ⟨op, cl, d0, d1, d2, d3, d4, d5, d6⟩ z xs = batP (batF ⟨op, cl, d0, d1, d2, d3, d4, d5, d6⟩ z xs (-1) []) := by unfold batV; rw [if_pos he]; rfl
    have hlaw := bat_law (h := ⟨op, cl, d0, d1, d2, d3, d4, d5, d6⟩) (z := z) xs (-1) [] hok
    rw [hcb, hcb]
    cases hb : batF ⟨op, cl, d0, d1, d2, d3, d4, d5, d6⟩ z xs (-1) [] with
    | none =>
      rw [hb] at hlaw hbv
      have hf : chkB ⟨op, cl, d0, d1, d2, d3, d4, d5, d6⟩ z xs (-1) sh = false := by
        cases hc : chkB ⟨op, cl, d0, d1, d2, d3, d4, d5, d6⟩ z xs (-1) sh with
        | false => rfl
        | true => exact (hlaw (-1) sh (Int.le_refl _) hc).elim
      rw [hbv, hf]
      exact cIf_pos rfl ⟨trivial, cIf_pos rfl (cIf_pos rfl rfl)⟩
    | some R =>
      rw [hb] at hlaw hbv
      obtain ⟨L, hRL, hL, hall⟩ := hlaw
      rw [List.nil_append] at hRL
      subst hRL
      rw [hbv] at bl b64 ⊢
      refine cIf_neg rfl (cIf_neg rfl ⟨⟨xs, R, rfl, rfl, by omega, rfl, rfl, ?_, b64⟩, ?_⟩)
      · have bl2 : R.length ≤ 21 * xs.length := bl
        omega
      show cIf (!(chkB _ z xs (-1) R)) _ _
      rw [hL]
      refine cIf_neg rfl (cIf_neg rfl (cIf_neg rfl (cIf_intro (fun _ => ⟨trivial, rfl⟩) (fun hc => ?_))))
      have hc : chkB ⟨op, cl, d0, d1, d2, d3, d4, d5, d6⟩ z xs (-1) sh = true := by simpa using hc
      have hle := hall (-1) sh (Int.le_refl _) hc
      have hlen := hle.1
      refine cIf_neg (by show ((sh.length : Int) != (R.length : Int)) = false; rw [hlen]; simp) (cIf_pos (nE16 (sh := sh) (L := R) (i := 0)) (loop16 hle ?_ _ ?_ _ 0 rfl (Nat.zero_le _)))
      · have bl2 : R.length ≤ 21 * xs.length := bl
        omega
      · rfl
  · have hcb : ∀ y, cbV ⟨op, cl, d0, d1, d2, d3, d4, d5, d6⟩ z xs y = (false, salsE op cl z xs) := fun y => by unfold cbV; rw [if_neg he]
    have hbv : batV ⟨op, cl, d0, d1, d2, d3, d4, d5, d6⟩ z xs = ([], salsE op cl z xs) := by unfold batV; rw [if_neg he]
    have h50 := salsE_lt op cl z xs
    rw [hcb, hcb, hbv]
    refine cIf_neg (by simp [h50]) (cIf_pos (by simp [he]) ⟨trivial, cIf_pos (by simp) (cIf_pos rfl rfl)⟩)
end Go.Proofs
