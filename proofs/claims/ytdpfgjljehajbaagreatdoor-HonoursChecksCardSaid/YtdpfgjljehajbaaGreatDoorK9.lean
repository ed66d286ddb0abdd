/- Contracts of functions of the program and of the reference. -/
import Derived.Test.YtdpfgjljehajbaaGreatDoorK8
import Derived.Test.YtdpfgjljehajbaaGreatDoorKU
set_option linter.unusedVariables false
set_option linter.unusedSimpArgs false
/-! VCI -/
set_option maxRecDepth 100000
set_option linter.unusedVariables false
set_option linter.unusedSimpArgs false
namespace Go.Ev
def idF : List Dcr → Int → Int → Int
  | [], _, _ => -1
  | x :: l, jd, i => if x.id = jd then i else idF l jd (i + 1)
def mstE : Int → List Mst → Int
  | _, [] => 0
  | p, m :: l => if mstB m = false then 1 else if m.id < p then 1 else if m.id = p then 6 else mstE m.id l
def dcrE : List Dcr → List Dcr → Int
  | _, [] => 0
  | pre, x :: l => if dcrB x = false then 1 else if (pre.any fun y => decide (y.id = x.id)) = true then 6 else dcrE (pre ++ [x]) l
def chkV (ms : List Mst) (ds : List Dcr) : Int := if ms.length > 40 ∨ ds.length > 100 then 2 else if mstE 0 ms ≠ 0 then mstE 0 ms else dcrE [] ds
end Go.Ev
namespace Go.Proofs
open Go Go.Ev
noncomputable def R161 : Spc := fun args => match args with
  | [.vs l n tk, .fn (.func 113) [] [.vp [.int .i64 jd, .int .u8 _, .int .i64 _, .int .i64 _, .int .i64 _, .int .i64 _, .int .i64 _, .int .i64 _, .int .i64 _]]] => some ((∃ x, l = encL encD x ∧ n = x.length ∧ x.length ≤ 1000) ∧ tk = .none, rI (onEnc (encL encD) (fun x => idF x jd 0) 0 l))
  | _ => none
noncomputable def R112 : Spc := fun args => match args with
  | [.vs l n tk, .fn (.func 113) [] [.vp [.int .i64 jd, .int .u8 _, .int .i64 _, .int .i64 _, .int .i64 _, .int .i64 _, .int .i64 _, .int .i64 _, .int .i64 _]]] => some ((∃ x, l = encL encD x ∧ n = x.length ∧ x.length ≤ 1000) ∧ tk = .none, rB (onEnc (encL encD) (fun x => x.any fun y => decide (y.id = jd)) false l))
  | _ => none
noncomputable def R45 : Spc := fun args => match args with
  | [.agg [.vs l n .none, .vs c k .none]] => some (∃ ms ds, l = encL encM ms ∧ n = ms.length ∧ c = encL encD ds ∧ k = ds.length ∧ ms.length ≤ 10000000 ∧ ds.length ≤ 10000000, rI (onEnc (encL encM) (fun ms => onEnc (encL encD) (fun ds => chkV ms ds) 0 c) 0 l))
  | _ => none
def lm161 : List (Nat × List Nat) := [(2, [0, 1, 7, 8]), (7, [])]
noncomputable def Tryz.X161 : WCx := Tryz.B.wcx [(113, R113)] lm161 [] [] []
def lm112 : List (Nat × List Nat) := []
noncomputable def Tryz.X112 : WCx := Tryz.B.wcx [(161, R161)] lm112 [] [] []
def lm46 : List (Nat × List Nat) := [(4, [1, 3]), (11, [1]), (12, [1, 5]), (13, [1, 5]), (18, [1, 5, 7]), (22, [])]
noncomputable def Tryz.X46 : WCx := Tryz.B.wcx [(114, R111), (99, R95)] lm46 [] [] []
theorem v161 (l : List AV) (n : Nat) (jd j1 j2 j3 j4 j5 j6 j7 j8 : Int) (Q : CR → Prop) : wpF Tryz.X161 161 [.vs l n .none, .fn (.func 113) [] [.vp [I jd, U j1, I j2, I j3, I j4, I j5, I j6, I j7, I j8]]] Q =
  (WLoop Tryz.X161 (cd Tryz.X161.P 161 [1, 0, 1, 0, 0]) ([AV.vs l n Tok.none, AV.fn (Fn.func 113) [] [AV.vp [I jd, U j1, I j2, I j3, I j4, I j5, I j6, I j7, I j8]], X, X, X, X, X, I (↑n : Int), I (0 : Int)] ++ List.replicate 10 X) (St.mk [] [] []) (kBlock 0 (kSeq Tryz.X161 (cd Tryz.X161.P 161 [1, 1]) (kRet Tryz.X161 161 Q)))) := by kernel_rfl
theorem v161l (l : List AV) (n i : Nat) (jd j1 j2 j3 j4 j5 j6 j7 j8 : Int) (Q : CR → Prop) : wpC Tryz.X161 (cd PP 161 [1, 0, 1, 0, 0]) ([.vs l n .none, .fn (.func 113) [] [.vp [I jd, U j1, I j2, I j3, I j4, I j5, I j6, I j7, I j8]], X, X, X, X, X, I n, I i] ++ List.replicate 10 X) ⟨[], [], []⟩ (kLoop Tryz.X161 (cd PP 161 [1, 0, 1, 0, 0]) (kBlock 0 (kSeq Tryz.X161 (cd PP 161 [1, 1]) (kRet Tryz.X161 161 Q)))) =
  (cIf (decide ((↑i : Int) < (↑n : Int))) (cIf (decide (i < n)) (cIf (decide (n * 9 = l.length)) (cIf (decide (9 ≤ (List.drop (i * 9) l).length)) (cIf (like [I (0 : Int), U (0 : Int), I (0 : Int), I (0 : Int), I (0 : Int), I (0 : Int), I (0 : Int), I (0 : Int), I (0 : Int)] (el (List.drop (i * 9) l) 0 9)) (True ∧ cIf (decide (cI (el (List.drop (i * 9) l) 0 9) 0 = jd)) (Q (CR.ret (I (↑i : Int)))) (WLoop Tryz.X161 (cd PP 161 [1, 0, 1, 0, 0]) ([AV.vs l n Tok.none, AV.fn (Fn.func 113) [] [AV.vp [I jd, U j1, I j2, I j3, I j4, I j5, I j6, I j7, I j8]], X, X, X, X, X, I (↑n : Int), I (IntKind.i64.wrap ((↑i : Int) + (1 : Int)))] ++ List.replicate 10 X) (St.mk [] [] []) (kBlock 0 (kSeq Tryz.X161 (cd PP 161 [1, 1]) (kRet Tryz.X161 161 Q))))) False) False) False) False) (Q (CR.ret (I (-1 : Int))))) := by kernel_rfl
theorem v112 (l : List AV) (n : Nat) (jd j1 j2 j3 j4 j5 j6 j7 j8 : Int) (Q : CR → Prop) : wpF Tryz.X112 112 [.vs l n .none, .fn (.func 113) [] [.vp [I jd, U j1, I j2, I j3, I j4, I j5, I j6, I j7, I j8]]] Q =
  (((∃ (x : List Dcr), l = encL encD x ∧ n = x.length ∧ x.length ≤ 1000) ∧ Tok.none = Tok.none) ∧ Q (CR.ret (Bo (decide (onEnc (encL encD) (fun (x : List Dcr) => idF x jd (0 : Int)) (0 : Int) l ≥ (0 : Int)))))) := by kernel_rfl
theorem v46 (l c : List AV) (n k : Nat) (Q : CR → Prop) : wpF Tryz.X46 46 [.agg [.vs l n .none, .vs c k .none]] Q =
  (cIf (decide ((↑n : Int) > (40 : Int))) (Q (CR.ret (I (2 : Int)))) (cIf (decide ((↑k : Int) > (100 : Int))) (Q (CR.ret (I (2 : Int)))) (WLoop Tryz.X46 (cd Tryz.X46.P 46 [1, 1, 0, 1, 0, 0]) ([X, AV.ptr 0 0, X, I (0 : Int)] ++ List.replicate 100 X) (St.mk [some (HB.cells [AV.vs l n Tok.none, AV.vs c k Tok.none] 25)] [] []) (kBlock 0 (kSeq Tryz.X46 (cd Tryz.X46.P 46 [1, 1, 1]) (kRet Tryz.X46 46 Q)))))) := by kernel_rfl
theorem v46l (l c : List AV) (n k i : Nat) (Q : CR → Prop) : wpC Tryz.X46 (cd PP 46 [1, 1, 0, 1, 0, 0]) ([X, .ptr 0 0, X, I i] ++ List.replicate 100 X) ⟨[some (.cells [.vs l n .none, .vs c k .none] 25)], [], []⟩ (kLoop Tryz.X46 (cd PP 46 [1, 1, 0, 1, 0, 0]) (kBlock 0 (kSeq Tryz.X46 (cd PP 46 [1, 1, 1]) (kRet Tryz.X46 46 Q)))) =
  (cIf (decide ((↑i : Int) < (↑n : Int))) (cIf (decide (i < n)) (cIf (decide (n * 2 = l.length)) (cIf (decide (2 ≤ (List.drop (i * 2) l).length)) (cIf (like [I (0 : Int), I (0 : Int)] (el (List.drop (i * 2) l) 0 2)) (True ∧ cIf (!mstB (Mst.mk (cI (el (List.drop (i * 2) l) 0 2) 0) (cI (el (List.drop (i * 2) l) 0 2) 1))) (Q (CR.ret (I (1 : Int)))) (cIf (decide ((↑i : Int) > (0 : Int))) (cIf (decide (i < n)) (cIf (decide (n * 2 = l.length)) (cIf (decide (0 < (List.drop (i * 2) l).length)) (cIf (likeOk (AV.ofVal (Value.int IntKind.i64 (0 : Int))) ((List.drop (i * 2) l).getD 0 X)) (cIf (decide ((0 : Int) ≤ IntKind.i64.wrap ((↑i : Int) - (1 : Int)))) (cIf (decide ((IntKind.i64.wrap ((↑i : Int) - (1 : Int))).toNat < n)) (cIf (decide (n * 2 = l.length)) (cIf (decide (0 < (List.drop ((IntKind.i64.wrap ((↑i : Int) - (1 : Int))).toNat * 2) l).length)) (cIf (likeOk (AV.ofVal (Value.int IntKind.i64 (0 : Int))) ((List.drop ((IntKind.i64.wrap ((↑i : Int) - (1 : Int))).toNat * 2) l).getD 0 X)) (cIf (decide (cI (List.drop (i * 2) l) 0 < cI (List.drop ((IntKind.i64.wrap ((↑i : Int) - (1 : Int))).toNat * 2) l) 0)) (Q (CR.ret (I (1 : Int)))) (cIf (decide ((↑i : Int) > (0 : Int))) (cIf (decide (i < n)) (cIf (decide (n * 2 = l.length)) (cIf (decide (0 < (List.drop (i * 2) l).length)) (cIf (likeOk (AV.ofVal (Value.int IntKind.i64 (0 : Int))) ((List.drop (i * 2) l).getD 0 X)) (cIf (decide ((0 : Int) ≤ IntKind.i64.wrap ((↑i : Int) - (1 : Int)))) (cIf (decide ((IntKind.i64.wrap ((↑i : Int) - (1 : Int))).toNat < n)) (cIf (decide (n * 2 = l.length)) (cIf (decide (0 < (List.drop ((IntKind.i64.wrap ((↑i : Int) - (1 : Int))).toNat * 2) l).length)) (cIf (likeOk (AV.ofVal (Value.int IntKind.i64 (0 : Int))) ((List.drop ((IntKind.i64.wrap ((↑i : Int) - (1 : Int))).toNat * 2) l).getD 0 X)) (cIf (cI (List.drop (i * 2) l) 0 == cI (List.drop ((IntKind.i64.wrap ((↑i : Int) - (1 : Int))).toNat * 2) l) 0) (Q (CR.ret (I (6 : Int)))) (WLoop Tryz.X46 (cd PP 46 [1, 1, 0, 1, 0, 0]) ([X, AV.ptr 0 0, X, I (IntKind.i64.wrap ((↑i : Int) + (1 : Int)))] ++ List.replicate 100 X) (St.mk [some (HB.cells [AV.vs l n Tok.none, AV.vs c k Tok.none] 25)] [] []) (kBlock 0 (kSeq Tryz.X46 (cd PP 46 [1, 1, 1]) (kRet Tryz.X46 46 Q))))) False) False) False) False) False) False) False) False) False) (WLoop Tryz.X46 (cd PP 46 [1, 1, 0, 1, 0, 0]) ([X, AV.ptr 0 0, X, I (IntKind.i64.wrap ((↑i : Int) + (1 : Int)))] ++ List.replicate 100 X) (St.mk [some (HB.cells [AV.vs l n Tok.none, AV.vs c k Tok.none] 25)] [] []) (kBlock 0 (kSeq Tryz.X46 (cd PP 46 [1, 1, 1]) (kRet Tryz.X46 46 Q)))))) False) False) False) False) False) False) False) False) False) (cIf (decide ((↑i : Int) > (0 : Int))) (cIf (decide (i < n)) (cIf (decide (n * 2 = l.length)) (cIf (decide (0 < (List.drop (i * 2) l).length)) (cIf (likeOk (AV.ofVal (Value.int IntKind.i64 (0 : Int))) ((List.drop (i * 2) l).getD 0 X)) (cIf (decide ((0 : Int) ≤ IntKind.i64.wrap ((↑i : Int) - (1 : Int)))) (cIf (decide ((IntKind.i64.wrap ((↑i : Int) - (1 : Int))).toNat < n)) (cIf (decide (n * 2 = l.length)) (cIf (decide (0 < (List.drop ((IntKind.i64.wrap ((↑i : Int) - (1 : Int))).toNat * 2) l).length)) (cIf (likeOk (AV.ofVal (Value.int IntKind.i64 (0 : Int))) ((List.drop ((IntKind.i64.wrap ((↑i : Int) - (1 : Int))).toNat * 2) l).getD 0 X)) (cIf (cI (List.drop (i * 2) l) 0 == cI (List.drop ((IntKind.i64.wrap ((↑i : Int) - (1 : Int))).toNat * 2) l) 0) (Q (CR.ret (I (6 : Int)))) (WLoop Tryz.X46 (cd PP 46 [1, 1, 0, 1, 0, 0]) ([X, AV.ptr 0 0, X, I (IntKind.i64.wrap ((↑i : Int) + (1 : Int)))] ++ List.replicate 100 X) (St.mk [some (HB.cells [AV.vs l n Tok.none, AV.vs c k Tok.none] 25)] [] []) (kBlock 0 (kSeq Tryz.X46 (cd PP 46 [1, 1, 1]) (kRet Tryz.X46 46 Q))))) False) False) False) False) False) False) False) False) False) (WLoop Tryz.X46 (cd PP 46 [1, 1, 0, 1, 0, 0]) ([X, AV.ptr 0 0, X, I (IntKind.i64.wrap ((↑i : Int) + (1 : Int)))] ++ List.replicate 100 X) (St.mk [some (HB.cells [AV.vs l n Tok.none, AV.vs c k Tok.none] 25)] [] []) (kBlock 0 (kSeq Tryz.X46 (cd PP 46 [1, 1, 1]) (kRet Tryz.X46 46 Q))))))) False) False) False) False) (WLoop Tryz.X46 (cd PP 46 [1, 1, 1, 0, 1, 0, 0]) ([X, AV.ptr 0 0, X, X, X, I (0 : Int)] ++ List.replicate 98 X) (St.mk [some (HB.cells [AV.vs l n Tok.none, AV.vs c k Tok.none] 25)] [] []) (kBlock 2 (kSeq Tryz.X46 (cd PP 46 [1, 1, 1, 1]) (kRet Tryz.X46 46 Q))))) := by kernel_rfl
theorem v46l2 (l c : List AV) (n k i : Nat) (Q : CR → Prop) : wpC Tryz.X46 (cd PP 46 [1, 1, 1, 0, 1, 0, 0]) ([X, .ptr 0 0, X, X, X, I i] ++ List.replicate 98 X) ⟨[some (.cells [.vs l n .none, .vs c k .none] 25)], [], []⟩ (kLoop Tryz.X46 (cd PP 46 [1, 1, 1, 0, 1, 0, 0]) (kBlock 2 (kSeq Tryz.X46 (cd PP 46 [1, 1, 1, 1]) (kRet Tryz.X46 46 Q)))) =
  (cIf (decide ((↑i : Int) < (↑k : Int))) (cIf (decide (i < k)) (cIf (decide (k * 9 = c.length)) (cIf (decide (9 ≤ (List.drop (i * 9) c).length)) (cIf (like [I (0 : Int), U (0 : Int), I (0 : Int), I (0 : Int), I (0 : Int), I (0 : Int), I (0 : Int), I (0 : Int), I (0 : Int)] (el (List.drop (i * 9) c) 0 9)) (True ∧ cIf (!dcrB (Dcr.mk (cI (el (List.drop (i * 9) c) 0 9) 0) (cI (el (List.drop (i * 9) c) 0 9) 1) (cI (el (List.drop (i * 9) c) 0 9) 2) (cI (el (List.drop (i * 9) c) 0 9) 3) (cI (el (List.drop (i * 9) c) 0 9) 4) (cI (el (List.drop (i * 9) c) 0 9) 5) (cI (el (List.drop (i * 9) c) 0 9) 6) (cI (el (List.drop (i * 9) c) 0 9) 7) (cI (el (List.drop (i * 9) c) 0 9) 8))) (Q (CR.ret (I (1 : Int)))) (WLoop Tryz.X46 (cd PP 46 [1, 1, 1, 0, 1, 0, 0, 1, 0, 0, 1, 1, 1, 0, 0]) ([X, AV.ptr 0 0, X, X, X, I (↑i : Int), X, I (0 : Int)] ++ List.replicate 96 X) (St.mk [some (HB.cells [AV.vs l n Tok.none, AV.vs c k Tok.none] 25)] [] []) (kBlock 4 (kBlock 3 (kSeq Tryz.X46 (cd PP 46 [1, 1, 1, 0, 1, 0, 0, 1, 1]) (kLoop Tryz.X46 (cd PP 46 [1, 1, 1, 0, 1, 0, 0]) (kBlock 2 (kSeq Tryz.X46 (cd PP 46 [1, 1, 1, 1]) (kRet Tryz.X46 46 Q))))))))) False) False) False) False) (Q (CR.ret (I (0 : Int))))) := by kernel_rfl
theorem v46l3 (l c : List AV) (n k i j : Nat) (Q : CR → Prop) : wpC Tryz.X46 (cd PP 46 [1, 1, 1, 0, 1, 0, 0, 1, 0, 0, 1, 1, 1, 0, 0]) ([X, .ptr 0 0, X, X, X, I i, X, I j] ++ List.replicate 96 X) ⟨[some (.cells [.vs l n .none, .vs c k .none] 25)], [], []⟩ (kLoop Tryz.X46 (cd PP 46 [1, 1, 1, 0, 1, 0, 0, 1, 0, 0, 1, 1, 1, 0, 0]) (kBlock 4 (kBlock 3 (kSeq Tryz.X46 (cd PP 46 [1, 1, 1, 0, 1, 0, 0, 1, 1]) (kLoop Tryz.X46 (cd PP 46 [1, 1, 1, 0, 1, 0, 0]) (kBlock 2 (kSeq Tryz.X46 (cd PP 46 [1, 1, 1, 1]) (kRet Tryz.X46 46 Q)))))))) =
  (cIf (decide ((↑j : Int) < (↑i : Int))) (cIf (decide (j < k)) (cIf (decide (k * 9 = c.length)) (cIf (decide (0 < (List.drop (j * 9) c).length)) (cIf (likeOk (AV.ofVal (Value.int IntKind.i64 (0 : Int))) ((List.drop (j * 9) c).getD 0 X)) (cIf (decide (i < k)) (cIf (decide (k * 9 = c.length)) (cIf (decide (0 < (List.drop (i * 9) c).length)) (cIf (likeOk (AV.ofVal (Value.int IntKind.i64 (0 : Int))) ((List.drop (i * 9) c).getD 0 X)) (cIf (cI (List.drop (j * 9) c) 0 == cI (List.drop (i * 9) c) 0) (Q (CR.ret (I (6 : Int)))) (WLoop Tryz.X46 (cd PP 46 [1, 1, 1, 0, 1, 0, 0, 1, 0, 0, 1, 1, 1, 0, 0]) ([X, AV.ptr 0 0, X, X, X, I (↑i : Int), X, I (IntKind.i64.wrap ((↑j : Int) + (1 : Int)))] ++ List.replicate 96 X) (St.mk [some (HB.cells [AV.vs l n Tok.none, AV.vs c k Tok.none] 25)] [] []) (kBlock 4 (kBlock 3 (kSeq Tryz.X46 (cd PP 46 [1, 1, 1, 0, 1, 0, 0, 1, 1]) (kLoop Tryz.X46 (cd PP 46 [1, 1, 1, 0, 1, 0, 0]) (kBlock 2 (kSeq Tryz.X46 (cd PP 46 [1, 1, 1, 1]) (kRet Tryz.X46 46 Q))))))))) False) False) False) False) False) False) False) False) (WLoop Tryz.X46 (cd PP 46 [1, 1, 1, 0, 1, 0, 0]) ([X, AV.ptr 0 0, X, X, X, I (IntKind.i64.wrap ((↑i : Int) + (1 : Int)))] ++ List.replicate 98 X) (St.mk [some (HB.cells [AV.vs l n Tok.none, AV.vs c k Tok.none] 25)] [] []) (kBlock 2 (kSeq Tryz.X46 (cd PP 46 [1, 1, 1, 1]) (kRet Tryz.X46 46 Q))))) := by kernel_rfl
end Go.Proofs
/-! CI -/
set_option maxRecDepth 100000
set_option linter.unusedVariables false
set_option linter.unusedSimpArgs false
namespace Go.Ev
theorem idF_any (jd : Int) : ∀ (l : List Dcr) (i : Int), 0 ≤ i → decide (idF l jd i ≥ 0) = l.any fun y => decide (y.id = jd)
  | [], i, h => by simp [idF]
  | x :: l, i, h => by
    simp only [idF, List.any_cons]
    split
    · rename_i hc
      simp [hc, h]
    · rename_i hc
      rw [idF_any jd l (i + 1) (by omega)]
      simp [hc]
end Go.Ev
namespace Go.Proofs
open Go Go.Ev
attribute [local irreducible] wpF wpC cd
theorem ct47 : Ct Tryz.B.c0 47 R47 := Ct.of_wp (l := [(95, R95), (111, R111), (115, R115), (89, R89), (116, R116), (117, R117)]) (lm := lm47) (tp := []) (ct := []) (sm := []) Tryz.bok (((((((Cts.nil _).cons ct117).cons ct116).cons ct89).cons ct115).cons ct111).cons ct95) ⟨_, _, Tryz.func47, rfl⟩ fun args D r hR hD => by
  unfold R47 at hR
  split at hR <;> cases hR
  rename_i id ki ma st ra fr un op cl mi zo n
  refine ⟨rfl, ?_⟩
  simp only [scrubL, scrub]
  show wpF Tryz.X47 47 _ _
  rw [v47]
  refine ⟨trivial, cIf_intro (fun h => ?_) (fun h => ⟨trivial, cIf_intro (fun h2 => ?_) (fun h2 => ⟨trivial, cIf_intro (fun h3 => ?_) (fun h3 => ?_)⟩)⟩)⟩
  · have h : dcrB ⟨id, ki, ma, st, ra, fr, un, op, cl⟩ = false := by simpa using h
    unfold appB; rw [h]; rfl
  · have h2 : mstB ⟨mi, zo⟩ = false := by simpa using h2
    unfold appB; rw [h2, Bool.and_false]; rfl
  · have h3 : (decide (0 ≤ n) && decide (n ≤ 144001439)) = false := by rw [Bool.not_eq_true'] at h3; exact h3
    unfold appB; rw [h3, Bool.and_false]; rfl
  · have h : dcrB ⟨id, ki, ma, st, ra, fr, un, op, cl⟩ = true := by simpa using h
    have h2 : mstB ⟨mi, zo⟩ = true := by simpa using h2
    have h3 : (decide (0 ≤ n) && decide (n ≤ 144001439)) = true := by rw [Bool.not_eq_false'] at h3; exact h3
    have h4 := h2
    have h5 := h3
    simp [mstB, idB] at h4
    simp at h5
    have w : IntKind.i64.wrap (n + zo) = n + zo := wrap_id (by omega) (by omega)
    rw [w]
    refine ⟨⟨by omega, by omega⟩, trivial, ?_⟩
    simp only [cIf_ret, true_and]
    refine congrArg (fun b => CR.ret (Bo b)) ?_
    unfold appB
    rw [h, h2, h3]
    cases datB ⟨id, ki, ma, st, ra, fr, un, op, cl⟩ ⟨mi, zo⟩ ((n + zo) / 1440) <;> rfl
theorem ct48 : Ct Tryz.B.c0 48 R47 := Ct.of_wp (l := [(99, R95), (114, R111), (118, R118), (119, R119)]) (lm := lm48) (tp := []) (ct := []) (sm := []) Tryz.bok (((((Cts.nil _).cons ct119).cons ct118).cons ct114).cons ct99) ⟨_, _, Tryz.func48, rfl⟩ fun args D r hR hD => by
  unfold R47 at hR
  split at hR <;> cases hR
  rename_i id ki ma st ra fr un op cl mi zo n
  refine ⟨rfl, ?_⟩
  simp only [scrubL, scrub]
  show wpF Tryz.X48 48 _ _
  rw [v48]
  refine ⟨trivial, trivial, trivial, cIf_intro (fun h => cIf_intro (fun h2 => cIf_intro (fun h3 => ?_) (fun h3 => ?_)) (fun h2 => ?_)) (fun h => ?_)⟩
  · have h4 := h2
    have h5 := h3
    simp [mstB, idB] at h4
    simp at h5
    refine ⟨⟨by omega, by omega, by omega, by omega⟩, ?_⟩
    unfold appB
    rw [h, h2, h3]
    rfl
  · unfold appB; rw [h3, Bool.and_false]; rfl
  · unfold appB; rw [h2, Bool.and_false]; rfl
  · unfold appB; rw [h]; rfl
theorem ct113 : Ct Tryz.B.c0 113 R113 := Ct.of_wp (lm := lm113) (tp := []) (ct := []) (sm := []) Tryz.bok (Cts.nil _) ⟨_, _, Tryz.func113, rfl⟩ fun args D r hR hD => by
  unfold R113 at hR
  split at hR <;> cases hR
  rename_i id ki ma st ra fr un op cl jd j1 j2 j3 j4 j5 j6 j7 j8
  refine ⟨rfl, ?_⟩
  simp only [scrubL, scrub]
  show wpF Tryz.X113 113 _ _
  rw [v113]
  refine congrArg (fun b => CR.ret (Bo b)) ?_
  show (id == jd) = decide (id = jd)
  rfl
section
variable {xs : List Dcr} (hl : xs.length ≤ 1000) {jd j1 j2 j3 j4 j5 j6 j7 j8 : Int}
include hl
theorem loop161 (Q : CR → Prop) : ∀ (d i : Nat), xs.length - i = d → i ≤ xs.length → Q (rI (idF (xs.drop i) jd i)) →
    WLoop Tryz.X161 (cd PP 161 [1, 0, 1, 0, 0]) ([.vs (encL encD xs) xs.length .none, .fn (.func 113) [] [.vp [I jd, U j1, I j2, I j3, I j4, I j5, I j6, I j7, I j8]], X, X, X, X, X, I xs.length, I i] ++ List.replicate 10 X) ⟨[], [], []⟩ (kBlock 0 (kSeq Tryz.X161 (cd PP 161 [1, 1]) (kRet Tryz.X161 161 Q))) := by
  intro d
  induction d with
  | zero =>
    intro i hd hi hQ
    have hi' : i = xs.length := by omega
    subst hi'
    have hno : ¬ ((xs.length : Nat) : Int) < (xs.length : Nat) := by omega
    rw [List.drop_length] at hQ
    exact WLoop_step Tryz.bok ((Cts.nil _).cons ct113) ((v161l _ _ _ jd j1 j2 j3 j4 j5 j6 j7 j8 Q).mpr (cIf_neg (df hno) hQ))
  | succ d ih =>
    intro i hd hi hQ
    have hlt : i < xs.length := by omega
    have e1 : xs.length - (i + 1) = d := by omega
    have w1 : IntKind.i64.wrap ((i : Int) + 1) = ((i + 1 : Nat) : Int) := wrap_id (by omega) (by omega)
    have h1 : (i : Int) < xs.length := by omega
    obtain ⟨x, hx, hdr⟩ := drop_cons hlt
    rw [hdr] at hQ
    refine WLoop_step Tryz.bok ((Cts.nil _).cons ct113) ((v161l _ _ _ jd j1 j2 j3 j4 j5 j6 j7 j8 Q).mpr ?_)
    simp only [dt h1, dt hlt, eD.gl, eD.gd hlt, eD.g0 hlt (by decide), eD.el hx, eD.ld0 hx (by decide), D_like, eD.cI0 hx (by decide), D_lk0, D_c0, eD.gf hlt 1 (by decide), eD.ld hx 1 (by decide), eD.cI hx 1 (by decide), D_lk1, D_c1, eD.gf hlt 2 (by decide), eD.ld hx 2 (by decide), eD.cI hx 2 (by decide), D_lk2, D_c2, eD.gf hlt 3 (by decide), eD.ld hx 3 (by decide), eD.cI hx 3 (by decide), D_lk3, D_c3, eD.gf hlt 4 (by decide), eD.ld hx 4 (by decide), eD.cI hx 4 (by decide), D_lk4, D_c4, eD.gf hlt 5 (by decide), eD.ld hx 5 (by decide), eD.cI hx 5 (by decide), D_lk5, D_c5, eD.gf hlt 6 (by decide), eD.ld hx 6 (by decide), eD.cI hx 6 (by decide), D_lk6, D_c6, eD.gf hlt 7 (by decide), eD.ld hx 7 (by decide), eD.cI hx 7 (by decide), D_lk7, D_c7, eD.gf hlt 8 (by decide), eD.ld hx 8 (by decide), eD.cI hx 8 (by decide), D_lk8, D_c8, cIf_true, w1, true_and]
    refine cIf_intro (fun h => ?_) (fun h => ?_)
    · have h : x.id = jd := by simpa using h
      rw [show idF (x :: xs.drop (i + 1)) jd i = i by unfold idF; rw [if_pos h]] at hQ
      exact hQ
    · have h : ¬ x.id = jd := by simpa using h
      refine ih (i + 1) e1 hlt ?_
      rw [show idF (x :: xs.drop (i + 1)) jd i = idF (xs.drop (i + 1)) jd ((i + 1 : Nat) : Int) by simp [idF, h]] at hQ
      exact hQ
end
theorem ct161 : Ct Tryz.B.c0 161 R161 := Ct.of_wp (l := [(113, R113)]) (lm := lm161) (tp := []) (ct := []) (sm := []) Tryz.bok ((Cts.nil _).cons ct113) ⟨_, _, Tryz.func161, rfl⟩ fun args D r hR hD => by
  unfold R161 at hR
  split at hR <;> cases hR
  rename_i l n tk jd j1 j2 j3 j4 j5 j6 j7 j8
  obtain ⟨⟨xs, rfl, rfl, hx⟩, rfl⟩ := hD
  refine ⟨by simp [noHL, noH, eD.noHL'], ?_⟩
  rw [show scrubL 0 [AV.vs (encL encD xs) xs.length .none, .fn (.func 113) [] [.vp [I jd, U j1, I j2, I j3, I j4, I j5, I j6, I j7, I j8]]] = [AV.vs (encL encD xs) xs.length .none, .fn (.func 113) [] [.vp [I jd, U j1, I j2, I j3, I j4, I j5, I j6, I j7, I j8]]] by simp [scrubL, scrub, eD.scL, Tok.scrub], eD.on (by decide)]
  show wpF Tryz.X161 161 _ _
  rw [v161]
  exact loop161 hx _ _ 0 rfl (Nat.zero_le _) rfl
theorem ct112 : Ct Tryz.B.c0 112 R112 := Ct.of_wp (l := [(161, R161)]) (lm := lm112) (tp := []) (ct := []) (sm := []) Tryz.bok ((Cts.nil _).cons ct161) ⟨_, _, Tryz.func112, rfl⟩ fun args D r hR hD => by
  unfold R112 at hR
  split at hR <;> cases hR
  rename_i l n tk jd j1 j2 j3 j4 j5 j6 j7 j8
  obtain ⟨⟨xs, rfl, rfl, hx⟩, rfl⟩ := hD
  refine ⟨by simp [noHL, noH, eD.noHL'], ?_⟩
  rw [show scrubL 0 [AV.vs (encL encD xs) xs.length .none, .fn (.func 113) [] [.vp [I jd, U j1, I j2, I j3, I j4, I j5, I j6, I j7, I j8]]] = [AV.vs (encL encD xs) xs.length .none, .fn (.func 113) [] [.vp [I jd, U j1, I j2, I j3, I j4, I j5, I j6, I j7, I j8]]] by simp [scrubL, scrub, eD.scL, Tok.scrub], eD.on (by decide)]
  show wpF Tryz.X112 112 _ _
  rw [v112]
  refine ⟨⟨⟨xs, rfl, rfl, hx⟩, rfl⟩, ?_⟩
  rw [eD.on (by decide), idF_any _ _ 0 (Int.le_refl 0)]
theorem hook112 : HookOk Tryz.B.c0 112 (specS R112) := ct112.hookS Tryz.gtpB fun args D r hR hD => by
  unfold R112 at hR
  split at hR <;> cases hR
  rename_i l n tk jd j1 j2 j3 j4 j5 j6 j7 j8
  obtain ⟨⟨xs, rfl, rfl, hx⟩, rfl⟩ := hD
  simp [scrubL, scrub, eD.scL, Tok.scrub]
noncomputable def Tryz.BH : Base := Tryz.B.hk 112 (specS R112)
theorem Tryz.bhok : BaseOk Tryz.BH := Tryz.bok.hk hook112
end Go.Proofs
/-! VCJ -/
--BASE Tryz.BH
set_option maxRecDepth 100000
set_option linter.unusedVariables false
set_option linter.unusedSimpArgs false
namespace Go.Proofs
open Go Go.Ev
def lm45 : List (Nat × List Nat) := [(4, [1, 18, 19, 20]), (11, [1]), (12, [1, 62, 63, 64]), (19, [])]
noncomputable def Tryz.X45 : WCx := Tryz.BH.wcx [(111, R111), (95, R95)] lm45 [] [] [(4, 1), (11, 1), (12, 1)]
theorem v45 (l c : List AV) (n k : Nat) (Q : CR → Prop) : wpF Tryz.X45 45 [.agg [.vs l n .none, .vs c k .none]] Q =
  (cIf (decide ((↑n : Int) > (40 : Int))) (Q (CR.ret (I (2 : Int)))) (cIf (decide ((↑k : Int) > (100 : Int))) (Q (CR.ret (I (2 : Int)))) (cIf (noHL 1 ([X, AV.ptr 0 0, X, X, X, X, X, X, X, X, X, X, X, X, X, X, X, X, AV.vs l n Tok.none, I (↑n : Int), I (0 : Int)] ++ List.replicate 60 X)) (cIf ([some (HB.cells [AV.vs l n Tok.none, AV.vs c k Tok.none] 25)].all (okBlk 1)) (WLoop Tryz.X45 (cd Tryz.X45.P 45 [1, 1, 0, 1, 0, 0]) ([X, AV.ptr 0 0, X, X, X, X, X, X, X, X, X, X, X, X, X, X, X, X, AV.vs l n Tok.none, I (↑n : Int), I (0 : Int)] ++ List.replicate 60 X) (St.mk [some (HB.cells [AV.vs l n Tok.none, AV.vs c k Tok.none] 25)] [] []) (kBlock 0 (kSeq Tryz.X45 (cd Tryz.X45.P 45 [1, 1, 1]) (kRet Tryz.X45 45 Q)))) False) False))) := by kernel_rfl
theorem v45l (l c : List AV) (n k i : Nat) (Q : CR → Prop) : wpC Tryz.X45 (cd PP 45 [1, 1, 0, 1, 0, 0]) ([X, .ptr 0 0, X, X, X, X, X, X, X, X, X, X, X, X, X, X, X, X, .vs l n .none, I n, I i] ++ List.replicate 60 X) ⟨[some (.cells [.vs l n .none, .vs c k .none] 25)], [], []⟩ (kLoop Tryz.X45 (cd PP 45 [1, 1, 0, 1, 0, 0]) (kBlock 0 (kSeq Tryz.X45 (cd PP 45 [1, 1, 1]) (kRet Tryz.X45 45 Q)))) =
  (cIf (decide ((↑i : Int) < (↑n : Int))) (cIf (decide (i < n)) (cIf (decide (n * 2 = l.length)) (cIf (decide (2 ≤ (List.drop (i * 2) l).length)) (cIf (like [I (0 : Int), I (0 : Int)] (el (List.drop (i * 2) l) 0 2)) (True ∧ St.mk [some (HB.cells [AV.vs l n Tok.none, AV.vs c k Tok.none] 25), some (HB.cells [I (cI (el (List.drop (i * 2) l) 0 2) 0), I (cI (el (List.drop (i * 2) l) 0 2) 1)] 58)] [] [1] = St.mk [some (HB.cells [AV.vs l n Tok.none, AV.vs c k Tok.none] 25), some (HB.cells [I (cI (el (List.drop (i * 2) l) 0 2) 0), I (cI (el (List.drop (i * 2) l) 0 2) 1)] 58)] [] [1] ∧ cIf (!mstB (Mst.mk (cI (el (List.drop (i * 2) l) 0 2) 0) (cI (el (List.drop (i * 2) l) 0 2) 1))) (Q (CR.ret (I (1 : Int)))) (cIf (decide ((↑i : Int) > (0 : Int))) (cIf (decide ((0 : Int) ≤ IntKind.i64.wrap ((↑i : Int) - (1 : Int)))) (cIf (decide ((IntKind.i64.wrap ((↑i : Int) - (1 : Int))).toNat < n)) (cIf (decide (n * 2 = l.length)) (cIf (decide (0 < (List.drop ((IntKind.i64.wrap ((↑i : Int) - (1 : Int))).toNat * 2) l).length)) (cIf (likeOk (AV.ofVal (Value.int IntKind.i64 (0 : Int))) ((List.drop ((IntKind.i64.wrap ((↑i : Int) - (1 : Int))).toNat * 2) l).getD 0 X)) (cIf (decide (cI (el (List.drop (i * 2) l) 0 2) 0 < cI (List.drop ((IntKind.i64.wrap ((↑i : Int) - (1 : Int))).toNat * 2) l) 0)) (Q (CR.ret (I (1 : Int)))) (cIf (decide ((↑i : Int) > (0 : Int))) (cIf (decide ((0 : Int) ≤ IntKind.i64.wrap ((↑i : Int) - (1 : Int)))) (cIf (decide ((IntKind.i64.wrap ((↑i : Int) - (1 : Int))).toNat < n)) (cIf (decide (n * 2 = l.length)) (cIf (decide (0 < (List.drop ((IntKind.i64.wrap ((↑i : Int) - (1 : Int))).toNat * 2) l).length)) (cIf (likeOk (AV.ofVal (Value.int IntKind.i64 (0 : Int))) ((List.drop ((IntKind.i64.wrap ((↑i : Int) - (1 : Int))).toNat * 2) l).getD 0 X)) (cIf (cI (el (List.drop (i * 2) l) 0 2) 0 == cI (List.drop ((IntKind.i64.wrap ((↑i : Int) - (1 : Int))).toNat * 2) l) 0) (Q (CR.ret (I (6 : Int)))) (cIf (noHL 1 ([X, AV.ptr 0 0, X, X, X, X, X, X, X, X, X, X, X, X, X, X, X, X, AV.vs l n Tok.none, I (↑n : Int), I (IntKind.i64.wrap ((↑i : Int) + (1 : Int)))] ++ List.replicate 60 X)) (cIf ([some (HB.cells [AV.vs l n Tok.none, AV.vs c k Tok.none] 25)].all (okBlk 1)) (WLoop Tryz.X45 (cd PP 45 [1, 1, 0, 1, 0, 0]) ([X, AV.ptr 0 0, X, X, X, X, X, X, X, X, X, X, X, X, X, X, X, X, AV.vs l n Tok.none, I (↑n : Int), I (IntKind.i64.wrap ((↑i : Int) + (1 : Int)))] ++ List.replicate 60 X) (St.mk [some (HB.cells [AV.vs l n Tok.none, AV.vs c k Tok.none] 25)] [] []) (kBlock 0 (kSeq Tryz.X45 (cd PP 45 [1, 1, 1]) (kRet Tryz.X45 45 Q)))) False) False)) False) False) False) False) False) (cIf (noHL 1 ([X, AV.ptr 0 0, X, X, X, X, X, X, X, X, X, X, X, X, X, X, X, X, AV.vs l n Tok.none, I (↑n : Int), I (IntKind.i64.wrap ((↑i : Int) + (1 : Int)))] ++ List.replicate 60 X)) (cIf ([some (HB.cells [AV.vs l n Tok.none, AV.vs c k Tok.none] 25)].all (okBlk 1)) (WLoop Tryz.X45 (cd PP 45 [1, 1, 0, 1, 0, 0]) ([X, AV.ptr 0 0, X, X, X, X, X, X, X, X, X, X, X, X, X, X, X, X, AV.vs l n Tok.none, I (↑n : Int), I (IntKind.i64.wrap ((↑i : Int) + (1 : Int)))] ++ List.replicate 60 X) (St.mk [some (HB.cells [AV.vs l n Tok.none, AV.vs c k Tok.none] 25)] [] []) (kBlock 0 (kSeq Tryz.X45 (cd PP 45 [1, 1, 1]) (kRet Tryz.X45 45 Q)))) False) False))) False) False) False) False) False) (cIf (decide ((↑i : Int) > (0 : Int))) (cIf (decide ((0 : Int) ≤ IntKind.i64.wrap ((↑i : Int) - (1 : Int)))) (cIf (decide ((IntKind.i64.wrap ((↑i : Int) - (1 : Int))).toNat < n)) (cIf (decide (n * 2 = l.length)) (cIf (decide (0 < (List.drop ((IntKind.i64.wrap ((↑i : Int) - (1 : Int))).toNat * 2) l).length)) (cIf (likeOk (AV.ofVal (Value.int IntKind.i64 (0 : Int))) ((List.drop ((IntKind.i64.wrap ((↑i : Int) - (1 : Int))).toNat * 2) l).getD 0 X)) (cIf (cI (el (List.drop (i * 2) l) 0 2) 0 == cI (List.drop ((IntKind.i64.wrap ((↑i : Int) - (1 : Int))).toNat * 2) l) 0) (Q (CR.ret (I (6 : Int)))) (cIf (noHL 1 ([X, AV.ptr 0 0, X, X, X, X, X, X, X, X, X, X, X, X, X, X, X, X, AV.vs l n Tok.none, I (↑n : Int), I (IntKind.i64.wrap ((↑i : Int) + (1 : Int)))] ++ List.replicate 60 X)) (cIf ([some (HB.cells [AV.vs l n Tok.none, AV.vs c k Tok.none] 25)].all (okBlk 1)) (WLoop Tryz.X45 (cd PP 45 [1, 1, 0, 1, 0, 0]) ([X, AV.ptr 0 0, X, X, X, X, X, X, X, X, X, X, X, X, X, X, X, X, AV.vs l n Tok.none, I (↑n : Int), I (IntKind.i64.wrap ((↑i : Int) + (1 : Int)))] ++ List.replicate 60 X) (St.mk [some (HB.cells [AV.vs l n Tok.none, AV.vs c k Tok.none] 25)] [] []) (kBlock 0 (kSeq Tryz.X45 (cd PP 45 [1, 1, 1]) (kRet Tryz.X45 45 Q)))) False) False)) False) False) False) False) False) (cIf (noHL 1 ([X, AV.ptr 0 0, X, X, X, X, X, X, X, X, X, X, X, X, X, X, X, X, AV.vs l n Tok.none, I (↑n : Int), I (IntKind.i64.wrap ((↑i : Int) + (1 : Int)))] ++ List.replicate 60 X)) (cIf ([some (HB.cells [AV.vs l n Tok.none, AV.vs c k Tok.none] 25)].all (okBlk 1)) (WLoop Tryz.X45 (cd PP 45 [1, 1, 0, 1, 0, 0]) ([X, AV.ptr 0 0, X, X, X, X, X, X, X, X, X, X, X, X, X, X, X, X, AV.vs l n Tok.none, I (↑n : Int), I (IntKind.i64.wrap ((↑i : Int) + (1 : Int)))] ++ List.replicate 60 X) (St.mk [some (HB.cells [AV.vs l n Tok.none, AV.vs c k Tok.none] 25)] [] []) (kBlock 0 (kSeq Tryz.X45 (cd PP 45 [1, 1, 1]) (kRet Tryz.X45 45 Q)))) False) False)))) False) False) False) False) (cIf (noHL 1 ([X, AV.ptr 0 0, X, X, X, X, X, X, X, X, X, X, X, X, X, X, X, X, X, X, X, X, X, X, X, X, X, X, X, X, X, X, X, X, X, X, X, X, X, X, X, X, X, X, X, X, X, X, X, X, X, X, X, X, X, X, X, X, X, X, X, X, AV.vs c k Tok.none, I (↑k : Int), I (0 : Int)] ++ List.replicate 16 X)) (cIf ([some (HB.cells [AV.vs l n Tok.none, AV.vs c k Tok.none] 25)].all (okBlk 1)) (WLoop Tryz.X45 (cd PP 45 [1, 1, 1, 0, 1, 0, 0]) ([X, AV.ptr 0 0, X, X, X, X, X, X, X, X, X, X, X, X, X, X, X, X, X, X, X, X, X, X, X, X, X, X, X, X, X, X, X, X, X, X, X, X, X, X, X, X, X, X, X, X, X, X, X, X, X, X, X, X, X, X, X, X, X, X, X, X, AV.vs c k Tok.none, I (↑k : Int), I (0 : Int)] ++ List.replicate 16 X) (St.mk [some (HB.cells [AV.vs l n Tok.none, AV.vs c k Tok.none] 25)] [] []) (kBlock 3 (kSeq Tryz.X45 (cd PP 45 [1, 1, 1, 1]) (kRet Tryz.X45 45 Q)))) False) False)) := by kernel_rfl
theorem v45l2 (l c : List AV) (n k i : Nat) (Q : CR → Prop) : wpC Tryz.X45 (cd PP 45 [1, 1, 1, 0, 1, 0, 0]) ([X, .ptr 0 0, X, X, X, X, X, X, X, X, X, X, X, X, X, X, X, X, X, X, X, X, X, X, X, X, X, X, X, X, X, X, X, X, X, X, X, X, X, X, X, X, X, X, X, X, X, X, X, X, X, X, X, X, X, X, X, X, X, X, X, X, .vs c k .none, I k, I i] ++ List.replicate 16 X) ⟨[some (.cells [.vs l n .none, .vs c k .none] 25)], [], []⟩ (kLoop Tryz.X45 (cd PP 45 [1, 1, 1, 0, 1, 0, 0]) (kBlock 3 (kSeq Tryz.X45 (cd PP 45 [1, 1, 1, 1]) (kRet Tryz.X45 45 Q)))) =
  (cIf (decide ((↑i : Int) < (↑k : Int))) (cIf (decide (i < k)) (cIf (decide (k * 9 = c.length)) (cIf (decide (9 ≤ (List.drop (i * 9) c).length)) (cIf (like [I (0 : Int), U (0 : Int), I (0 : Int), I (0 : Int), I (0 : Int), I (0 : Int), I (0 : Int), I (0 : Int), I (0 : Int)] (el (List.drop (i * 9) c) 0 9)) (True ∧ cIf (!dcrB (Dcr.mk (cI (el (List.drop (i * 9) c) 0 9) 0) (cI (el (List.drop (i * 9) c) 0 9) 1) (cI (el (List.drop (i * 9) c) 0 9) 2) (cI (el (List.drop (i * 9) c) 0 9) 3) (cI (el (List.drop (i * 9) c) 0 9) 4) (cI (el (List.drop (i * 9) c) 0 9) 5) (cI (el (List.drop (i * 9) c) 0 9) 6) (cI (el (List.drop (i * 9) c) 0 9) 7) (cI (el (List.drop (i * 9) c) 0 9) 8))) (Q (CR.ret (I (1 : Int)))) (cIf (decide (i ≤ k)) (((∃ (x : List Dcr), List.take ((i - 0) * 9) c = encL encD x ∧ i - 0 = x.length ∧ x.length ≤ 1000) ∧ Tok.none = Tok.none) ∧ (scal (rB (onEnc (encL encD) (fun (x : List Dcr) => x.any fun (y : Dcr) => decide (y.id = cI (el (List.drop (i * 9) c) 0 9) 0)) false (List.take ((i - 0) * 9) c))) = true ∧ okShL [some (HB.cells [AV.vs l n Tok.none, AV.vs c k Tok.none] 25), some (HB.cells [I (cI (el (List.drop (i * 9) c) 0 9) 0), U (cI (el (List.drop (i * 9) c) 0 9) 1), I (cI (el (List.drop (i * 9) c) 0 9) 2), I (cI (el (List.drop (i * 9) c) 0 9) 3), I (cI (el (List.drop (i * 9) c) 0 9) 4), I (cI (el (List.drop (i * 9) c) 0 9) 5), I (cI (el (List.drop (i * 9) c) 0 9) 6), I (cI (el (List.drop (i * 9) c) 0 9) 7), I (cI (el (List.drop (i * 9) c) 0 9) 8)] 46)] ([] ++ [AV.vs (List.take ((i - 0) * 9) c) (i - 0) (if 0 = 0 ∧ i = k then Tok.none else Tok.none), AV.fn (Fn.func 113) [] [AV.ptr 1 0]] ++ []) = true) ∧ cIf (onEnc (encL encD) (fun (x : List Dcr) => x.any fun (y : Dcr) => decide (y.id = cI (el (List.drop (i * 9) c) 0 9) 0)) false (List.take ((i - 0) * 9) c)) (Q (CR.ret (I (6 : Int)))) (cIf (noHL 1 ([X, AV.ptr 0 0, X, X, X, X, X, X, X, X, X, X, X, X, X, X, X, X, X, X, X, X, X, X, X, X, X, X, X, X, X, X, X, X, X, X, X, X, X, X, X, X, X, X, X, X, X, X, X, X, X, X, X, X, X, X, X, X, X, X, X, X, AV.vs c k Tok.none, I (↑k : Int), I (IntKind.i64.wrap ((↑i : Int) + (1 : Int)))] ++ List.replicate 16 X)) (cIf ([some (HB.cells [AV.vs l n Tok.none, AV.vs c k Tok.none] 25)].all (okBlk 1)) (WLoop Tryz.X45 (cd PP 45 [1, 1, 1, 0, 1, 0, 0]) ([X, AV.ptr 0 0, X, X, X, X, X, X, X, X, X, X, X, X, X, X, X, X, X, X, X, X, X, X, X, X, X, X, X, X, X, X, X, X, X, X, X, X, X, X, X, X, X, X, X, X, X, X, X, X, X, X, X, X, X, X, X, X, X, X, X, X, AV.vs c k Tok.none, I (↑k : Int), I (IntKind.i64.wrap ((↑i : Int) + (1 : Int)))] ++ List.replicate 16 X) (St.mk [some (HB.cells [AV.vs l n Tok.none, AV.vs c k Tok.none] 25)] [] []) (kBlock 3 (kSeq Tryz.X45 (cd PP 45 [1, 1, 1, 1]) (kRet Tryz.X45 45 Q)))) False) False)) False)) False) False) False) False) (Q (CR.ret (I (0 : Int))))) := by kernel_rfl
end Go.Proofs
/-! CJ -/
set_option maxRecDepth 100000
set_option linter.unusedVariables false
set_option linter.unusedSectionVars false
set_option linter.unusedSimpArgs false
namespace Go.Ev
theorem mst_bad {p : Int} {x : Mst} {l : List Mst} (h : mstB x = false) : mstE p (x :: l) = 1 := by unfold mstE; rw [if_pos h]
theorem mst_lt {p : Int} {x : Mst} {l : List Mst} (h : mstB x = true) (h2 : x.id < p) : mstE p (x :: l) = 1 := by unfold mstE; rw [if_neg (by rw [h]; decide), if_pos h2]
theorem mst_eq {p : Int} {x : Mst} {l : List Mst} (h : mstB x = true) (h2 : x.id = p) : mstE p (x :: l) = 6 := by unfold mstE; rw [if_neg (by rw [h]; decide), if_neg (by omega), if_pos h2]
theorem mst_go {p : Int} {x : Mst} {l : List Mst} (h : mstB x = true) (h2 : p < x.id) : mstE p (x :: l) = mstE x.id l := by
  conv => lhs; unfold mstE
  rw [if_neg (by rw [h]; decide), if_neg (by omega), if_neg (by omega)]
theorem dcr_bad {pre l : List Dcr} {x : Dcr} (h : dcrB x = false) : dcrE pre (x :: l) = 1 := by unfold dcrE; rw [if_pos h]
theorem dcr_dup {pre l : List Dcr} {x : Dcr} (h : dcrB x = true) (h2 : (pre.any fun y => decide (y.id = x.id)) = true) : dcrE pre (x :: l) = 6 := by unfold dcrE; rw [if_neg (by rw [h]; decide), if_pos h2]
theorem dcr_go {pre l : List Dcr} {x : Dcr} (h : dcrB x = true) (h2 : (pre.any fun y => decide (y.id = x.id)) = false) : dcrE pre (x :: l) = dcrE (pre ++ [x]) l := by
  conv => lhs; unfold dcrE
  rw [if_neg (by rw [h]; decide), if_neg (by rw [h2]; decide)]
theorem noTD : ∀ l : List Dcr, noTL 0 (encL encD l) = true
  | [] => rfl
  | x :: l => by
    show noTL 0 (encD x ++ encL encD l) = true
    exact noTD l
theorem blk45 {ms : List Mst} {ds : List Dcr} : [some (HB.cells [AV.vs (encL encM ms) ms.length Tok.none, AV.vs (encL encD ds) ds.length Tok.none] 25)].all (okBlk 1) = true := by
  simp [okBlk, noHB, noHL, noH, eM.noHL', eD.noHL']
end Go.Ev
namespace Go.Proofs
open Go Go.Ev
attribute [local irreducible] wpF wpC cd
section
variable {ms : List Mst} {ds : List Dcr} (hm : ms.length ≤ 10000000) (hd1 : ds.length ≤ 1000)
include hm hd1
theorem m46 (Q : CR → Prop) : ∀ (d i : Nat) (p : Int), ms.length - i = d → i ≤ ms.length → (i = 0 → p = 0) → (∀ y, 0 < i → ms[i - 1]? = some y → p = y.id) → (mstE p (ms.drop i) ≠ 0 → Q (rI (mstE p (ms.drop i)))) → (mstE p (ms.drop i) = 0 → WLoop Tryz.X46 (cd PP 46 [1, 1, 1, 0, 1, 0, 0]) ([X, .ptr 0 0, X, X, X, I (0 : Nat)] ++ List.replicate 98 X) ⟨[some (.cells [.vs (encL encM ms) ms.length .none, .vs (encL encD ds) ds.length .none] 25)], [], []⟩ (kBlock 2 (kSeq Tryz.X46 (cd PP 46 [1, 1, 1, 1]) (kRet Tryz.X46 46 Q)))) →
    WLoop Tryz.X46 (cd PP 46 [1, 1, 0, 1, 0, 0]) ([X, .ptr 0 0, X, I i] ++ List.replicate 100 X) ⟨[some (.cells [.vs (encL encM ms) ms.length .none, .vs (encL encD ds) ds.length .none] 25)], [], []⟩ (kBlock 0 (kSeq Tryz.X46 (cd PP 46 [1, 1, 1]) (kRet Tryz.X46 46 Q))) := by
  intro d
  induction d with
  | zero =>
    intro i p hd hi hp0 hp1 hQ hc
    have hi' : i = ms.length := by omega
    subst hi'
    have hno : ¬ ((ms.length : Nat) : Int) < (ms.length : Nat) := by omega
    have hQ0 : mstE p (ms.drop ms.length) = 0 := by rw [List.drop_length]; rfl
    refine WLoop_step Tryz.bok (((Cts.nil _).cons ct99).cons ct114) ((v46l (encL encM ms) (encL encD ds) ms.length ds.length ms.length Q).mpr (cIf_neg (df hno) ?_))
    exact hc hQ0
  | succ d ih =>
    intro i p hd hi hp0 hp1 hQ hc
    have hlt : i < ms.length := by omega
    have e1 : ms.length - (i + 1) = d := by omega
    have w1 : IntKind.i64.wrap ((i : Int) + 1) = ((i + 1 : Nat) : Int) := wrap_id (by omega) (by omega)
    have h1 : (i : Int) < ms.length := by omega
    obtain ⟨x, hx, hdr⟩ := drop_cons hlt
    rw [hdr] at hQ hc
    refine WLoop_step Tryz.bok (((Cts.nil _).cons ct99).cons ct114) ((v46l (encL encM ms) (encL encD ds) ms.length ds.length i Q).mpr ?_)
    simp only [dt h1, dt hlt, eM.gl, eM.gd hlt, eM.g0 hlt (by decide), eM.el hx, eM.ld0 hx (by decide), M_like, eM.cI0 hx (by decide), M_lk0, M_c0, eM.gf hlt 1 (by decide), eM.ld hx 1 (by decide), eM.cI hx 1 (by decide), M_lk1, M_c1, cIf_true, w1]
    have eX : Mst.mk x.id x.zo = x := rfl
    refine ⟨trivial, cIf_intro (fun hb => ?_) (fun hb => ?_)⟩
    · have hb : mstB x = false := by simpa using hb
      rw [mst_bad hb] at hQ
      exact hQ (by decide)
    have hb : mstB x = true := by simpa using hb
    have hid : 1 ≤ x.id := by
      have := hb
      simp [mstB, idB] at this
      omega
    have next : p < x.id → WLoop Tryz.X46 (cd PP 46 [1, 1, 0, 1, 0, 0]) ([X, .ptr 0 0, X, I (i + 1 : Nat)] ++ List.replicate 100 X) ⟨[some (.cells [.vs (encL encM ms) ms.length .none, .vs (encL encD ds) ds.length .none] 25)], [], []⟩ (kBlock 0 (kSeq Tryz.X46 (cd PP 46 [1, 1, 1]) (kRet Tryz.X46 46 Q))) := fun hlt2 => by
      rw [mst_go hb hlt2] at hQ hc
      exact ih (i + 1) x.id e1 hlt (fun h => by omega) (fun y _ hy => by
        rw [Nat.add_sub_cancel, hx] at hy
        cases hy; rfl) hQ hc
    rcases Nat.eq_zero_or_pos i with h0 | h0
    · have hp := hp0 h0
      have hni : ¬ (i : Int) > 0 := by omega
      simp only [df hni, cIf_false]
      exact next (by omega)
    · have hpi : (i : Int) > 0 := by omega
      have hlt2 : i - 1 < ms.length := by omega
      obtain ⟨y, hy⟩ : ∃ y, ms[i - 1]? = some y := ⟨_, List.getElem?_eq_getElem hlt2⟩
      have hp := hp1 y h0 hy
      have w2 : IntKind.i64.wrap ((i : Int) - 1) = ((i - 1 : Nat) : Int) := by
        rw [show (i : Int) - 1 = ((i - 1 : Nat) : Int) by omega]
        exact wrap_id (by omega) (by omega)
      simp only [dt hpi, w2, dt (Int.natCast_nonneg (i - 1)), Int.toNat_natCast, dt hlt2, eM.gl, eM.gd hlt2, eM.g0 hlt2 (by decide), eM.el hy, eM.ld0 hy (by decide), M_like, eM.cI0 hy (by decide), M_lk0, M_c0, eM.gf hlt2 1 (by decide), eM.ld hy 1 (by decide), eM.cI hy 1 (by decide), M_lk1, M_c1, cIf_true]
      refine cIf_intro (fun c => ?_) (fun c => cIf_intro (fun c2 => ?_) (fun c2 => ?_))
      · have c := of_decide_eq_true c
        rw [mst_lt hb (by omega)] at hQ
        exact hQ (by decide)
      · have c2 : x.id = y.id := by simpa using c2
        rw [mst_eq hb (by omega)] at hQ
        exact hQ (by decide)
      · have c := of_decide_eq_false c
        have c2 : ¬ x.id = y.id := by simpa using c2
        exact next (by omega)
theorem m45 (Q : CR → Prop) : ∀ (d i : Nat) (p : Int), ms.length - i = d → i ≤ ms.length → (i = 0 → p = 0) → (∀ y, 0 < i → ms[i - 1]? = some y → p = y.id) → (mstE p (ms.drop i) ≠ 0 → Q (rI (mstE p (ms.drop i)))) → (mstE p (ms.drop i) = 0 → WLoop Tryz.X45 (cd PP 45 [1, 1, 1, 0, 1, 0, 0]) ([X, .ptr 0 0, X, X, X, X, X, X, X, X, X, X, X, X, X, X, X, X, X, X, X, X, X, X, X, X, X, X, X, X, X, X, X, X, X, X, X, X, X, X, X, X, X, X, X, X, X, X, X, X, X, X, X, X, X, X, X, X, X, X, X, X, .vs (encL encD ds) ds.length .none, I ds.length, I (0 : Nat)] ++ List.replicate 16 X) ⟨[some (.cells [.vs (encL encM ms) ms.length .none, .vs (encL encD ds) ds.length .none] 25)], [], []⟩ (kBlock 3 (kSeq Tryz.X45 (cd PP 45 [1, 1, 1, 1]) (kRet Tryz.X45 45 Q)))) →
    WLoop Tryz.X45 (cd PP 45 [1, 1, 0, 1, 0, 0]) ([X, .ptr 0 0, X, X, X, X, X, X, X, X, X, X, X, X, X, X, X, X, .vs (encL encM ms) ms.length .none, I ms.length, I i] ++ List.replicate 60 X) ⟨[some (.cells [.vs (encL encM ms) ms.length .none, .vs (encL encD ds) ds.length .none] 25)], [], []⟩ (kBlock 0 (kSeq Tryz.X45 (cd PP 45 [1, 1, 1]) (kRet Tryz.X45 45 Q))) := by
  intro d
  induction d with
  | zero =>
    intro i p hd hi hp0 hp1 hQ hc
    have hi' : i = ms.length := by omega
    subst hi'
    have hno : ¬ ((ms.length : Nat) : Int) < (ms.length : Nat) := by omega
    have hQ0 : mstE p (ms.drop ms.length) = 0 := by rw [List.drop_length]; rfl
    refine WLoop_step Tryz.bhok (((Cts.nil Tryz.BH).cons (g := 95) ct95).cons (g := 111) ct111) ((v45l (encL encM ms) (encL encD ds) ms.length ds.length ms.length Q).mpr (cIf_neg (df hno) ?_))
    exact cIf_pos (by simp [noHL_append, noHL, noH, eM.noHL', eD.noHL', noHL_rep]) (cIf_pos blk45 (hc hQ0))
  | succ d ih =>
    intro i p hd hi hp0 hp1 hQ hc
    have hlt : i < ms.length := by omega
    have e1 : ms.length - (i + 1) = d := by omega
    have w1 : IntKind.i64.wrap ((i : Int) + 1) = ((i + 1 : Nat) : Int) := wrap_id (by omega) (by omega)
    have h1 : (i : Int) < ms.length := by omega
    obtain ⟨x, hx, hdr⟩ := drop_cons hlt
    rw [hdr] at hQ hc
    refine WLoop_step Tryz.bhok (((Cts.nil Tryz.BH).cons (g := 95) ct95).cons (g := 111) ct111) ((v45l (encL encM ms) (encL encD ds) ms.length ds.length i Q).mpr ?_)
    simp only [dt h1, dt hlt, eM.gl, eM.gd hlt, eM.g0 hlt (by decide), eM.el hx, eM.ld0 hx (by decide), M_like, eM.cI0 hx (by decide), M_lk0, M_c0, eM.gf hlt 1 (by decide), eM.ld hx 1 (by decide), eM.cI hx 1 (by decide), M_lk1, M_c1, cIf_true, w1]
    have eX : Mst.mk x.id x.zo = x := rfl
    refine ⟨trivial, trivial, cIf_intro (fun hb => ?_) (fun hb => ?_)⟩
    · have hb : mstB x = false := by simpa using hb
      rw [mst_bad hb] at hQ
      exact hQ (by decide)
    have hb : mstB x = true := by simpa using hb
    have hid : 1 ≤ x.id := by
      have := hb
      simp [mstB, idB] at this
      omega
    have next : p < x.id → WLoop Tryz.X45 (cd PP 45 [1, 1, 0, 1, 0, 0]) ([X, .ptr 0 0, X, X, X, X, X, X, X, X, X, X, X, X, X, X, X, X, .vs (encL encM ms) ms.length .none, I ms.length, I (i + 1 : Nat)] ++ List.replicate 60 X) ⟨[some (.cells [.vs (encL encM ms) ms.length .none, .vs (encL encD ds) ds.length .none] 25)], [], []⟩ (kBlock 0 (kSeq Tryz.X45 (cd PP 45 [1, 1, 1]) (kRet Tryz.X45 45 Q))) := fun hlt2 => by
      rw [mst_go hb hlt2] at hQ hc
      exact ih (i + 1) x.id e1 hlt (fun h => by omega) (fun y _ hy => by
        rw [Nat.add_sub_cancel, hx] at hy
        cases hy; rfl) hQ hc
    rcases Nat.eq_zero_or_pos i with h0 | h0
    · have hp := hp0 h0
      have hni : ¬ (i : Int) > 0 := by omega
      simp only [df hni, cIf_false]
      exact cIf_pos (by simp [noHL_append, noHL, noH, eM.noHL', eD.noHL', noHL_rep]) (cIf_pos blk45 (next (by omega)))
    · have hpi : (i : Int) > 0 := by omega
      have hlt2 : i - 1 < ms.length := by omega
      obtain ⟨y, hy⟩ : ∃ y, ms[i - 1]? = some y := ⟨_, List.getElem?_eq_getElem hlt2⟩
      have hp := hp1 y h0 hy
      have w2 : IntKind.i64.wrap ((i : Int) - 1) = ((i - 1 : Nat) : Int) := by
        rw [show (i : Int) - 1 = ((i - 1 : Nat) : Int) by omega]
        exact wrap_id (by omega) (by omega)
      simp only [dt hpi, w2, dt (Int.natCast_nonneg (i - 1)), Int.toNat_natCast, dt hlt2, eM.gl, eM.gd hlt2, eM.g0 hlt2 (by decide), eM.el hy, eM.ld0 hy (by decide), M_like, eM.cI0 hy (by decide), M_lk0, M_c0, eM.gf hlt2 1 (by decide), eM.ld hy 1 (by decide), eM.cI hy 1 (by decide), M_lk1, M_c1, cIf_true]
      refine cIf_intro (fun c => ?_) (fun c => cIf_intro (fun c2 => ?_) (fun c2 => ?_))
      · have c := of_decide_eq_true c
        rw [mst_lt hb (by omega)] at hQ
        exact hQ (by decide)
      · have c2 : x.id = y.id := by simpa using c2
        rw [mst_eq hb (by omega)] at hQ
        exact hQ (by decide)
      · have c := of_decide_eq_false c
        have c2 : ¬ x.id = y.id := by simpa using c2
        exact cIf_pos (by simp [noHL_append, noHL, noH, eM.noHL', eD.noHL', noHL_rep]) (cIf_pos blk45 (next (by omega)))
theorem inner46 {x : Dcr} {i : Nat} (hx : ds[i]? = some x) (Q : CR → Prop) (hQ : ((ds.take i).any fun y => decide (y.id = x.id)) = true → Q (rI 6)) (hc : ((ds.take i).any fun y => decide (y.id = x.id)) = false → WLoop Tryz.X46 (cd PP 46 [1, 1, 1, 0, 1, 0, 0]) ([X, .ptr 0 0, X, X, X, I (i + 1 : Nat)] ++ List.replicate 98 X) ⟨[some (.cells [.vs (encL encM ms) ms.length .none, .vs (encL encD ds) ds.length .none] 25)], [], []⟩ (kBlock 2 (kSeq Tryz.X46 (cd PP 46 [1, 1, 1, 1]) (kRet Tryz.X46 46 Q)))) : ∀ (d j : Nat), i - j = d → j ≤ i → ((ds.take j).any fun y => decide (y.id = x.id)) = false →
    WLoop Tryz.X46 (cd PP 46 [1, 1, 1, 0, 1, 0, 0, 1, 0, 0, 1, 1, 1, 0, 0]) ([X, .ptr 0 0, X, X, X, I i, X, I j] ++ List.replicate 96 X) ⟨[some (.cells [.vs (encL encM ms) ms.length .none, .vs (encL encD ds) ds.length .none] 25)], [], []⟩ (kBlock 4 (kBlock 3 (kSeq Tryz.X46 (cd PP 46 [1, 1, 1, 0, 1, 0, 0, 1, 1]) (kLoop Tryz.X46 (cd PP 46 [1, 1, 1, 0, 1, 0, 0]) (kBlock 2 (kSeq Tryz.X46 (cd PP 46 [1, 1, 1, 1]) (kRet Tryz.X46 46 Q))))))) := by
  have hlt := (List.getElem?_eq_some_iff.1 hx).1
  intro d
  induction d with
  | zero =>
    intro j hd hj ha
    have hj' : j = i := by omega
    subst hj'
    have hno : ¬ ((j : Nat) : Int) < (j : Nat) := by omega
    have w1 : IntKind.i64.wrap ((j : Int) + 1) = ((j + 1 : Nat) : Int) := wrap_id (by omega) (by omega)
    refine WLoop_step Tryz.bok (((Cts.nil _).cons ct99).cons ct114) ((v46l3 (encL encM ms) (encL encD ds) ms.length ds.length j j Q).mpr (cIf_neg (df hno) ?_))
    rw [w1]
    exact hc ha
  | succ d ih =>
    intro j hd hj ha
    have hlt2 : j < ds.length := by omega
    have h1 : (j : Int) < (i : Int) := by omega
    have w1 : IntKind.i64.wrap ((j : Int) + 1) = ((j + 1 : Nat) : Int) := wrap_id (by omega) (by omega)
    obtain ⟨y, hy⟩ : ∃ y, ds[j]? = some y := ⟨_, List.getElem?_eq_getElem hlt2⟩
    refine WLoop_step Tryz.bok (((Cts.nil _).cons ct99).cons ct114) ((v46l3 (encL encM ms) (encL encD ds) ms.length ds.length i j Q).mpr ?_)
    simp only [dt h1, dt hlt, dt hlt2, eD.gl, eD.gd hlt, eD.g0 hlt (by decide), eD.el hx, eD.ld0 hx (by decide), D_like, eD.cI0 hx (by decide), D_lk0, D_c0, eD.gf hlt 1 (by decide), eD.ld hx 1 (by decide), eD.cI hx 1 (by decide), D_lk1, D_c1, eD.gf hlt 2 (by decide), eD.ld hx 2 (by decide), eD.cI hx 2 (by decide), D_lk2, D_c2, eD.gf hlt 3 (by decide), eD.ld hx 3 (by decide), eD.cI hx 3 (by decide), D_lk3, D_c3, eD.gf hlt 4 (by decide), eD.ld hx 4 (by decide), eD.cI hx 4 (by decide), D_lk4, D_c4, eD.gf hlt 5 (by decide), eD.ld hx 5 (by decide), eD.cI hx 5 (by decide), D_lk5, D_c5, eD.gf hlt 6 (by decide), eD.ld hx 6 (by decide), eD.cI hx 6 (by decide), D_lk6, D_c6, eD.gf hlt 7 (by decide), eD.ld hx 7 (by decide), eD.cI hx 7 (by decide), D_lk7, D_c7, eD.gf hlt 8 (by decide), eD.ld hx 8 (by decide), eD.cI hx 8 (by decide), D_lk8, D_c8, eD.gl, eD.gd hlt2, eD.g0 hlt2 (by decide), eD.el hy, eD.ld0 hy (by decide), D_like, eD.cI0 hy (by decide), D_lk0, D_c0, eD.gf hlt2 1 (by decide), eD.ld hy 1 (by decide), eD.cI hy 1 (by decide), D_lk1, D_c1, eD.gf hlt2 2 (by decide), eD.ld hy 2 (by decide), eD.cI hy 2 (by decide), D_lk2, D_c2, eD.gf hlt2 3 (by decide), eD.ld hy 3 (by decide), eD.cI hy 3 (by decide), D_lk3, D_c3, eD.gf hlt2 4 (by decide), eD.ld hy 4 (by decide), eD.cI hy 4 (by decide), D_lk4, D_c4, eD.gf hlt2 5 (by decide), eD.ld hy 5 (by decide), eD.cI hy 5 (by decide), D_lk5, D_c5, eD.gf hlt2 6 (by decide), eD.ld hy 6 (by decide), eD.cI hy 6 (by decide), D_lk6, D_c6, eD.gf hlt2 7 (by decide), eD.ld hy 7 (by decide), eD.cI hy 7 (by decide), D_lk7, D_c7, eD.gf hlt2 8 (by decide), eD.ld hy 8 (by decide), eD.cI hy 8 (by decide), D_lk8, D_c8, cIf_true, w1]
    refine cIf_intro (fun c => hQ ?_) (fun c => ih (j + 1) (by omega) (by omega) ?_)
    · have c : y.id = x.id := by simpa using c
      exact List.any_eq_true.2 ⟨y, List.mem_of_getElem? (i := j) (by rw [List.getElem?_take_of_lt (by omega)]; exact hy), by simp [c]⟩
    · have c : ¬ y.id = x.id := by simpa using c
      rw [List.take_add_one, hy, List.any_append, ha]
      simp [c]
theorem d46 (Q : CR → Prop) : ∀ (d i : Nat), ds.length - i = d → i ≤ ds.length → Q (rI (dcrE (ds.take i) (ds.drop i))) →
    WLoop Tryz.X46 (cd PP 46 [1, 1, 1, 0, 1, 0, 0]) ([X, .ptr 0 0, X, X, X, I i] ++ List.replicate 98 X) ⟨[some (.cells [.vs (encL encM ms) ms.length .none, .vs (encL encD ds) ds.length .none] 25)], [], []⟩ (kBlock 2 (kSeq Tryz.X46 (cd PP 46 [1, 1, 1, 1]) (kRet Tryz.X46 46 Q))) := by
  intro d
  induction d with
  | zero =>
    intro i hd hi hQ
    have hi' : i = ds.length := by omega
    subst hi'
    have hno : ¬ ((ds.length : Nat) : Int) < (ds.length : Nat) := by omega
    rw [List.drop_length] at hQ
    exact WLoop_step Tryz.bok (((Cts.nil _).cons ct99).cons ct114) ((v46l2 (encL encM ms) (encL encD ds) ms.length ds.length ds.length Q).mpr (cIf_neg (df hno) hQ))
  | succ d ih =>
    intro i hd hi hQ
    have hlt : i < ds.length := by omega
    have e1 : ds.length - (i + 1) = d := by omega
    have h1 : (i : Int) < ds.length := by omega
    obtain ⟨x, hx, hdr⟩ := drop_cons hlt
    rw [hdr] at hQ
    have htk : ds.take (i + 1) = ds.take i ++ [x] := by rw [List.take_add_one, hx]; rfl
    refine WLoop_step Tryz.bok (((Cts.nil _).cons ct99).cons ct114) ((v46l2 (encL encM ms) (encL encD ds) ms.length ds.length i Q).mpr ?_)
    simp only [dt h1, dt hlt, eD.gl, eD.gd hlt, eD.g0 hlt (by decide), eD.el hx, eD.ld0 hx (by decide), D_like, eD.cI0 hx (by decide), D_lk0, D_c0, eD.gf hlt 1 (by decide), eD.ld hx 1 (by decide), eD.cI hx 1 (by decide), D_lk1, D_c1, eD.gf hlt 2 (by decide), eD.ld hx 2 (by decide), eD.cI hx 2 (by decide), D_lk2, D_c2, eD.gf hlt 3 (by decide), eD.ld hx 3 (by decide), eD.cI hx 3 (by decide), D_lk3, D_c3, eD.gf hlt 4 (by decide), eD.ld hx 4 (by decide), eD.cI hx 4 (by decide), D_lk4, D_c4, eD.gf hlt 5 (by decide), eD.ld hx 5 (by decide), eD.cI hx 5 (by decide), D_lk5, D_c5, eD.gf hlt 6 (by decide), eD.ld hx 6 (by decide), eD.cI hx 6 (by decide), D_lk6, D_c6, eD.gf hlt 7 (by decide), eD.ld hx 7 (by decide), eD.cI hx 7 (by decide), D_lk7, D_c7, eD.gf hlt 8 (by decide), eD.ld hx 8 (by decide), eD.cI hx 8 (by decide), D_lk8, D_c8, cIf_true]
    refine ⟨trivial, cIf_intro (fun hb => ?_) (fun hb => ?_)⟩
    · have hb : dcrB x = false := by simpa using hb
      rw [dcr_bad hb] at hQ
      exact hQ
    · have hb : dcrB x = true := by simpa using hb
      refine inner46 hm hd1 hx Q (fun ha => ?_) (fun ha => ?_) _ 0 rfl (Nat.zero_le _) rfl
      · rw [dcr_dup hb ha] at hQ
        exact hQ
      · rw [dcr_go hb ha, ← htk] at hQ
        exact ih (i + 1) e1 hlt hQ
theorem d45 (Q : CR → Prop) : ∀ (d i : Nat), ds.length - i = d → i ≤ ds.length → Q (rI (dcrE (ds.take i) (ds.drop i))) →
    WLoop Tryz.X45 (cd PP 45 [1, 1, 1, 0, 1, 0, 0]) ([X, .ptr 0 0, X, X, X, X, X, X, X, X, X, X, X, X, X, X, X, X, X, X, X, X, X, X, X, X, X, X, X, X, X, X, X, X, X, X, X, X, X, X, X, X, X, X, X, X, X, X, X, X, X, X, X, X, X, X, X, X, X, X, X, X, .vs (encL encD ds) ds.length .none, I ds.length, I i] ++ List.replicate 16 X) ⟨[some (.cells [.vs (encL encM ms) ms.length .none, .vs (encL encD ds) ds.length .none] 25)], [], []⟩ (kBlock 3 (kSeq Tryz.X45 (cd PP 45 [1, 1, 1, 1]) (kRet Tryz.X45 45 Q))) := by
  intro d
  induction d with
  | zero =>
    intro i hd hi hQ
    have hi' : i = ds.length := by omega
    subst hi'
    have hno : ¬ ((ds.length : Nat) : Int) < (ds.length : Nat) := by omega
    rw [List.drop_length] at hQ
    exact WLoop_step Tryz.bhok (((Cts.nil Tryz.BH).cons (g := 95) ct95).cons (g := 111) ct111) ((v45l2 (encL encM ms) (encL encD ds) ms.length ds.length ds.length Q).mpr (cIf_neg (df hno) hQ))
  | succ d ih =>
    intro i hd hi hQ
    have hlt : i < ds.length := by omega
    have e1 : ds.length - (i + 1) = d := by omega
    have h1 : (i : Int) < ds.length := by omega
    have w1 : IntKind.i64.wrap ((i : Int) + 1) = ((i + 1 : Nat) : Int) := wrap_id (by omega) (by omega)
    obtain ⟨x, hx, hdr⟩ := drop_cons hlt
    rw [hdr] at hQ
    have htk : ds.take (i + 1) = ds.take i ++ [x] := by rw [List.take_add_one, hx]; rfl
    refine WLoop_step Tryz.bhok (((Cts.nil Tryz.BH).cons (g := 95) ct95).cons (g := 111) ct111) ((v45l2 (encL encM ms) (encL encD ds) ms.length ds.length i Q).mpr ?_)
    simp only [dt h1, dt hlt, eD.gl, eD.gd hlt, eD.g0 hlt (by decide), eD.el hx, eD.ld0 hx (by decide), D_like, eD.cI0 hx (by decide), D_lk0, D_c0, eD.gf hlt 1 (by decide), eD.ld hx 1 (by decide), eD.cI hx 1 (by decide), D_lk1, D_c1, eD.gf hlt 2 (by decide), eD.ld hx 2 (by decide), eD.cI hx 2 (by decide), D_lk2, D_c2, eD.gf hlt 3 (by decide), eD.ld hx 3 (by decide), eD.cI hx 3 (by decide), D_lk3, D_c3, eD.gf hlt 4 (by decide), eD.ld hx 4 (by decide), eD.cI hx 4 (by decide), D_lk4, D_c4, eD.gf hlt 5 (by decide), eD.ld hx 5 (by decide), eD.cI hx 5 (by decide), D_lk5, D_c5, eD.gf hlt 6 (by decide), eD.ld hx 6 (by decide), eD.cI hx 6 (by decide), D_lk6, D_c6, eD.gf hlt 7 (by decide), eD.ld hx 7 (by decide), eD.cI hx 7 (by decide), D_lk7, D_c7, eD.gf hlt 8 (by decide), eD.ld hx 8 (by decide), eD.cI hx 8 (by decide), D_lk8, D_c8, cIf_true, w1]
    refine ⟨trivial, cIf_intro (fun hb => ?_) (fun hb => cIf_pos (dt hi) ⟨⟨⟨ds.take i, by rw [Nat.sub_zero, eD.takeL], by rw [List.length_take]; omega, by rw [List.length_take]; omega⟩, trivial⟩, ⟨rfl, ?_⟩, ?_⟩)⟩
    · have hb : dcrB x = false := by simpa using hb
      rw [dcr_bad hb] at hQ
      exact hQ
    · rw [Nat.sub_zero, eD.takeL]
      simp [okShL, okSh, eD.noHL', noTD, noHL, noH, noTL, noT]
    · have hb : dcrB x = true := by simpa using hb
      rw [Nat.sub_zero, eD.takeL, eD.on (by decide)]
      refine cIf_intro (fun ha => ?_) (fun ha => cIf_pos (by simp [noHL_append, noHL, noH, eM.noHL', eD.noHL', noHL_rep]) (cIf_pos blk45 ?_))
      · rw [dcr_dup hb ha] at hQ
        exact hQ
      · rw [dcr_go hb ha, ← htk] at hQ
        exact ih (i + 1) e1 hlt hQ
end
theorem ct46 : Ct Tryz.B.c0 46 R45 := Ct.of_wp (l := [(114, R111), (99, R95)]) (lm := lm46) (tp := []) (ct := []) (sm := []) Tryz.bok (((Cts.nil _).cons ct99).cons ct114) ⟨_, _, Tryz.func46, rfl⟩ fun args D r hR hD => by
  unfold R45 at hR
  split at hR <;> cases hR
  rename_i l n c k
  obtain ⟨ms, ds, rfl, rfl, rfl, rfl, hm, hk⟩ := hD
  refine ⟨by simp [noHL, noH, eM.noHL', eD.noHL'], ?_⟩
  rw [show scrubL 0 [AV.agg [AV.vs (encL encM ms) ms.length .none, AV.vs (encL encD ds) ds.length .none]] = [AV.agg [AV.vs (encL encM ms) ms.length .none, AV.vs (encL encD ds) ds.length .none]] by simp [scrubL, scrub, eM.scL, eD.scL, Tok.scrub], eM.on (by decide), eD.on (by decide)]
  show wpF Tryz.X46 46 _ _
  rw [v46]
  refine cIf_intro (fun h => ?_) (fun h => cIf_intro (fun h2 => ?_) (fun h2 => ?_))
  · have h := of_decide_eq_true h
    unfold chkV; rw [if_pos (by omega)]
  · have h2 := of_decide_eq_true h2
    unfold chkV; rw [if_pos (by omega)]
  · have h := of_decide_eq_false h
    have h2 := of_decide_eq_false h2
    have e : chkV ms ds = if mstE 0 ms ≠ 0 then mstE 0 ms else dcrE [] ds := by unfold chkV; rw [if_neg (by omega)]
    rw [e]
    exact m46 hm (by omega) _ _ 0 0 rfl (Nat.zero_le _) (fun _ => rfl) (fun y h => by omega) (fun hne => by show rI (mstE 0 ms) = rI _; rw [if_pos (show mstE 0 ms ≠ 0 from hne)]) (fun hz => d46 hm (by omega) _ _ 0 rfl (Nat.zero_le _) (by show rI (dcrE [] ds) = rI _; rw [if_neg (show ¬ mstE 0 ms ≠ 0 from fun hne => hne hz)]))
theorem ct45 : Ct Tryz.B.c0 45 R45 := Ct.of_wp (l := [(111, R111), (95, R95)]) (lm := lm45) (tp := []) (ct := []) (sm := [(4, 1), (11, 1), (12, 1)]) Tryz.bhok (((Cts.nil Tryz.BH).cons (g := 95) ct95).cons (g := 111) ct111) ⟨_, _, Tryz.func45, rfl⟩ fun args D r hR hD => by
  unfold R45 at hR
  split at hR <;> cases hR
  rename_i l n c k
  obtain ⟨ms, ds, rfl, rfl, rfl, rfl, hm, hk⟩ := hD
  refine ⟨by simp [noHL, noH, eM.noHL', eD.noHL'], ?_⟩
  rw [show scrubL 0 [AV.agg [AV.vs (encL encM ms) ms.length .none, AV.vs (encL encD ds) ds.length .none]] = [AV.agg [AV.vs (encL encM ms) ms.length .none, AV.vs (encL encD ds) ds.length .none]] by simp [scrubL, scrub, eM.scL, eD.scL, Tok.scrub], eM.on (by decide), eD.on (by decide)]
  show wpF Tryz.X45 45 _ _
  rw [v45]
  refine cIf_intro (fun h => ?_) (fun h => cIf_intro (fun h2 => ?_) (fun h2 => ?_))
  · have h := of_decide_eq_true h
    unfold chkV; rw [if_pos (by omega)]
  · have h2 := of_decide_eq_true h2
    unfold chkV; rw [if_pos (by omega)]
  · have h := of_decide_eq_false h
    have h2 := of_decide_eq_false h2
    have e : chkV ms ds = if mstE 0 ms ≠ 0 then mstE 0 ms else dcrE [] ds := by unfold chkV; rw [if_neg (by omega)]
    rw [e]
    exact cIf_pos (by simp [noHL_append, noHL, noH, eM.noHL', eD.noHL', noHL_rep]) (cIf_pos blk45 (m45 hm (by omega) _ _ 0 0 rfl (Nat.zero_le _) (fun _ => rfl) (fun y h => by omega) (fun hne => by show rI (mstE 0 ms) = rI _; rw [if_pos (show mstE 0 ms ≠ 0 from hne)]) (fun hz => d45 hm (by omega) _ _ 0 rfl (Nat.zero_le _) (by show rI (dcrE [] ds) = rI _; rw [if_neg (show ¬ mstE 0 ms ≠ 0 from fun hne => hne hz)]))))
end Go.Proofs
/-! VCK -/
set_option maxRecDepth 100000
set_option linter.unusedVariables false
set_option linter.unusedSimpArgs false
namespace Go.Proofs
open Go Go.Ev
noncomputable def R10 : Spc := fun args => match args with
  | [.agg [.vs l n .none, .vs c k .none], .agg [.int .i64 _, .int .u8 _, .int .i64 _, .int .i64 _, .int .i64 _, .int .i64 _, .int .i64 _, .int .i64 _, .int .i64 _], .agg [.int .i64 _, .int .i64 _], .int .i64 _] => some (∃ ms ds, l = encL encM ms ∧ n = ms.length ∧ c = encL encD ds ∧ k = ds.length, rB true)
  | _ => none
def lm10 : List (Nat × List Nat) := []
noncomputable def Tryz.X10 : WCx := Tryz.B.wcx [(45, R45), (46, R45), (47, R47), (48, R47), (26, R26)] lm10 [] [] []
theorem v10 (l c : List AV) (n k : Nat) (id ki ma st ra fr un op cl mi zo m : Int) (Q : CR → Prop) : wpF Tryz.X10 10 [.agg [.vs l n .none, .vs c k .none], .agg [I id, U ki, I ma, I st, I ra, I fr, I un, I op, I cl], .agg [I mi, I zo], I m] Q =
  (cIf (decide ((↑n : Int) > (60 : Int))) (True ∧ Q (CR.ret (Bo true))) (cIf (decide ((↑k : Int) > (120 : Int))) (True ∧ Q (CR.ret (Bo true))) (True ∧ St.mk [some (HB.cells [AV.vs l n Tok.none, AV.vs c k Tok.none] 25), some (HB.cells [I id, U ki, I ma, I st, I ra, I fr, I un, I op, I cl] 46), some (HB.cells [I mi, I zo] 58)] [] [] = St.mk [some (HB.cells [AV.vs l n Tok.none, AV.vs c k Tok.none] 25), some (HB.cells [I id, U ki, I ma, I st, I ra, I fr, I un, I op, I cl] 46), some (HB.cells [I mi, I zo] 58)] [] [] ∧ cIf (noHL [some (HB.cells [AV.vs l n Tok.none, AV.vs c k Tok.none] 25), some (HB.cells [I id, U ki, I ma, I st, I ra, I fr, I un, I op, I cl] 46), some (HB.cells [I mi, I zo] 58)].length ([] ++ [AV.agg [AV.vs l n Tok.none, AV.vs c k Tok.none]] ++ [])) ((∃ (ms : List Mst), ∃ (ds : List Dcr), l = encL encM ms ∧ n = ms.length ∧ c = encL encD ds ∧ k = ds.length ∧ ms.length ≤ 10000000 ∧ ds.length ≤ 10000000) ∧ St.mk [some (HB.cells [AV.vs l n Tok.none, AV.vs c k Tok.none] 25), some (HB.cells [I id, U ki, I ma, I st, I ra, I fr, I un, I op, I cl] 46), some (HB.cells [I mi, I zo] 58)] [] [] = St.mk [some (HB.cells [AV.vs l n Tok.none, AV.vs c k Tok.none] 25), some (HB.cells [I id, U ki, I ma, I st, I ra, I fr, I un, I op, I cl] 46), some (HB.cells [I mi, I zo] 58)] [] [] ∧ cIf (noHL [some (HB.cells [AV.vs l n Tok.none, AV.vs c k Tok.none] 25), some (HB.cells [I id, U ki, I ma, I st, I ra, I fr, I un, I op, I cl] 46), some (HB.cells [I mi, I zo] 58)].length ([] ++ [AV.agg [AV.vs l n Tok.none, AV.vs c k Tok.none]] ++ [])) ((∃ (ms : List Mst), ∃ (ds : List Dcr), l = encL encM ms ∧ n = ms.length ∧ c = encL encD ds ∧ k = ds.length ∧ ms.length ≤ 10000000 ∧ ds.length ≤ 10000000) ∧ St.mk [some (HB.cells [AV.vs l n Tok.none, AV.vs c k Tok.none] 25), some (HB.cells [I id, U ki, I ma, I st, I ra, I fr, I un, I op, I cl] 46), some (HB.cells [I mi, I zo] 58)] [] [] = St.mk [some (HB.cells [AV.vs l n Tok.none, AV.vs c k Tok.none] 25), some (HB.cells [I id, U ki, I ma, I st, I ra, I fr, I un, I op, I cl] 46), some (HB.cells [I mi, I zo] 58)] [] [] ∧ cIf (onEnc (encL encM) (fun (ms : List Mst) => onEnc (encL encD) (fun (ds : List Dcr) => chkV ms ds) (0 : Int) c) (0 : Int) l == onEnc (encL encM) (fun (ms : List Mst) => onEnc (encL encD) (fun (ds : List Dcr) => chkV ms ds) (0 : Int) c) (0 : Int) l) (True ∧ St.mk [some (HB.cells [AV.vs l n Tok.none, AV.vs c k Tok.none] 25), some (HB.cells [I id, U ki, I ma, I st, I ra, I fr, I un, I op, I cl] 46), some (HB.cells [I mi, I zo] 58)] [] [] = St.mk [some (HB.cells [AV.vs l n Tok.none, AV.vs c k Tok.none] 25), some (HB.cells [I id, U ki, I ma, I st, I ra, I fr, I un, I op, I cl] 46), some (HB.cells [I mi, I zo] 58)] [] [] ∧ True ∧ St.mk [some (HB.cells [AV.vs l n Tok.none, AV.vs c k Tok.none] 25), some (HB.cells [I id, U ki, I ma, I st, I ra, I fr, I un, I op, I cl] 46), some (HB.cells [I mi, I zo] 58)] [] [] = St.mk [some (HB.cells [AV.vs l n Tok.none, AV.vs c k Tok.none] 25), some (HB.cells [I id, U ki, I ma, I st, I ra, I fr, I un, I op, I cl] 46), some (HB.cells [I mi, I zo] 58)] [] [] ∧ Q (CR.ret (Bo (appB (Dcr.mk id ki ma st ra fr un op cl) (Mst.mk mi zo) m == appB (Dcr.mk id ki ma st ra fr un op cl) (Mst.mk mi zo) m)))) (Q (CR.ret (Bo false)))) False) False))) := by kernel_rfl
end Go.Proofs
/-! CK -/
set_option maxRecDepth 100000
set_option linter.unusedVariables false
set_option linter.unusedSimpArgs false
namespace Go.Proofs
open Go Go.Ev
attribute [local irreducible] wpF wpC cd
theorem ct10 : Ct Tryz.B.c0 10 R10 := Ct.of_wp (l := [(45, R45), (46, R45), (47, R47), (48, R47), (26, R26)]) (lm := lm10) (tp := []) (ct := []) (sm := []) Tryz.bok ((((((Cts.nil _).cons ct26).cons ct48).cons ct47).cons ct46).cons ct45) ⟨_, _, Tryz.func10, rfl⟩ fun args D r hR hD => by
  unfold R10 at hR
  split at hR <;> cases hR
  rename_i l n c k id ki ma st ra fr un op cl mi zo m
  obtain ⟨ms, ds, rfl, rfl, rfl, rfl⟩ := hD
  refine ⟨by simp [noHL, noH, eM.noHL', eD.noHL'], ?_⟩
  rw [show scrubL 0 [AV.agg [AV.vs (encL encM ms) ms.length .none, AV.vs (encL encD ds) ds.length .none], AV.agg [I id, U ki, I ma, I st, I ra, I fr, I un, I op, I cl], AV.agg [I mi, I zo], I m] = [AV.agg [AV.vs (encL encM ms) ms.length .none, AV.vs (encL encD ds) ds.length .none], AV.agg [I id, U ki, I ma, I st, I ra, I fr, I un, I op, I cl], AV.agg [I mi, I zo], I m] by simp [scrubL, scrub, eM.scL, eD.scL, Tok.scrub]]
  show wpF Tryz.X10 10 _ _
  rw [v10]
  refine cIf_intro (fun h => ⟨trivial, rfl⟩) (fun h => cIf_intro (fun h2 => ⟨trivial, rfl⟩) (fun h2 => ?_))
  have h := of_decide_eq_false h
  have h2 := of_decide_eq_false h2
  have hp : ∃ ms' ds', encL encM ms = encL encM ms' ∧ ms.length = ms'.length ∧ encL encD ds = encL encD ds' ∧ ds.length = ds'.length ∧ ms'.length ≤ 10000000 ∧ ds'.length ≤ 10000000 := ⟨ms, ds, rfl, rfl, rfl, rfl, by omega, by omega⟩
  refine ⟨trivial, rfl, cIf_pos (by simp [noHL, noH, eM.noHL', eD.noHL']) ⟨hp, rfl, cIf_pos (by simp [noHL, noH, eM.noHL', eD.noHL']) ⟨hp, rfl, cIf_pos (by simp) ?_⟩⟩⟩
  simp [noHL, noH]
end Go.Proofs
