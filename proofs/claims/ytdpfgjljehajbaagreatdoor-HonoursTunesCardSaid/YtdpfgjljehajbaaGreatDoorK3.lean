/- Contracts of functions of the program and of the reference. -/
import Derived.Test.YtdpfgjljehajbaaGreatDoorK2
import Derived.Test.YtdpfgjljehajbaaGreatDoorKD
set_option linter.unusedVariables false
set_option linter.unusedSimpArgs false
/-! VTU -/
set_option maxRecDepth 100000
set_option linter.unusedVariables false
set_option linter.unusedSimpArgs false
namespace Go.Ev
def charB (c : Int) : Bool := decide (97 ≤ c) && decide (c ≤ 122) || decide (48 ≤ c) && decide (c ≤ 57) || c == 32 || c == 45
def nameB (s : List UInt8) : Bool := decide (1 ≤ s.length) && decide (s.length ≤ 24) && !decide (((s.getD 0 0).toNat : Int) = 32) && !decide (((s.getD (s.length - 1) 0).toNat : Int) = 32) && s.all fun c => charB (c.toNat : Int)
def tuneE : List Tun → Int
  | [] => 0
  | t :: l => if decide (1 ≤ t.st) && decide (t.st ≤ 1000000) && (decide (0 ≤ t.si) && decide (t.si ≤ 100000)) then (if nameB t.nm then tuneE l else 4) else 1
def chkU (l : List Tun) : Int := if l.length > 100 then 2 else tuneE l
def zTun : Tun := ⟨0, 0, []⟩
def antF (all : List Tun) (st day : Int) : List Tun → Nat → Int → Int
  | [], i, b => b
  | t :: l, i, b => antF all st day l (i + 1) (if decide (t.st = st) && decide (t.si ≤ day) && (decide (b < 0) || decide (t.si ≥ (all.getD b.toNat zTun).si)) then i else b)
def antV (l : List Tun) (st day : Int) : List UInt8 × Bool := if antF l st day l 0 (-1) < 0 then ([], false) else ((l.getD (antF l st day l 0 (-1)).toNat zTun).nm, true)
end Go.Ev
namespace Go.Proofs
open Go Go.Ev
def R132 : Spc := fun args => match args with
  | [.int .i64 n] => some (True, rB (decide (1 ≤ n) && decide (n ≤ 1000000)))
  | _ => none
def R133 : Spc := fun args => match args with
  | [.str s] => some (s.length ≤ 9223372036854775807, rB (nameB s))
  | _ => none
noncomputable def R64 : Spc := fun args => match args with
  | [.vs l n .none, .int .i64 st, .int .i64 day] => some (∃ x, l = encL encU x ∧ n = x.length ∧ x.length ≤ 1000, .ret (.tup [.str (onEnc (encL encU) (fun x => antV x st day) ([], false) l).1, Bo (onEnc (encL encU) (fun x => antV x st day) ([], false) l).2]))
  | _ => none
noncomputable def R66 : Spc := fun args => match args with
  | [.vs l n .none] => some (∃ x, l = encL encU x ∧ n = x.length ∧ x.length ≤ 1000 ∧ ∀ t ∈ x, okU t, rI (onEnc (encL encU) chkU 0 l))
  | _ => none
noncomputable def R17 : Spc := fun args => match args with
  | [.vs l n .none, .int .i64 st, .int .i64 day] => some (∃ x, l = encL encU x ∧ n = x.length ∧ ∀ t ∈ x, okU t, rB true)
  | _ => none
def lm132 : List (Nat × List Nat) := []
noncomputable def Tryz.X132 : WCx := Tryz.B.wcx [] lm132 [] [] []
def lm133 : List (Nat × List Nat) := [(4, [0, 27, 28]), (10, [])]
noncomputable def Tryz.X133 : WCx := Tryz.B.wcx [] lm133 [] [] []
def lm134 : List (Nat × List Nat) := [(4, [0, 3]), (9, [])]
noncomputable def Tryz.X134 : WCx := Tryz.B.wcx [] lm134 [] [] []
def lm64 : List (Nat × List Nat) := [(3, [0, 1, 2, 8, 11, 12, 13]), (8, [0, 8])]
noncomputable def Tryz.X64 : WCx := Tryz.B.wcx [] lm64 [] [] [(3, 0)]
def lm65 : List (Nat × List Nat) := [(3, [0, 1, 2, 8, 9]), (7, [0, 8])]
noncomputable def Tryz.X65 : WCx := Tryz.B.wcx [] lm65 [] [] []
def lm66 : List (Nat × List Nat) := [(4, [8, 9, 10]), (11, [])]
noncomputable def Tryz.X66 : WCx := Tryz.B.wcx [(132, R132), (133, R133)] lm66 [] [] [(4, 0)]
def lm67 : List (Nat × List Nat) := [(4, [0, 3]), (13, [])]
noncomputable def Tryz.X67 : WCx := Tryz.B.wcx [(118, R118), (134, R133)] lm67 [] [] []
def lm17 : List (Nat × List Nat) := []
noncomputable def Tryz.X17 : WCx := Tryz.B.wcx [(64, R64), (65, R64), (66, R66), (67, R66), (26, R26)] lm17 [] [] []
theorem v132 (n : Int) (Q : CR → Prop) : wpF Tryz.X132 132 [I n] Q =
  (cIf (decide (n ≥ (1 : Int))) (Q (CR.ret (Bo (decide (n ≤ (1000000 : Int)))))) (Q (CR.ret (Bo false)))) := by kernel_rfl
theorem v133 (s : List UInt8) (Q : CR → Prop) : wpF Tryz.X133 133 [.str s] Q =
  (cIf (decide ((↑s.length : Int) < (1 : Int))) (Q (CR.ret (Bo false))) (cIf (decide ((↑s.length : Int) > (24 : Int))) (Q (CR.ret (Bo false))) (cIf (decide (0 < s.length)) (cIf ((↑(s.getD 0 (0 : UInt8)).toNat : Int) == (32 : Int)) (Q (CR.ret (Bo false))) (cIf (decide ((0 : Int) ≤ IntKind.i64.wrap ((↑s.length : Int) - (1 : Int)))) (cIf (decide ((IntKind.i64.wrap ((↑s.length : Int) - (1 : Int))).toNat < s.length)) (cIf ((↑(s.getD (IntKind.i64.wrap ((↑s.length : Int) - (1 : Int))).toNat (0 : UInt8)).toNat : Int) == (32 : Int)) (Q (CR.ret (Bo false))) (WLoop Tryz.X133 (cd Tryz.X133.P 133 [1, 1, 0, 1, 0, 0]) ([AV.str s, X, X, X, X, X, X, X, X, X, X, X, X, X, X, X, X, X, X, X, X, X, X, X, X, X, X, I (↑s.length : Int), I (0 : Int)] ++ List.replicate 28 X) (St.mk [] [] []) (kBlock 0 (kSeq Tryz.X133 (cd Tryz.X133.P 133 [1, 1, 1]) (kRet Tryz.X133 133 Q))))) False) False)) False))) := by kernel_rfl
theorem v133l (s : List UInt8) (i : Nat) (Q : CR → Prop) : wpC Tryz.X133 (cd PP 133 [1, 1, 0, 1, 0, 0]) ([.str s, X, X, X, X, X, X, X, X, X, X, X, X, X, X, X, X, X, X, X, X, X, X, X, X, X, X, I s.length, I i] ++ List.replicate 28 X) ⟨[], [], []⟩ (kLoop Tryz.X133 (cd PP 133 [1, 1, 0, 1, 0, 0]) (kBlock 0 (kSeq Tryz.X133 (cd PP 133 [1, 1, 1]) (kRet Tryz.X133 133 Q)))) =
  (cIf (decide ((↑i : Int) < (↑s.length : Int))) (cIf (decide (i < s.length)) (cIf (decide ((↑(s.getD i (0 : UInt8)).toNat : Int) < (97 : Int))) (cIf (decide ((↑(s.getD i (0 : UInt8)).toNat : Int) < (48 : Int))) (cIf ((↑(s.getD i (0 : UInt8)).toNat : Int) != (32 : Int)) (cIf ((↑(s.getD i (0 : UInt8)).toNat : Int) != (45 : Int)) (Q (CR.ret (Bo false))) (WLoop Tryz.X133 (cd PP 133 [1, 1, 0, 1, 0, 0]) ([AV.str s, X, X, X, X, X, X, X, X, X, X, X, X, X, X, X, X, X, X, X, X, X, X, X, X, X, X, I (↑s.length : Int), I (IntKind.i64.wrap ((↑i : Int) + (1 : Int)))] ++ List.replicate 28 X) (St.mk [] [] []) (kBlock 0 (kSeq Tryz.X133 (cd PP 133 [1, 1, 1]) (kRet Tryz.X133 133 Q))))) (WLoop Tryz.X133 (cd PP 133 [1, 1, 0, 1, 0, 0]) ([AV.str s, X, X, X, X, X, X, X, X, X, X, X, X, X, X, X, X, X, X, X, X, X, X, X, X, X, X, I (↑s.length : Int), I (IntKind.i64.wrap ((↑i : Int) + (1 : Int)))] ++ List.replicate 28 X) (St.mk [] [] []) (kBlock 0 (kSeq Tryz.X133 (cd PP 133 [1, 1, 1]) (kRet Tryz.X133 133 Q))))) (cIf (decide ((↑(s.getD i (0 : UInt8)).toNat : Int) > (57 : Int))) (cIf ((↑(s.getD i (0 : UInt8)).toNat : Int) != (32 : Int)) (cIf ((↑(s.getD i (0 : UInt8)).toNat : Int) != (45 : Int)) (Q (CR.ret (Bo false))) (WLoop Tryz.X133 (cd PP 133 [1, 1, 0, 1, 0, 0]) ([AV.str s, X, X, X, X, X, X, X, X, X, X, X, X, X, X, X, X, X, X, X, X, X, X, X, X, X, X, I (↑s.length : Int), I (IntKind.i64.wrap ((↑i : Int) + (1 : Int)))] ++ List.replicate 28 X) (St.mk [] [] []) (kBlock 0 (kSeq Tryz.X133 (cd PP 133 [1, 1, 1]) (kRet Tryz.X133 133 Q))))) (WLoop Tryz.X133 (cd PP 133 [1, 1, 0, 1, 0, 0]) ([AV.str s, X, X, X, X, X, X, X, X, X, X, X, X, X, X, X, X, X, X, X, X, X, X, X, X, X, X, I (↑s.length : Int), I (IntKind.i64.wrap ((↑i : Int) + (1 : Int)))] ++ List.replicate 28 X) (St.mk [] [] []) (kBlock 0 (kSeq Tryz.X133 (cd PP 133 [1, 1, 1]) (kRet Tryz.X133 133 Q))))) (WLoop Tryz.X133 (cd PP 133 [1, 1, 0, 1, 0, 0]) ([AV.str s, X, X, X, X, X, X, X, X, X, X, X, X, X, X, X, X, X, X, X, X, X, X, X, X, X, X, I (↑s.length : Int), I (IntKind.i64.wrap ((↑i : Int) + (1 : Int)))] ++ List.replicate 28 X) (St.mk [] [] []) (kBlock 0 (kSeq Tryz.X133 (cd PP 133 [1, 1, 1]) (kRet Tryz.X133 133 Q)))))) (cIf (decide ((↑(s.getD i (0 : UInt8)).toNat : Int) > (122 : Int))) (cIf (decide ((↑(s.getD i (0 : UInt8)).toNat : Int) < (48 : Int))) (cIf ((↑(s.getD i (0 : UInt8)).toNat : Int) != (32 : Int)) (cIf ((↑(s.getD i (0 : UInt8)).toNat : Int) != (45 : Int)) (Q (CR.ret (Bo false))) (WLoop Tryz.X133 (cd PP 133 [1, 1, 0, 1, 0, 0]) ([AV.str s, X, X, X, X, X, X, X, X, X, X, X, X, X, X, X, X, X, X, X, X, X, X, X, X, X, X, I (↑s.length : Int), I (IntKind.i64.wrap ((↑i : Int) + (1 : Int)))] ++ List.replicate 28 X) (St.mk [] [] []) (kBlock 0 (kSeq Tryz.X133 (cd PP 133 [1, 1, 1]) (kRet Tryz.X133 133 Q))))) (WLoop Tryz.X133 (cd PP 133 [1, 1, 0, 1, 0, 0]) ([AV.str s, X, X, X, X, X, X, X, X, X, X, X, X, X, X, X, X, X, X, X, X, X, X, X, X, X, X, I (↑s.length : Int), I (IntKind.i64.wrap ((↑i : Int) + (1 : Int)))] ++ List.replicate 28 X) (St.mk [] [] []) (kBlock 0 (kSeq Tryz.X133 (cd PP 133 [1, 1, 1]) (kRet Tryz.X133 133 Q))))) (cIf (decide ((↑(s.getD i (0 : UInt8)).toNat : Int) > (57 : Int))) (cIf ((↑(s.getD i (0 : UInt8)).toNat : Int) != (32 : Int)) (cIf ((↑(s.getD i (0 : UInt8)).toNat : Int) != (45 : Int)) (Q (CR.ret (Bo false))) (WLoop Tryz.X133 (cd PP 133 [1, 1, 0, 1, 0, 0]) ([AV.str s, X, X, X, X, X, X, X, X, X, X, X, X, X, X, X, X, X, X, X, X, X, X, X, X, X, X, I (↑s.length : Int), I (IntKind.i64.wrap ((↑i : Int) + (1 : Int)))] ++ List.replicate 28 X) (St.mk [] [] []) (kBlock 0 (kSeq Tryz.X133 (cd PP 133 [1, 1, 1]) (kRet Tryz.X133 133 Q))))) (WLoop Tryz.X133 (cd PP 133 [1, 1, 0, 1, 0, 0]) ([AV.str s, X, X, X, X, X, X, X, X, X, X, X, X, X, X, X, X, X, X, X, X, X, X, X, X, X, X, I (↑s.length : Int), I (IntKind.i64.wrap ((↑i : Int) + (1 : Int)))] ++ List.replicate 28 X) (St.mk [] [] []) (kBlock 0 (kSeq Tryz.X133 (cd PP 133 [1, 1, 1]) (kRet Tryz.X133 133 Q))))) (WLoop Tryz.X133 (cd PP 133 [1, 1, 0, 1, 0, 0]) ([AV.str s, X, X, X, X, X, X, X, X, X, X, X, X, X, X, X, X, X, X, X, X, X, X, X, X, X, X, I (↑s.length : Int), I (IntKind.i64.wrap ((↑i : Int) + (1 : Int)))] ++ List.replicate 28 X) (St.mk [] [] []) (kBlock 0 (kSeq Tryz.X133 (cd PP 133 [1, 1, 1]) (kRet Tryz.X133 133 Q)))))) (WLoop Tryz.X133 (cd PP 133 [1, 1, 0, 1, 0, 0]) ([AV.str s, X, X, X, X, X, X, X, X, X, X, X, X, X, X, X, X, X, X, X, X, X, X, X, X, X, X, I (↑s.length : Int), I (IntKind.i64.wrap ((↑i : Int) + (1 : Int)))] ++ List.replicate 28 X) (St.mk [] [] []) (kBlock 0 (kSeq Tryz.X133 (cd PP 133 [1, 1, 1]) (kRet Tryz.X133 133 Q)))))) False) (Q (CR.ret (Bo true)))) := by kernel_rfl
theorem v134 (s : List UInt8) (Q : CR → Prop) : wpF Tryz.X134 134 [.str s] Q =
  (cIf (decide ((↑s.length : Int) < (1 : Int))) (Q (CR.ret (Bo false))) (cIf (decide ((↑s.length : Int) > (24 : Int))) (Q (CR.ret (Bo false))) (cIf (decide (0 < s.length)) (cIf ((↑(s.getD 0 (0 : UInt8)).toNat : Int) == (32 : Int)) (Q (CR.ret (Bo false))) (cIf (decide ((0 : Int) ≤ IntKind.i64.wrap ((↑s.length : Int) - (1 : Int)))) (cIf (decide ((IntKind.i64.wrap ((↑s.length : Int) - (1 : Int))).toNat < s.length)) (cIf ((↑(s.getD (IntKind.i64.wrap ((↑s.length : Int) - (1 : Int))).toNat (0 : UInt8)).toNat : Int) == (32 : Int)) (Q (CR.ret (Bo false))) (WLoop Tryz.X134 (cd Tryz.X134.P 134 [1, 1, 0, 1, 0, 0]) ([AV.str s, X, X, I (0 : Int)] ++ List.replicate 54 X) (St.mk [] [] []) (kBlock 0 (kSeq Tryz.X134 (cd Tryz.X134.P 134 [1, 1, 1]) (kRet Tryz.X134 134 Q))))) False) False)) False))) := by kernel_rfl
theorem v134l (s : List UInt8) (i : Nat) (Q : CR → Prop) : wpC Tryz.X134 (cd PP 134 [1, 1, 0, 1, 0, 0]) ([.str s, X, X, I i] ++ List.replicate 54 X) ⟨[], [], []⟩ (kLoop Tryz.X134 (cd PP 134 [1, 1, 0, 1, 0, 0]) (kBlock 0 (kSeq Tryz.X134 (cd PP 134 [1, 1, 1]) (kRet Tryz.X134 134 Q)))) =
  (cIf (decide ((↑i : Int) < (↑s.length : Int))) (cIf (decide (i < s.length)) (cIf (decide ((↑(s.getD i (0 : UInt8)).toNat : Int) ≥ (97 : Int))) (cIf (decide ((↑(s.getD i (0 : UInt8)).toNat : Int) ≤ (122 : Int))) (WLoop Tryz.X134 (cd PP 134 [1, 1, 0, 1, 0, 0]) ([AV.str s, X, X, I (IntKind.i64.wrap ((↑i : Int) + (1 : Int)))] ++ List.replicate 54 X) (St.mk [] [] []) (kBlock 0 (kSeq Tryz.X134 (cd PP 134 [1, 1, 1]) (kRet Tryz.X134 134 Q)))) (cIf (decide ((↑(s.getD i (0 : UInt8)).toNat : Int) ≥ (48 : Int))) (cIf (decide ((↑(s.getD i (0 : UInt8)).toNat : Int) ≤ (57 : Int))) (WLoop Tryz.X134 (cd PP 134 [1, 1, 0, 1, 0, 0]) ([AV.str s, X, X, I (IntKind.i64.wrap ((↑i : Int) + (1 : Int)))] ++ List.replicate 54 X) (St.mk [] [] []) (kBlock 0 (kSeq Tryz.X134 (cd PP 134 [1, 1, 1]) (kRet Tryz.X134 134 Q)))) (cIf ((↑(s.getD i (0 : UInt8)).toNat : Int) == (32 : Int)) (WLoop Tryz.X134 (cd PP 134 [1, 1, 0, 1, 0, 0]) ([AV.str s, X, X, I (IntKind.i64.wrap ((↑i : Int) + (1 : Int)))] ++ List.replicate 54 X) (St.mk [] [] []) (kBlock 0 (kSeq Tryz.X134 (cd PP 134 [1, 1, 1]) (kRet Tryz.X134 134 Q)))) (cIf (!(↑(s.getD i (0 : UInt8)).toNat : Int) == (45 : Int)) (Q (CR.ret (Bo false))) (WLoop Tryz.X134 (cd PP 134 [1, 1, 0, 1, 0, 0]) ([AV.str s, X, X, I (IntKind.i64.wrap ((↑i : Int) + (1 : Int)))] ++ List.replicate 54 X) (St.mk [] [] []) (kBlock 0 (kSeq Tryz.X134 (cd PP 134 [1, 1, 1]) (kRet Tryz.X134 134 Q))))))) (cIf ((↑(s.getD i (0 : UInt8)).toNat : Int) == (32 : Int)) (WLoop Tryz.X134 (cd PP 134 [1, 1, 0, 1, 0, 0]) ([AV.str s, X, X, I (IntKind.i64.wrap ((↑i : Int) + (1 : Int)))] ++ List.replicate 54 X) (St.mk [] [] []) (kBlock 0 (kSeq Tryz.X134 (cd PP 134 [1, 1, 1]) (kRet Tryz.X134 134 Q)))) (cIf (!(↑(s.getD i (0 : UInt8)).toNat : Int) == (45 : Int)) (Q (CR.ret (Bo false))) (WLoop Tryz.X134 (cd PP 134 [1, 1, 0, 1, 0, 0]) ([AV.str s, X, X, I (IntKind.i64.wrap ((↑i : Int) + (1 : Int)))] ++ List.replicate 54 X) (St.mk [] [] []) (kBlock 0 (kSeq Tryz.X134 (cd PP 134 [1, 1, 1]) (kRet Tryz.X134 134 Q)))))))) (cIf (decide ((↑(s.getD i (0 : UInt8)).toNat : Int) ≥ (48 : Int))) (cIf (decide ((↑(s.getD i (0 : UInt8)).toNat : Int) ≤ (57 : Int))) (WLoop Tryz.X134 (cd PP 134 [1, 1, 0, 1, 0, 0]) ([AV.str s, X, X, I (IntKind.i64.wrap ((↑i : Int) + (1 : Int)))] ++ List.replicate 54 X) (St.mk [] [] []) (kBlock 0 (kSeq Tryz.X134 (cd PP 134 [1, 1, 1]) (kRet Tryz.X134 134 Q)))) (cIf ((↑(s.getD i (0 : UInt8)).toNat : Int) == (32 : Int)) (WLoop Tryz.X134 (cd PP 134 [1, 1, 0, 1, 0, 0]) ([AV.str s, X, X, I (IntKind.i64.wrap ((↑i : Int) + (1 : Int)))] ++ List.replicate 54 X) (St.mk [] [] []) (kBlock 0 (kSeq Tryz.X134 (cd PP 134 [1, 1, 1]) (kRet Tryz.X134 134 Q)))) (cIf (!(↑(s.getD i (0 : UInt8)).toNat : Int) == (45 : Int)) (Q (CR.ret (Bo false))) (WLoop Tryz.X134 (cd PP 134 [1, 1, 0, 1, 0, 0]) ([AV.str s, X, X, I (IntKind.i64.wrap ((↑i : Int) + (1 : Int)))] ++ List.replicate 54 X) (St.mk [] [] []) (kBlock 0 (kSeq Tryz.X134 (cd PP 134 [1, 1, 1]) (kRet Tryz.X134 134 Q))))))) (cIf ((↑(s.getD i (0 : UInt8)).toNat : Int) == (32 : Int)) (WLoop Tryz.X134 (cd PP 134 [1, 1, 0, 1, 0, 0]) ([AV.str s, X, X, I (IntKind.i64.wrap ((↑i : Int) + (1 : Int)))] ++ List.replicate 54 X) (St.mk [] [] []) (kBlock 0 (kSeq Tryz.X134 (cd PP 134 [1, 1, 1]) (kRet Tryz.X134 134 Q)))) (cIf (!(↑(s.getD i (0 : UInt8)).toNat : Int) == (45 : Int)) (Q (CR.ret (Bo false))) (WLoop Tryz.X134 (cd PP 134 [1, 1, 0, 1, 0, 0]) ([AV.str s, X, X, I (IntKind.i64.wrap ((↑i : Int) + (1 : Int)))] ++ List.replicate 54 X) (St.mk [] [] []) (kBlock 0 (kSeq Tryz.X134 (cd PP 134 [1, 1, 1]) (kRet Tryz.X134 134 Q)))))))) False) (Q (CR.ret (Bo true)))) := by kernel_rfl
theorem v64 (l : List AV) (len : Nat) (st day : Int) (Q : CR → Prop) : wpF Tryz.X64 64 [.vs l len .none, I st, I day] Q =
  (cIf (noHL 0 ([AV.vs l len Tok.none, I st, I day, X, X, X, X, X, I (-1 : Int), X, X, AV.vs l len Tok.none, I (↑len : Int), I (0 : Int)] ++ List.replicate 37 X)) (WLoop Tryz.X64 (cd Tryz.X64.P 64 [1, 1, 0, 1, 0, 0]) ([AV.vs l len Tok.none, I st, I day, X, X, X, X, X, I (-1 : Int), X, X, AV.vs l len Tok.none, I (↑len : Int), I (0 : Int)] ++ List.replicate 37 X) (St.mk [] [] []) (kBlock 0 (kSeq Tryz.X64 (cd Tryz.X64.P 64 [1, 1, 1]) (kRet Tryz.X64 64 Q)))) False) := by kernel_rfl
theorem v64l (l : List AV) (len i : Nat) (st day b : Int) (Q : CR → Prop) : wpC Tryz.X64 (cd PP 64 [1, 1, 0, 1, 0, 0]) ([.vs l len .none, I st, I day, X, X, X, X, X, I b, X, X, .vs l len .none, I len, I i] ++ List.replicate 37 X) ⟨[], [], []⟩ (kLoop Tryz.X64 (cd PP 64 [1, 1, 0, 1, 0, 0]) (kBlock 0 (kSeq Tryz.X64 (cd PP 64 [1, 1, 1]) (kRet Tryz.X64 64 Q)))) =
  (cIf (decide ((↑i : Int) < (↑len : Int))) (cIf (decide (i < len)) (cIf (decide (len * 3 = l.length)) (cIf (decide (3 ≤ (List.drop (i * 3) l).length)) (cIf (like [I (0 : Int), I (0 : Int), AV.str []] (el (List.drop (i * 3) l) 0 3)) (cIf (cI (el (List.drop (i * 3) l) 0 3) 0 == st) (cIf (decide (cI (el (List.drop (i * 3) l) 0 3) 1 ≤ day)) (cIf (decide (b < (0 : Int))) (cIf (noHL 0 ([AV.vs l len Tok.none, I st, I day, X, X, X, X, X, I (↑i : Int), X, X, AV.vs l len Tok.none, I (↑len : Int), I (IntKind.i64.wrap ((↑i : Int) + (1 : Int)))] ++ List.replicate 37 X)) (WLoop Tryz.X64 (cd PP 64 [1, 1, 0, 1, 0, 0]) ([AV.vs l len Tok.none, I st, I day, X, X, X, X, X, I (↑i : Int), X, X, AV.vs l len Tok.none, I (↑len : Int), I (IntKind.i64.wrap ((↑i : Int) + (1 : Int)))] ++ List.replicate 37 X) (St.mk [] [] []) (kBlock 0 (kSeq Tryz.X64 (cd PP 64 [1, 1, 1]) (kRet Tryz.X64 64 Q)))) False) (cIf (decide ((0 : Int) ≤ b)) (cIf (decide (b.toNat < len)) (cIf (decide (len * 3 = l.length)) (cIf (decide (0 < (List.drop 1 (List.drop (b.toNat * 3) l)).length)) (cIf (likeOk (AV.ofVal (Value.int IntKind.i64 (0 : Int))) ((List.drop 1 (List.drop (b.toNat * 3) l)).getD 0 X)) (cIf (decide (cI (el (List.drop (i * 3) l) 0 3) 1 ≥ cI (List.drop 1 (List.drop (b.toNat * 3) l)) 0)) (cIf (noHL 0 ([AV.vs l len Tok.none, I st, I day, X, X, X, X, X, I (↑i : Int), X, X, AV.vs l len Tok.none, I (↑len : Int), I (IntKind.i64.wrap ((↑i : Int) + (1 : Int)))] ++ List.replicate 37 X)) (WLoop Tryz.X64 (cd PP 64 [1, 1, 0, 1, 0, 0]) ([AV.vs l len Tok.none, I st, I day, X, X, X, X, X, I (↑i : Int), X, X, AV.vs l len Tok.none, I (↑len : Int), I (IntKind.i64.wrap ((↑i : Int) + (1 : Int)))] ++ List.replicate 37 X) (St.mk [] [] []) (kBlock 0 (kSeq Tryz.X64 (cd PP 64 [1, 1, 1]) (kRet Tryz.X64 64 Q)))) False) (cIf (noHL 0 ([AV.vs l len Tok.none, I st, I day, X, X, X, X, X, I b, X, X, AV.vs l len Tok.none, I (↑len : Int), I (IntKind.i64.wrap ((↑i : Int) + (1 : Int)))] ++ List.replicate 37 X)) (WLoop Tryz.X64 (cd PP 64 [1, 1, 0, 1, 0, 0]) ([AV.vs l len Tok.none, I st, I day, X, X, X, X, X, I b, X, X, AV.vs l len Tok.none, I (↑len : Int), I (IntKind.i64.wrap ((↑i : Int) + (1 : Int)))] ++ List.replicate 37 X) (St.mk [] [] []) (kBlock 0 (kSeq Tryz.X64 (cd PP 64 [1, 1, 1]) (kRet Tryz.X64 64 Q)))) False)) False) False) False) False) False)) (cIf (noHL 0 ([AV.vs l len Tok.none, I st, I day, X, X, X, X, X, I b, X, X, AV.vs l len Tok.none, I (↑len : Int), I (IntKind.i64.wrap ((↑i : Int) + (1 : Int)))] ++ List.replicate 37 X)) (WLoop Tryz.X64 (cd PP 64 [1, 1, 0, 1, 0, 0]) ([AV.vs l len Tok.none, I st, I day, X, X, X, X, X, I b, X, X, AV.vs l len Tok.none, I (↑len : Int), I (IntKind.i64.wrap ((↑i : Int) + (1 : Int)))] ++ List.replicate 37 X) (St.mk [] [] []) (kBlock 0 (kSeq Tryz.X64 (cd PP 64 [1, 1, 1]) (kRet Tryz.X64 64 Q)))) False)) (cIf (noHL 0 ([AV.vs l len Tok.none, I st, I day, X, X, X, X, X, I b, X, X, AV.vs l len Tok.none, I (↑len : Int), I (IntKind.i64.wrap ((↑i : Int) + (1 : Int)))] ++ List.replicate 37 X)) (WLoop Tryz.X64 (cd PP 64 [1, 1, 0, 1, 0, 0]) ([AV.vs l len Tok.none, I st, I day, X, X, X, X, X, I b, X, X, AV.vs l len Tok.none, I (↑len : Int), I (IntKind.i64.wrap ((↑i : Int) + (1 : Int)))] ++ List.replicate 37 X) (St.mk [] [] []) (kBlock 0 (kSeq Tryz.X64 (cd PP 64 [1, 1, 1]) (kRet Tryz.X64 64 Q)))) False)) False) False) False) False) (cIf (decide (b < (0 : Int))) (Q (CR.ret (AV.tup [AV.str [], Bo false]))) (cIf (decide ((0 : Int) ≤ b)) (cIf (decide (b.toNat < len)) (cIf (decide (len * 3 = l.length)) (cIf (decide (0 < (List.drop 2 (List.drop (b.toNat * 3) l)).length)) (cIf (likeOk (AV.ofVal (Value.string (ByteArray.mk #[]))) ((List.drop 2 (List.drop (b.toNat * 3) l)).getD 0 X)) (Q (CR.ret (AV.tup [AV.str (cS (List.drop 2 (List.drop (b.toNat * 3) l)) 0), Bo true]))) False) False) False) False) False))) := by kernel_rfl
theorem v65 (l : List AV) (len : Nat) (st day : Int) (Q : CR → Prop) : wpF Tryz.X65 65 [.vs l len .none, I st, I day] Q =
  (WLoop Tryz.X65 (cd Tryz.X65.P 65 [1, 1, 0, 1, 0, 0]) ([AV.vs l len Tok.none, I st, I day, X, X, X, X, X, I (-1 : Int), I (0 : Int)] ++ List.replicate 47 X) (St.mk [] [] []) (kBlock 0 (kSeq Tryz.X65 (cd Tryz.X65.P 65 [1, 1, 1]) (kRet Tryz.X65 65 Q)))) := by kernel_rfl
theorem v65l (l : List AV) (len i : Nat) (st day b : Int) (Q : CR → Prop) : wpC Tryz.X65 (cd PP 65 [1, 1, 0, 1, 0, 0]) ([.vs l len .none, I st, I day, X, X, X, X, X, I b, I i] ++ List.replicate 47 X) ⟨[], [], []⟩ (kLoop Tryz.X65 (cd PP 65 [1, 1, 0, 1, 0, 0]) (kBlock 0 (kSeq Tryz.X65 (cd PP 65 [1, 1, 1]) (kRet Tryz.X65 65 Q)))) =
  (cIf (decide ((↑i : Int) < (↑len : Int))) (cIf (decide (i < len)) (cIf (decide (len * 3 = l.length)) (cIf (decide (0 < (List.drop (i * 3) l).length)) (cIf (likeOk (AV.ofVal (Value.int IntKind.i64 (0 : Int))) ((List.drop (i * 3) l).getD 0 X)) (cIf (cI (List.drop (i * 3) l) 0 == st) (cIf (decide (i < len)) (cIf (decide (len * 3 = l.length)) (cIf (decide (0 < (List.drop 1 (List.drop (i * 3) l)).length)) (cIf (likeOk (AV.ofVal (Value.int IntKind.i64 (0 : Int))) ((List.drop 1 (List.drop (i * 3) l)).getD 0 X)) (cIf (decide (cI (List.drop 1 (List.drop (i * 3) l)) 0 ≤ day)) (cIf (decide (b < (0 : Int))) (WLoop Tryz.X65 (cd PP 65 [1, 1, 0, 1, 0, 0]) ([AV.vs l len Tok.none, I st, I day, X, X, X, X, X, I (↑i : Int), I (IntKind.i64.wrap ((↑i : Int) + (1 : Int)))] ++ List.replicate 47 X) (St.mk [] [] []) (kBlock 0 (kSeq Tryz.X65 (cd PP 65 [1, 1, 1]) (kRet Tryz.X65 65 Q)))) (cIf (decide (i < len)) (cIf (decide (len * 3 = l.length)) (cIf (decide (0 < (List.drop 1 (List.drop (i * 3) l)).length)) (cIf (likeOk (AV.ofVal (Value.int IntKind.i64 (0 : Int))) ((List.drop 1 (List.drop (i * 3) l)).getD 0 X)) (cIf (decide ((0 : Int) ≤ b)) (cIf (decide (b.toNat < len)) (cIf (decide (len * 3 = l.length)) (cIf (decide (0 < (List.drop 1 (List.drop (b.toNat * 3) l)).length)) (cIf (likeOk (AV.ofVal (Value.int IntKind.i64 (0 : Int))) ((List.drop 1 (List.drop (b.toNat * 3) l)).getD 0 X)) (cIf (decide (cI (List.drop 1 (List.drop (i * 3) l)) 0 ≥ cI (List.drop 1 (List.drop (b.toNat * 3) l)) 0)) (WLoop Tryz.X65 (cd PP 65 [1, 1, 0, 1, 0, 0]) ([AV.vs l len Tok.none, I st, I day, X, X, X, X, X, I (↑i : Int), I (IntKind.i64.wrap ((↑i : Int) + (1 : Int)))] ++ List.replicate 47 X) (St.mk [] [] []) (kBlock 0 (kSeq Tryz.X65 (cd PP 65 [1, 1, 1]) (kRet Tryz.X65 65 Q)))) (WLoop Tryz.X65 (cd PP 65 [1, 1, 0, 1, 0, 0]) ([AV.vs l len Tok.none, I st, I day, X, X, X, X, X, I b, I (IntKind.i64.wrap ((↑i : Int) + (1 : Int)))] ++ List.replicate 47 X) (St.mk [] [] []) (kBlock 0 (kSeq Tryz.X65 (cd PP 65 [1, 1, 1]) (kRet Tryz.X65 65 Q))))) False) False) False) False) False) False) False) False) False)) (WLoop Tryz.X65 (cd PP 65 [1, 1, 0, 1, 0, 0]) ([AV.vs l len Tok.none, I st, I day, X, X, X, X, X, I b, I (IntKind.i64.wrap ((↑i : Int) + (1 : Int)))] ++ List.replicate 47 X) (St.mk [] [] []) (kBlock 0 (kSeq Tryz.X65 (cd PP 65 [1, 1, 1]) (kRet Tryz.X65 65 Q))))) False) False) False) False) (WLoop Tryz.X65 (cd PP 65 [1, 1, 0, 1, 0, 0]) ([AV.vs l len Tok.none, I st, I day, X, X, X, X, X, I b, I (IntKind.i64.wrap ((↑i : Int) + (1 : Int)))] ++ List.replicate 47 X) (St.mk [] [] []) (kBlock 0 (kSeq Tryz.X65 (cd PP 65 [1, 1, 1]) (kRet Tryz.X65 65 Q))))) False) False) False) False) (cIf (decide (b < (0 : Int))) (Q (CR.ret (AV.tup [AV.str [], Bo false]))) (cIf (decide ((0 : Int) ≤ b)) (cIf (decide (b.toNat < len)) (cIf (decide (len * 3 = l.length)) (cIf (decide (0 < (List.drop 2 (List.drop (b.toNat * 3) l)).length)) (cIf (likeOk (AV.ofVal (Value.string (ByteArray.mk #[]))) ((List.drop 2 (List.drop (b.toNat * 3) l)).getD 0 X)) (Q (CR.ret (AV.tup [AV.str (cS (List.drop 2 (List.drop (b.toNat * 3) l)) 0), Bo true]))) False) False) False) False) False))) := by kernel_rfl
theorem v66 (l : List AV) (len : Nat) (Q : CR → Prop) : wpF Tryz.X66 66 [.vs l len .none] Q =
  (cIf (decide ((↑len : Int) > (100 : Int))) (Q (CR.ret (I (2 : Int)))) (cIf (noHL 0 ([X, X, X, X, X, X, X, X, AV.vs l len Tok.none, I (↑len : Int), I (0 : Int)] ++ List.replicate 24 X)) (WLoop Tryz.X66 (cd Tryz.X66.P 66 [1, 1, 0, 1, 0, 0]) ([X, X, X, X, X, X, X, X, AV.vs l len Tok.none, I (↑len : Int), I (0 : Int)] ++ List.replicate 24 X) (St.mk [] [] []) (kBlock 0 (kSeq Tryz.X66 (cd Tryz.X66.P 66 [1, 1, 1]) (kRet Tryz.X66 66 Q)))) False)) := by kernel_rfl
theorem v66l (l : List AV) (len i : Nat) (Q : CR → Prop) : wpC Tryz.X66 (cd PP 66 [1, 1, 0, 1, 0, 0]) ([X, X, X, X, X, X, X, X, .vs l len .none, I len, I i] ++ List.replicate 24 X) ⟨[], [], []⟩ (kLoop Tryz.X66 (cd PP 66 [1, 1, 0, 1, 0, 0]) (kBlock 0 (kSeq Tryz.X66 (cd PP 66 [1, 1, 1]) (kRet Tryz.X66 66 Q)))) =
  (cIf (decide ((↑i : Int) < (↑len : Int))) (cIf (decide (i < len)) (cIf (decide (len * 3 = l.length)) (cIf (decide (3 ≤ (List.drop (i * 3) l).length)) (cIf (like [I (0 : Int), I (0 : Int), AV.str []] (el (List.drop (i * 3) l) 0 3)) (True ∧ cIf (!(decide ((1 : Int) ≤ cI (el (List.drop (i * 3) l) 0 3) 0) && decide (cI (el (List.drop (i * 3) l) 0 3) 0 ≤ (1000000 : Int)))) (Q (CR.ret (I (1 : Int)))) (cIf (decide (cI (el (List.drop (i * 3) l) 0 3) 1 < (0 : Int))) (Q (CR.ret (I (1 : Int)))) (cIf (decide (cI (el (List.drop (i * 3) l) 0 3) 1 > (100000 : Int))) (Q (CR.ret (I (1 : Int)))) ((cS (el (List.drop (i * 3) l) 0 3) 2).length ≤ 9223372036854775807 ∧ cIf (!nameB (cS (el (List.drop (i * 3) l) 0 3) 2)) (Q (CR.ret (I (4 : Int)))) (cIf (noHL 0 ([X, X, X, X, X, X, X, X, AV.vs l len Tok.none, I (↑len : Int), I (IntKind.i64.wrap ((↑i : Int) + (1 : Int)))] ++ List.replicate 24 X)) (WLoop Tryz.X66 (cd PP 66 [1, 1, 0, 1, 0, 0]) ([X, X, X, X, X, X, X, X, AV.vs l len Tok.none, I (↑len : Int), I (IntKind.i64.wrap ((↑i : Int) + (1 : Int)))] ++ List.replicate 24 X) (St.mk [] [] []) (kBlock 0 (kSeq Tryz.X66 (cd PP 66 [1, 1, 1]) (kRet Tryz.X66 66 Q)))) False))))) False) False) False) False) (Q (CR.ret (I (0 : Int))))) := by kernel_rfl
theorem v67 (l : List AV) (len : Nat) (Q : CR → Prop) : wpF Tryz.X67 67 [.vs l len .none] Q =
  (cIf (decide ((↑len : Int) > (100 : Int))) (Q (CR.ret (I (2 : Int)))) (WLoop Tryz.X67 (cd Tryz.X67.P 67 [1, 1, 0, 1, 0, 0]) ([AV.vs l len Tok.none, X, X, I (0 : Int)] ++ List.replicate 38 X) (St.mk [] [] []) (kBlock 0 (kSeq Tryz.X67 (cd Tryz.X67.P 67 [1, 1, 1]) (kRet Tryz.X67 67 Q))))) := by kernel_rfl
theorem v67l (l : List AV) (len i : Nat) (Q : CR → Prop) : wpC Tryz.X67 (cd PP 67 [1, 1, 0, 1, 0, 0]) ([.vs l len .none, X, X, I i] ++ List.replicate 38 X) ⟨[], [], []⟩ (kLoop Tryz.X67 (cd PP 67 [1, 1, 0, 1, 0, 0]) (kBlock 0 (kSeq Tryz.X67 (cd PP 67 [1, 1, 1]) (kRet Tryz.X67 67 Q)))) =
  (cIf (decide ((↑i : Int) < (↑len : Int))) (cIf (decide (i < len)) (cIf (decide (len * 3 = l.length)) (cIf (decide (0 < (List.drop (i * 3) l).length)) (cIf (likeOk (AV.ofVal (Value.int IntKind.i64 (0 : Int))) ((List.drop (i * 3) l).getD 0 X)) (True ∧ cIf (decide (i < len)) (cIf (decide (len * 3 = l.length)) (cIf (decide (0 < (List.drop 1 (List.drop (i * 3) l)).length)) (cIf (likeOk (AV.ofVal (Value.int IntKind.i64 (0 : Int))) ((List.drop 1 (List.drop (i * 3) l)).getD 0 X)) (True ∧ cIf (!(decide ((1 : Int) ≤ cI (List.drop (i * 3) l) 0) && decide (cI (List.drop (i * 3) l) 0 ≤ (1000000 : Int)))) (Q (CR.ret (I (1 : Int)))) (cIf (!(decide ((0 : Int) ≤ cI (List.drop 1 (List.drop (i * 3) l)) 0) && decide (cI (List.drop 1 (List.drop (i * 3) l)) 0 ≤ (100000 : Int)))) (Q (CR.ret (I (1 : Int)))) (cIf (decide (i < len)) (cIf (decide (len * 3 = l.length)) (cIf (decide (0 < (List.drop 2 (List.drop (i * 3) l)).length)) (cIf (likeOk (AV.ofVal (Value.string (ByteArray.mk #[]))) ((List.drop 2 (List.drop (i * 3) l)).getD 0 X)) ((cS (List.drop 2 (List.drop (i * 3) l)) 0).length ≤ 9223372036854775807 ∧ cIf (!nameB (cS (List.drop 2 (List.drop (i * 3) l)) 0)) (Q (CR.ret (I (4 : Int)))) (WLoop Tryz.X67 (cd PP 67 [1, 1, 0, 1, 0, 0]) ([AV.vs l len Tok.none, X, X, I (IntKind.i64.wrap ((↑i : Int) + (1 : Int)))] ++ List.replicate 38 X) (St.mk [] [] []) (kBlock 0 (kSeq Tryz.X67 (cd PP 67 [1, 1, 1]) (kRet Tryz.X67 67 Q))))) False) False) False) False))) False) False) False) False) False) False) False) False) (Q (CR.ret (I (0 : Int))))) := by kernel_rfl
theorem v17 (l : List AV) (len : Nat) (st day : Int) (Q : CR → Prop) : wpF Tryz.X17 17 [.vs l len .none, I st, I day] Q =
  (cIf (decide ((↑len : Int) > (200 : Int))) (True ∧ Q (CR.ret (Bo true))) ((∃ (x : List Tun), l = encL encU x ∧ len = x.length ∧ x.length ≤ 1000) ∧ (∃ (x : List Tun), l = encL encU x ∧ len = x.length ∧ x.length ≤ 1000) ∧ True ∧ cIf ((onEnc (encL encU) (fun (x : List Tun) => antV x st day) ([], false) l).fst == (onEnc (encL encU) (fun (x : List Tun) => antV x st day) ([], false) l).fst) (cIf ((onEnc (encL encU) (fun (x : List Tun) => antV x st day) ([], false) l).snd == (onEnc (encL encU) (fun (x : List Tun) => antV x st day) ([], false) l).snd) ((∃ (x : List Tun), l = encL encU x ∧ len = x.length ∧ x.length ≤ 1000 ∧ ∀ (t : Tun), t ∈ x → okU t) ∧ (∃ (x : List Tun), l = encL encU x ∧ len = x.length ∧ x.length ≤ 1000 ∧ ∀ (t : Tun), t ∈ x → okU t) ∧ Q (CR.ret (Bo (onEnc (encL encU) chkU (0 : Int) l == onEnc (encL encU) chkU (0 : Int) l)))) (Q (CR.ret (Bo false)))) (Q (CR.ret (Bo false))))) := by kernel_rfl
end Go.Proofs
/-! TU -/
set_option maxRecDepth 100000
set_option linter.unusedVariables false
set_option linter.unusedSimpArgs false
namespace Go.Proofs
open Go Go.Ev
theorem ct132 : Ct Tryz.B.c0 132 R132 := Ct.of_wp (lm := lm132) Tryz.bok (Cts.nil _) ⟨_, _, Tryz.func132, rfl⟩ fun args D r hR hD => by
  unfold R132 at hR
  split at hR <;> cases hR
  refine ⟨rfl, (v132 _ _).mpr ?_⟩
  repeat' (refine cIf_intro (fun h => ?_) (fun h => ?_))
  all_goals (apply rB_eq; simp at *; omega)
theorem named_loop {s : List UInt8} (hs : s.length ≤ 9223372036854775807) (Q : CR → Prop) : ∀ (d i : Nat), s.length - i = d → i ≤ s.length → Q (rB ((s.drop i).all fun c => charB (c.toNat : Int))) →
    WLoop Tryz.X133 (cd PP 133 [1, 1, 0, 1, 0, 0]) ([.str s, X, X, X, X, X, X, X, X, X, X, X, X, X, X, X, X, X, X, X, X, X, X, X, X, X, X, I s.length, I i] ++ List.replicate 28 X) ⟨[], [], []⟩ (kBlock 0 (kSeq Tryz.X133 (cd PP 133 [1, 1, 1]) (kRet Tryz.X133 133 Q))) := by
  intro d
  induction d with
  | zero =>
    intro i hd hi hQ
    have hi' : i = s.length := by omega
    subst hi'
    refine WLoop_step Tryz.bok (Cts.nil _) ((v133l s _ Q).mpr (cIf_neg (by simp) ?_))
    simpa using hQ
  | succ d ih =>
    intro i hd hi hQ
    have hlt : i < s.length := by omega
    obtain ⟨c, hc, hdr⟩ := drop_cons hlt
    rw [hdr, List.all_cons] at hQ
    refine WLoop_step Tryz.bok (Cts.nil _) ((v133l s _ Q).mpr (cIf_pos (by simp; omega) (cIf_pos (by simpa using hlt) ?_)))
    rw [getD_of hc, wrap_id (x := (i : Int) + 1) (by omega) (by omega)]
    have hT : charB (c.toNat : Int) = true → WLoop Tryz.X133 (cd PP 133 [1, 1, 0, 1, 0, 0]) ([.str s, X, X, X, X, X, X, X, X, X, X, X, X, X, X, X, X, X, X, X, X, X, X, X, X, X, X, I s.length, I ((i : Int) + 1)] ++ List.replicate 28 X) ⟨[], [], []⟩ (kBlock 0 (kSeq Tryz.X133 (cd PP 133 [1, 1, 1]) (kRet Tryz.X133 133 Q))) := fun h => by
      rw [h, Bool.true_and] at hQ
      exact ih (i + 1) (by omega) (by omega) hQ
    have hF : charB (c.toNat : Int) = false → Q (CR.ret (Bo false)) := fun h => by
      rw [h, Bool.false_and] at hQ
      exact hQ
    clear hQ ih
    generalize (c.toNat : Int) = n at hT hF ⊢
    repeat' (refine cIf_intro (fun h => ?_) (fun h => ?_))
    all_goals (first | (refine hT ?_; clear hT hF; simp [charB] at *; omega) | (refine hF ?_; clear hT hF; simp [charB] at *; omega))
theorem isname_loop {s : List UInt8} (hs : s.length ≤ 9223372036854775807) (Q : CR → Prop) : ∀ (d i : Nat), s.length - i = d → i ≤ s.length → Q (rB ((s.drop i).all fun c => charB (c.toNat : Int))) →
    WLoop Tryz.X134 (cd PP 134 [1, 1, 0, 1, 0, 0]) ([.str s, X, X, I i] ++ List.replicate 54 X) ⟨[], [], []⟩ (kBlock 0 (kSeq Tryz.X134 (cd PP 134 [1, 1, 1]) (kRet Tryz.X134 134 Q))) := by
  intro d
  induction d with
  | zero =>
    intro i hd hi hQ
    have hi' : i = s.length := by omega
    subst hi'
    refine WLoop_step Tryz.bok (Cts.nil _) ((v134l s _ Q).mpr (cIf_neg (by simp) ?_))
    simpa using hQ
  | succ d ih =>
    intro i hd hi hQ
    have hlt : i < s.length := by omega
    obtain ⟨c, hc, hdr⟩ := drop_cons hlt
    rw [hdr, List.all_cons] at hQ
    refine WLoop_step Tryz.bok (Cts.nil _) ((v134l s _ Q).mpr (cIf_pos (by simp; omega) (cIf_pos (by simpa using hlt) ?_)))
    rw [getD_of hc, wrap_id (x := (i : Int) + 1) (by omega) (by omega)]
    have hT : charB (c.toNat : Int) = true → WLoop Tryz.X134 (cd PP 134 [1, 1, 0, 1, 0, 0]) ([.str s, X, X, I ((i : Int) + 1)] ++ List.replicate 54 X) ⟨[], [], []⟩ (kBlock 0 (kSeq Tryz.X134 (cd PP 134 [1, 1, 1]) (kRet Tryz.X134 134 Q))) := fun h => by
      rw [h, Bool.true_and] at hQ
      exact ih (i + 1) (by omega) (by omega) hQ
    have hF : charB (c.toNat : Int) = false → Q (CR.ret (Bo false)) := fun h => by
      rw [h, Bool.false_and] at hQ
      exact hQ
    clear hQ ih
    generalize (c.toNat : Int) = n at hT hF ⊢
    repeat' (refine cIf_intro (fun h => ?_) (fun h => ?_))
    all_goals (first | (refine hT ?_; clear hT hF; simp [charB] at *; omega) | (refine hF ?_; clear hT hF; simp [charB] at *; omega))
theorem nameB_parts {s : List UInt8} (h1 : 1 ≤ s.length) (h2 : s.length ≤ 24) (h3 : ((s.getD 0 0).toNat : Int) ≠ 32) (h4 : ((s.getD (s.length - 1) 0).toNat : Int) ≠ 32) : nameB s = s.all fun c => charB (c.toNat : Int) := by
  unfold nameB
  rw [dt h1, dt h2, df h3, df h4]
  rfl
theorem nameB_n0 {s : List UInt8} (h : s.length = 0) : nameB s = false := by
  unfold nameB; rw [df (by omega : ¬ 1 ≤ s.length)]; simp only [Bool.false_and]
theorem nameB_n3 {s : List UInt8} (h : ((s.getD 0 0).toNat : Int) = 32) : nameB s = false := by
  unfold nameB; rw [dt h]; simp only [Bool.not_true, Bool.and_false, Bool.false_and]
theorem nameB_n4 {s : List UInt8} (h : ((s.getD (s.length - 1) 0).toNat : Int) = 32) : nameB s = false := by
  unfold nameB; rw [dt h]; simp only [Bool.not_true, Bool.and_false, Bool.false_and]
theorem ct133 : Ct Tryz.B.c0 133 R133 := Ct.of_wp (lm := lm133) Tryz.bok (Cts.nil _) ⟨_, _, Tryz.func133, rfl⟩ fun args D r hR hD => by
  unfold R133 at hR
  split at hR <;> cases hR
  rename_i s
  refine ⟨rfl, (v133 s _).mpr ?_⟩
  refine cIf_intro (fun h => ?_) (fun h => cIf_intro (fun h1 => ?_) (fun h1 => cIf_pos ?_ (cIf_intro (fun h2 => ?_) (fun h2 => ?_))))
  · have h : s.length = 0 := by have := of_decide_eq_true h; omega
    rw [nameB_n0 h]
  · have h1 : ¬ s.length ≤ 24 := by simp at h1; omega
    apply rB_eq; simp [nameB, h1]
  · simp at h ⊢; omega
  · have h2 : ((s.getD 0 0).toNat : Int) = 32 := by simpa only [beq_iff_eq] using h2
    rw [nameB_n3 h2]
  · have h : 1 ≤ s.length := by simp at h; omega
    have h1 : s.length ≤ 24 := by simp at h1; omega
    rw [wrap_id (x := (s.length : Int) - 1) (by omega) (by omega), show ((s.length : Int) - 1).toNat = s.length - 1 by omega]
    refine cIf_pos (by simp; omega) (cIf_pos (by simp; omega) (cIf_intro (fun h3 => ?_) (fun h3 => ?_)))
    · have h3 : ((s.getD (s.length - 1) 0).toNat : Int) = 32 := by simpa only [beq_iff_eq] using h3
      rw [nameB_n4 h3]
    · refine named_loop hD _ _ 0 rfl (Nat.zero_le _) ?_
      rw [nameB_parts h h1 (by simpa only [beq_eq_false_iff_ne] using h2) (by simpa only [beq_eq_false_iff_ne] using h3)]
      rfl
theorem ct134 : Ct Tryz.B.c0 134 R133 := Ct.of_wp (lm := lm134) Tryz.bok (Cts.nil _) ⟨_, _, Tryz.func134, rfl⟩ fun args D r hR hD => by
  unfold R133 at hR
  split at hR <;> cases hR
  rename_i s
  refine ⟨rfl, (v134 s _).mpr ?_⟩
  refine cIf_intro (fun h => ?_) (fun h => cIf_intro (fun h1 => ?_) (fun h1 => cIf_pos ?_ (cIf_intro (fun h2 => ?_) (fun h2 => ?_))))
  · have h : s.length = 0 := by have := of_decide_eq_true h; omega
    rw [nameB_n0 h]
  · have h1 : ¬ s.length ≤ 24 := by simp at h1; omega
    apply rB_eq; simp [nameB, h1]
  · simp at h ⊢; omega
  · have h2 : ((s.getD 0 0).toNat : Int) = 32 := by simpa only [beq_iff_eq] using h2
    rw [nameB_n3 h2]
  · have h : 1 ≤ s.length := by simp at h; omega
    have h1 : s.length ≤ 24 := by simp at h1; omega
    rw [wrap_id (x := (s.length : Int) - 1) (by omega) (by omega), show ((s.length : Int) - 1).toNat = s.length - 1 by omega]
    refine cIf_pos (by simp; omega) (cIf_pos (by simp; omega) (cIf_intro (fun h3 => ?_) (fun h3 => ?_)))
    · have h3 : ((s.getD (s.length - 1) 0).toNat : Int) = 32 := by simpa only [beq_iff_eq] using h3
      rw [nameB_n4 h3]
    · refine isname_loop hD _ _ 0 rfl (Nat.zero_le _) ?_
      rw [nameB_parts h h1 (by simpa only [beq_eq_false_iff_ne] using h2) (by simpa only [beq_eq_false_iff_ne] using h3)]
      rfl


section
variable {xs : List Tun} (hlen : xs.length ≤ 1000) {st day : Int}
include hlen
def antR (xs : List Tun) (b : Int) : List UInt8 × Bool := if b < 0 then ([], false) else ((xs.getD b.toNat zTun).nm, true)
theorem anthem_loop (Q : CR → Prop) : ∀ (d i : Nat) (b : Int), xs.length - i = d → i ≤ xs.length → (b = -1 ∨ ∃ k : Nat, b = k ∧ k < xs.length) → Q (.ret (.tup [.str (antR xs (antF xs st day (xs.drop i) i b)).1, Bo (antR xs (antF xs st day (xs.drop i) i b)).2])) →
    WLoop Tryz.X64 (cd PP 64 [1, 1, 0, 1, 0, 0]) ([.vs (encL encU xs) xs.length .none, I st, I day, X, X, X, X, X, I b, X, X, .vs (encL encU xs) xs.length .none, I xs.length, I i] ++ List.replicate 37 X) ⟨[], [], []⟩ (kBlock 0 (kSeq Tryz.X64 (cd PP 64 [1, 1, 1]) (kRet Tryz.X64 64 Q))) := by
  intro d
  induction d with
  | zero =>
    intro i b hd hi hb hQ
    have hi' : i = xs.length := by omega
    subst hi'
    refine WLoop_step Tryz.bok (Cts.nil _) ((v64l _ _ _ _ _ _ Q).mpr (cIf_neg (by simp) ?_))
    rw [List.drop_length] at hQ
    simp only [antF] at hQ
    rcases hb with rfl | ⟨k, rfl, hk⟩
    · exact cIf_pos rfl hQ
    · obtain ⟨y, hy, _⟩ := drop_cons hk
      have h0 : ¬ ((k : Int) < 0) := by omega
      simp only [df h0, dt (Int.natCast_nonneg k), Int.toNat_natCast, dt hk, eU.gl, eU.gd hk, eU.g0 hk (by decide), eU.el hy, eU.ld0 hy (by decide), U_like, eU.cI0 hy (by decide), U_lk0, U_c0, eU.gf hk 1 (by decide), eU.ld hy 1 (by decide), eU.cI hy 1 (by decide), U_lk1, U_c1, eU.gf hk 2 (by decide), eU.ld hy 2 (by decide), eU.cS hy 2 (by decide), U_lk2, U_c2, cIf_true, cIf_false]
      unfold antR at hQ
      rw [if_neg h0, Int.toNat_natCast, getD_of hy] at hQ
      exact hQ
  | succ d ih =>
    intro i b hd hi
    have hlt : i < xs.length := by omega
    have e1 : xs.length - (i + 1) = d := by omega
    have w1 : IntKind.i64.wrap ((i : Int) + 1) = i + 1 := wrap_id (by omega) (by omega)
    have h1 : (i : Int) < xs.length := by omega
    intro hb hQ
    obtain ⟨x, hx, hdr⟩ := drop_cons hlt
    rw [hdr] at hQ
    simp only [antF] at hQ
    refine WLoop_step Tryz.bok (Cts.nil _) ((v64l _ _ _ _ _ _ Q).mpr ?_)
    simp only [dt h1, dt hlt, eU.gl, eU.gd hlt, eU.g0 hlt (by decide), eU.el hx, eU.ld0 hx (by decide), U_like, eU.cI0 hx (by decide), U_lk0, U_c0, eU.gf hlt 1 (by decide), eU.ld hx 1 (by decide), eU.cI hx 1 (by decide), U_lk1, U_c1, eU.gf hlt 2 (by decide), eU.ld hx 2 (by decide), eU.cS hx 2 (by decide), U_lk2, U_c2, noHL_append, noHL, noH, eU.noHL', noHL_rep, Bool.true_and, Bool.and_true, cIf_true, w1]
    have hT : (decide (x.st = st) && decide (x.si ≤ day) && (decide (b < 0) || decide (x.si ≥ (xs.getD b.toNat zTun).si))) = true → WLoop Tryz.X64 (cd PP 64 [1, 1, 0, 1, 0, 0]) ([.vs (encL encU xs) xs.length .none, I st, I day, X, X, X, X, X, I i, X, X, .vs (encL encU xs) xs.length .none, I xs.length, I ((i : Int) + 1)] ++ List.replicate 37 X) ⟨[], [], []⟩ (kBlock 0 (kSeq Tryz.X64 (cd PP 64 [1, 1, 1]) (kRet Tryz.X64 64 Q))) := fun h => by
      rw [if_pos h] at hQ
      exact ih (i + 1) i e1 hlt (.inr ⟨i, rfl, hlt⟩) hQ
    have hF : (decide (x.st = st) && decide (x.si ≤ day) && (decide (b < 0) || decide (x.si ≥ (xs.getD b.toNat zTun).si))) = false → WLoop Tryz.X64 (cd PP 64 [1, 1, 0, 1, 0, 0]) ([.vs (encL encU xs) xs.length .none, I st, I day, X, X, X, X, X, I b, X, X, .vs (encL encU xs) xs.length .none, I xs.length, I ((i : Int) + 1)] ++ List.replicate 37 X) ⟨[], [], []⟩ (kBlock 0 (kSeq Tryz.X64 (cd PP 64 [1, 1, 1]) (kRet Tryz.X64 64 Q))) := fun h => by
      rw [if_neg (by rw [h]; simp)] at hQ
      exact ih (i + 1) b e1 hlt hb hQ
    clear hQ ih
    rcases hb with rfl | ⟨k, rfl, hk⟩
    · simp only [show decide ((-1 : Int) < 0) = true from rfl, cIf_true, Bool.true_or, Bool.and_true] at hT hF ⊢
      repeat' (refine cIf_intro (fun h => ?_) (fun h => ?_))
      all_goals (first | (refine hT ?_; clear hT hF; simp_all; done) | (refine hF ?_; clear hT hF; simp_all; done) | (refine hF ?_; clear hT hF; simp_all; omega))
    · obtain ⟨y, hy, _⟩ := drop_cons hk
      have h0 : ¬ ((k : Int) < 0) := by omega
      simp only [df h0, dt (Int.natCast_nonneg k), Int.toNat_natCast, dt hk, eU.gl, eU.gd hk, eU.g0 hk (by decide), eU.el hy, eU.ld0 hy (by decide), U_like, eU.cI0 hy (by decide), U_lk0, U_c0, eU.gf hk 1 (by decide), eU.ld hy 1 (by decide), eU.cI hy 1 (by decide), U_lk1, U_c1, eU.gf hk 2 (by decide), eU.ld hy 2 (by decide), eU.cS hy 2 (by decide), U_lk2, U_c2, cIf_true, cIf_false, Bool.false_or, getD_of hy] at hT hF ⊢
      repeat' (refine cIf_intro (fun h => ?_) (fun h => ?_))
      all_goals (first | (refine hT ?_; clear hT hF; simp_all; done) | (refine hF ?_; clear hT hF; simp_all; done) | (refine hF ?_; clear hT hF; simp_all; omega))
theorem anthemR_loop (Q : CR → Prop) : ∀ (d i : Nat) (b : Int), xs.length - i = d → i ≤ xs.length → (b = -1 ∨ ∃ k : Nat, b = k ∧ k < xs.length) → Q (.ret (.tup [.str (antR xs (antF xs st day (xs.drop i) i b)).1, Bo (antR xs (antF xs st day (xs.drop i) i b)).2])) →
    WLoop Tryz.X65 (cd PP 65 [1, 1, 0, 1, 0, 0]) ([.vs (encL encU xs) xs.length .none, I st, I day, X, X, X, X, X, I b, I i] ++ List.replicate 47 X) ⟨[], [], []⟩ (kBlock 0 (kSeq Tryz.X65 (cd PP 65 [1, 1, 1]) (kRet Tryz.X65 65 Q))) := by
  intro d
  induction d with
  | zero =>
    intro i b hd hi hb hQ
    have hi' : i = xs.length := by omega
    subst hi'
    refine WLoop_step Tryz.bok (Cts.nil _) ((v65l _ _ _ _ _ _ Q).mpr (cIf_neg (by simp) ?_))
    rw [List.drop_length] at hQ
    simp only [antF] at hQ
    rcases hb with rfl | ⟨k, rfl, hk⟩
    · exact cIf_pos rfl hQ
    · obtain ⟨y, hy, _⟩ := drop_cons hk
      have h0 : ¬ ((k : Int) < 0) := by omega
      simp only [df h0, dt (Int.natCast_nonneg k), Int.toNat_natCast, dt hk, eU.gl, eU.gd hk, eU.g0 hk (by decide), eU.el hy, eU.ld0 hy (by decide), U_like, eU.cI0 hy (by decide), U_lk0, U_c0, eU.gf hk 1 (by decide), eU.ld hy 1 (by decide), eU.cI hy 1 (by decide), U_lk1, U_c1, eU.gf hk 2 (by decide), eU.ld hy 2 (by decide), eU.cS hy 2 (by decide), U_lk2, U_c2, cIf_true, cIf_false]
      unfold antR at hQ
      rw [if_neg h0, Int.toNat_natCast, getD_of hy] at hQ
      exact hQ
  | succ d ih =>
    intro i b hd hi
    have hlt : i < xs.length := by omega
    have e1 : xs.length - (i + 1) = d := by omega
    have w1 : IntKind.i64.wrap ((i : Int) + 1) = i + 1 := wrap_id (by omega) (by omega)
    have h1 : (i : Int) < xs.length := by omega
    intro hb hQ
    obtain ⟨x, hx, hdr⟩ := drop_cons hlt
    rw [hdr] at hQ
    simp only [antF] at hQ
    refine WLoop_step Tryz.bok (Cts.nil _) ((v65l _ _ _ _ _ _ Q).mpr ?_)
    simp only [dt h1, dt hlt, eU.gl, eU.gd hlt, eU.g0 hlt (by decide), eU.el hx, eU.ld0 hx (by decide), U_like, eU.cI0 hx (by decide), U_lk0, U_c0, eU.gf hlt 1 (by decide), eU.ld hx 1 (by decide), eU.cI hx 1 (by decide), U_lk1, U_c1, eU.gf hlt 2 (by decide), eU.ld hx 2 (by decide), eU.cS hx 2 (by decide), U_lk2, U_c2, noHL_append, noHL, noH, eU.noHL', noHL_rep, Bool.true_and, Bool.and_true, cIf_true, w1]
    have hT : (decide (x.st = st) && decide (x.si ≤ day) && (decide (b < 0) || decide (x.si ≥ (xs.getD b.toNat zTun).si))) = true → WLoop Tryz.X65 (cd PP 65 [1, 1, 0, 1, 0, 0]) ([.vs (encL encU xs) xs.length .none, I st, I day, X, X, X, X, X, I i, I ((i : Int) + 1)] ++ List.replicate 47 X) ⟨[], [], []⟩ (kBlock 0 (kSeq Tryz.X65 (cd PP 65 [1, 1, 1]) (kRet Tryz.X65 65 Q))) := fun h => by
      rw [if_pos h] at hQ
      exact ih (i + 1) i e1 hlt (.inr ⟨i, rfl, hlt⟩) hQ
    have hF : (decide (x.st = st) && decide (x.si ≤ day) && (decide (b < 0) || decide (x.si ≥ (xs.getD b.toNat zTun).si))) = false → WLoop Tryz.X65 (cd PP 65 [1, 1, 0, 1, 0, 0]) ([.vs (encL encU xs) xs.length .none, I st, I day, X, X, X, X, X, I b, I ((i : Int) + 1)] ++ List.replicate 47 X) ⟨[], [], []⟩ (kBlock 0 (kSeq Tryz.X65 (cd PP 65 [1, 1, 1]) (kRet Tryz.X65 65 Q))) := fun h => by
      rw [if_neg (by rw [h]; simp)] at hQ
      exact ih (i + 1) b e1 hlt hb hQ
    clear hQ ih
    rcases hb with rfl | ⟨k, rfl, hk⟩
    · simp only [show decide ((-1 : Int) < 0) = true from rfl, cIf_true, Bool.true_or, Bool.and_true] at hT hF ⊢
      repeat' (refine cIf_intro (fun h => ?_) (fun h => ?_))
      all_goals (first | (refine hT ?_; clear hT hF; simp_all; done) | (refine hF ?_; clear hT hF; simp_all; done) | (refine hF ?_; clear hT hF; simp_all; omega))
    · obtain ⟨y, hy, _⟩ := drop_cons hk
      have h0 : ¬ ((k : Int) < 0) := by omega
      simp only [df h0, dt (Int.natCast_nonneg k), Int.toNat_natCast, dt hk, eU.gl, eU.gd hk, eU.g0 hk (by decide), eU.el hy, eU.ld0 hy (by decide), U_like, eU.cI0 hy (by decide), U_lk0, U_c0, eU.gf hk 1 (by decide), eU.ld hy 1 (by decide), eU.cI hy 1 (by decide), U_lk1, U_c1, eU.gf hk 2 (by decide), eU.ld hy 2 (by decide), eU.cS hy 2 (by decide), U_lk2, U_c2, cIf_true, cIf_false, Bool.false_or, getD_of hy] at hT hF ⊢
      repeat' (refine cIf_intro (fun h => ?_) (fun h => ?_))
      all_goals (first | (refine hT ?_; clear hT hF; simp_all; done) | (refine hF ?_; clear hT hF; simp_all; done) | (refine hF ?_; clear hT hF; simp_all; omega))
end
theorem ct64 : Ct Tryz.B.c0 64 R64 := Ct.of_wp (lm := lm64) (tp := []) (ct := []) (sm := [(3, 0)]) Tryz.bok (Cts.nil _) ⟨_, _, Tryz.func64, rfl⟩ fun args D r hR hD => by
  unfold R64 at hR
  split at hR <;> cases hR
  rename_i st day
  obtain ⟨xs, rfl, rfl, hlen⟩ := hD
  refine ⟨by simp [noHL, noH, eU.noHL'], ?_⟩
  rw [show scrubL 0 [AV.vs (encL encU xs) xs.length .none, AV.int IntKind.i64 st, AV.int IntKind.i64 day] = [.vs (encL encU xs) xs.length .none, I st, I day] by simp [scrubL, scrub, eU.scL, Tok.scrub], eU.on (by decide)]
  refine (v64 _ _ _ _ _).mpr (cIf_pos (by simp only [noHL_append, noHL, noH, eU.noHL', noHL_rep, Bool.true_and]) ?_)
  exact anthem_loop hlen _ _ 0 (-1) rfl (Nat.zero_le _) (.inl rfl) rfl
theorem ct65 : Ct Tryz.B.c0 65 R64 := Ct.of_wp (lm := lm65) (tp := []) (ct := []) (sm := []) Tryz.bok (Cts.nil _) ⟨_, _, Tryz.func65, rfl⟩ fun args D r hR hD => by
  unfold R64 at hR
  split at hR <;> cases hR
  rename_i st day
  obtain ⟨xs, rfl, rfl, hlen⟩ := hD
  refine ⟨by simp [noHL, noH, eU.noHL'], ?_⟩
  rw [show scrubL 0 [AV.vs (encL encU xs) xs.length .none, AV.int IntKind.i64 st, AV.int IntKind.i64 day] = [.vs (encL encU xs) xs.length .none, I st, I day] by simp [scrubL, scrub, eU.scL, Tok.scrub], eU.on (by decide)]
  refine (v65 _ _ _ _ _).mpr ?_
  exact anthemR_loop hlen _ _ 0 (-1) rfl (Nat.zero_le _) (.inl rfl) rfl
section
variable {xs : List Tun} (hlen : xs.length ≤ 1000) (hok : ∀ t ∈ xs, okU t)
include hlen hok
theorem tunes_loop (Q : CR → Prop) : ∀ (d i : Nat), xs.length - i = d → i ≤ xs.length → Q (rI (tuneE (xs.drop i))) →
    WLoop Tryz.X66 (cd PP 66 [1, 1, 0, 1, 0, 0]) ([X, X, X, X, X, X, X, X, .vs (encL encU xs) xs.length .none, I xs.length, I i] ++ List.replicate 24 X) ⟨[], [], []⟩ (kBlock 0 (kSeq Tryz.X66 (cd PP 66 [1, 1, 1]) (kRet Tryz.X66 66 Q))) := by
  have hc : Cts Tryz.B [(132, R132), (133, R133)] := ((Cts.nil _).cons ct133).cons ct132
  intro d
  induction d with
  | zero =>
    intro i hd hi hQ
    have hi' : i = xs.length := by omega
    subst hi'
    refine WLoop_step Tryz.bok hc ((v66l _ _ _ Q).mpr (cIf_neg (by simp) ?_))
    rw [List.drop_length] at hQ
    exact hQ
  | succ d ih =>
    intro i hd hi
    have hlt : i < xs.length := by omega
    have e1 : xs.length - (i + 1) = d := by omega
    have w1 : IntKind.i64.wrap ((i : Int) + 1) = i + 1 := wrap_id (by omega) (by omega)
    have h1 : (i : Int) < xs.length := by omega
    intro hQ
    obtain ⟨x, hx, hdr⟩ := drop_cons hlt
    rw [hdr] at hQ
    simp only [tuneE] at hQ
    have hox := hok x (List.mem_of_getElem? hx)
    refine WLoop_step Tryz.bok hc ((v66l _ _ _ Q).mpr ?_)
    simp only [dt h1, dt hlt, eU.gl, eU.gd hlt, eU.g0 hlt (by decide), eU.el hx, eU.ld0 hx (by decide), U_like, eU.cI0 hx (by decide), U_lk0, U_c0, eU.gf hlt 1 (by decide), eU.ld hx 1 (by decide), eU.cI hx 1 (by decide), U_lk1, U_c1, eU.gf hlt 2 (by decide), eU.ld hx 2 (by decide), eU.cS hx 2 (by decide), U_lk2, U_c2, noHL_append, noHL, noH, eU.noHL', noHL_rep, Bool.true_and, Bool.and_true, cIf_true, w1]
    refine ⟨trivial, cIf_intro (fun h => ?_) (fun h => cIf_intro (fun h2 => ?_) (fun h2 => cIf_intro (fun h3 => ?_) (fun h3 => ⟨hox.2.2, cIf_intro (fun h4 => ?_) (fun h4 => ?_)⟩)))⟩
    · have hc : (decide (1 ≤ x.st) && decide (x.st ≤ 1000000) && (decide (0 ≤ x.si) && decide (x.si ≤ 100000))) = false := by simp at *; omega
      rw [hc] at hQ; simpa using hQ
    · have hc : (decide (1 ≤ x.st) && decide (x.st ≤ 1000000) && (decide (0 ≤ x.si) && decide (x.si ≤ 100000))) = false := by simp at *; omega
      rw [hc] at hQ; simpa using hQ
    · have hc : (decide (1 ≤ x.st) && decide (x.st ≤ 1000000) && (decide (0 ≤ x.si) && decide (x.si ≤ 100000))) = false := by simp at *; omega
      rw [hc] at hQ; simpa using hQ
    · have hc : (decide (1 ≤ x.st) && decide (x.st ≤ 1000000) && (decide (0 ≤ x.si) && decide (x.si ≤ 100000))) = true := by simp at h h2 h3 ⊢; omega
      have h4 : nameB x.nm = false := by simpa using h4
      rw [hc, h4] at hQ; simpa using hQ
    · have hc : (decide (1 ≤ x.st) && decide (x.st ≤ 1000000) && (decide (0 ≤ x.si) && decide (x.si ≤ 100000))) = true := by simp at h h2 h3 ⊢; omega
      have h4 : nameB x.nm = true := by simpa using h4
      rw [hc, h4] at hQ
      exact ih (i + 1) e1 hlt (by simpa using hQ)
theorem tunesR_loop (Q : CR → Prop) : ∀ (d i : Nat), xs.length - i = d → i ≤ xs.length → Q (rI (tuneE (xs.drop i))) →
    WLoop Tryz.X67 (cd PP 67 [1, 1, 0, 1, 0, 0]) ([.vs (encL encU xs) xs.length .none, X, X, I i] ++ List.replicate 38 X) ⟨[], [], []⟩ (kBlock 0 (kSeq Tryz.X67 (cd PP 67 [1, 1, 1]) (kRet Tryz.X67 67 Q))) := by
  have hc : Cts Tryz.B [(118, R118), (134, R133)] := ((Cts.nil _).cons ct134).cons ct118
  intro d
  induction d with
  | zero =>
    intro i hd hi hQ
    have hi' : i = xs.length := by omega
    subst hi'
    refine WLoop_step Tryz.bok hc ((v67l _ _ _ Q).mpr (cIf_neg (by simp) ?_))
    rw [List.drop_length] at hQ
    exact hQ
  | succ d ih =>
    intro i hd hi
    have hlt : i < xs.length := by omega
    have e1 : xs.length - (i + 1) = d := by omega
    have w1 : IntKind.i64.wrap ((i : Int) + 1) = i + 1 := wrap_id (by omega) (by omega)
    have h1 : (i : Int) < xs.length := by omega
    intro hQ
    obtain ⟨x, hx, hdr⟩ := drop_cons hlt
    rw [hdr] at hQ
    simp only [tuneE] at hQ
    have hox := hok x (List.mem_of_getElem? hx)
    refine WLoop_step Tryz.bok hc ((v67l _ _ _ Q).mpr ?_)
    simp only [dt h1, dt hlt, eU.gl, eU.gd hlt, eU.g0 hlt (by decide), eU.el hx, eU.ld0 hx (by decide), U_like, eU.cI0 hx (by decide), U_lk0, U_c0, eU.gf hlt 1 (by decide), eU.ld hx 1 (by decide), eU.cI hx 1 (by decide), U_lk1, U_c1, eU.gf hlt 2 (by decide), eU.ld hx 2 (by decide), eU.cS hx 2 (by decide), U_lk2, U_c2, cIf_true, w1]
    refine ⟨trivial, trivial, cIf_intro (fun h => ?_) (fun h => cIf_intro (fun h2 => ?_) (fun h2 => ⟨hox.2.2, cIf_intro (fun h4 => ?_) (fun h4 => ?_)⟩))⟩
    · have hc : (decide (1 ≤ x.st) && decide (x.st ≤ 1000000) && (decide (0 ≤ x.si) && decide (x.si ≤ 100000))) = false := by simp at *; omega
      rw [hc] at hQ; simpa using hQ
    · have hc : (decide (1 ≤ x.st) && decide (x.st ≤ 1000000) && (decide (0 ≤ x.si) && decide (x.si ≤ 100000))) = false := by simp at *; omega
      rw [hc] at hQ; simpa using hQ
    · have hc : (decide (1 ≤ x.st) && decide (x.st ≤ 1000000) && (decide (0 ≤ x.si) && decide (x.si ≤ 100000))) = true := by simp at h h2 ⊢; omega
      have h4 : nameB x.nm = false := by simpa using h4
      rw [hc, h4] at hQ; simpa using hQ
    · have hc : (decide (1 ≤ x.st) && decide (x.st ≤ 1000000) && (decide (0 ≤ x.si) && decide (x.si ≤ 100000))) = true := by simp at h h2 ⊢; omega
      have h4 : nameB x.nm = true := by simpa using h4
      rw [hc, h4] at hQ
      exact ih (i + 1) e1 hlt (by simpa using hQ)
end
theorem ct66 : Ct Tryz.B.c0 66 R66 := Ct.of_wp (lm := lm66) (tp := []) (ct := []) (sm := [(4, 0)]) Tryz.bok (((Cts.nil _).cons ct133).cons ct132) ⟨_, _, Tryz.func66, rfl⟩ fun args D r hR hD => by
  unfold R66 at hR
  split at hR <;> cases hR
  obtain ⟨xs, rfl, rfl, hlen, hok⟩ := hD
  refine ⟨by simp [noHL, noH, eU.noHL'], ?_⟩
  rw [show scrubL 0 [AV.vs (encL encU xs) xs.length .none] = [.vs (encL encU xs) xs.length .none] by simp [scrubL, scrub, eU.scL, Tok.scrub], eU.on (by decide)]
  refine (v66 _ _ _).mpr (cIf_intro (fun h => ?_) (fun h => cIf_pos (by simp only [noHL_append, noHL, noH, eU.noHL', noHL_rep, Bool.true_and]) ?_))
  · have h : xs.length > 100 := by have := of_decide_eq_true h; omega
    unfold chkU; rw [if_pos h]
  · have h : ¬ xs.length > 100 := by have := of_decide_eq_false h; omega
    refine tunes_loop hlen hok _ _ 0 rfl (Nat.zero_le _) ?_
    unfold chkU; rw [if_neg h]; rfl
theorem ct67 : Ct Tryz.B.c0 67 R66 := Ct.of_wp (lm := lm67) (tp := []) (ct := []) (sm := []) Tryz.bok (((Cts.nil _).cons ct134).cons ct118) ⟨_, _, Tryz.func67, rfl⟩ fun args D r hR hD => by
  unfold R66 at hR
  split at hR <;> cases hR
  obtain ⟨xs, rfl, rfl, hlen, hok⟩ := hD
  refine ⟨by simp [noHL, noH, eU.noHL'], ?_⟩
  rw [show scrubL 0 [AV.vs (encL encU xs) xs.length .none] = [.vs (encL encU xs) xs.length .none] by simp [scrubL, scrub, eU.scL, Tok.scrub], eU.on (by decide)]
  refine (v67 _ _ _).mpr (cIf_intro (fun h => ?_) (fun h => ?_))
  · have h : xs.length > 100 := by have := of_decide_eq_true h; omega
    unfold chkU; rw [if_pos h]
  · have h : ¬ xs.length > 100 := by have := of_decide_eq_false h; omega
    refine tunesR_loop hlen hok _ _ 0 rfl (Nat.zero_le _) ?_
    unfold chkU; rw [if_neg h]; rfl
theorem ct17 : Ct Tryz.B.c0 17 R17 := Ct.of_wp (lm := lm17) (tp := []) (ct := []) (sm := []) Tryz.bok ((((((Cts.nil _).cons ct26).cons ct67).cons ct66).cons ct65).cons ct64) ⟨_, _, Tryz.func17, rfl⟩ fun args D r hR hD => by
  unfold R17 at hR
  split at hR <;> cases hR
  rename_i st day
  obtain ⟨xs, rfl, rfl, hok⟩ := hD
  refine ⟨by simp [noHL, noH, eU.noHL'], ?_⟩
  rw [show scrubL 0 [AV.vs (encL encU xs) xs.length .none, AV.int IntKind.i64 st, AV.int IntKind.i64 day] = [.vs (encL encU xs) xs.length .none, I st, I day] by simp [scrubL, scrub, eU.scL, Tok.scrub]]
  refine (v17 _ _ _ _ _).mpr (cIf_intro (fun h => ⟨trivial, rfl⟩) (fun h => ?_))
  have h : xs.length ≤ 1000 := by have := of_decide_eq_false h; omega
  refine ⟨⟨xs, rfl, rfl, h⟩, ⟨xs, rfl, rfl, h⟩, trivial, cIf_pos (by simp) (cIf_pos (by simp) ⟨⟨xs, rfl, rfl, h, hok⟩, ⟨xs, rfl, rfl, h, hok⟩, ?_⟩)⟩
  rw [show (onEnc (encL encU) chkU (0 : Int) (encL encU xs) == onEnc (encL encU) chkU (0 : Int) (encL encU xs)) = true by simp]
end Go.Proofs
