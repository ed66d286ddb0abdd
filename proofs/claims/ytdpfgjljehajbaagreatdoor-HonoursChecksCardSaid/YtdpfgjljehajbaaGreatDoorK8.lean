/- Contracts of functions of the program and of the reference. -/
import Derived.Test.YtdpfgjljehajbaaGreatDoorK2
import Derived.Test.YtdpfgjljehajbaaGreatDoorKD
import Derived.Test.YtdpfgjljehajbaaGreatDoorKU
set_option linter.unusedVariables false
set_option linter.unusedSimpArgs false
/-! VCH -/
set_option maxRecDepth 100000
set_option linter.unusedVariables false
set_option linter.unusedSimpArgs false
namespace Go.Ev
def idB (n : Int) : Bool := decide (1 ≤ n) && decide (n ≤ 1000000)
def mstB (m : Mst) : Bool := idB m.id && (decide (-720 ≤ m.zo) && decide (m.zo ≤ 840))
def dcrB (x : Dcr) : Bool := idB x.id && (decide (1 ≤ x.ki) && decide (x.ki ≤ 4)) && (decide (x.ma = 0) || idB x.ma) && (if x.ki = 1 then idB x.st else decide (x.st = 0)) && (decide (1 ≤ x.ra) && decide (x.ra ≤ 99)) && (decide (0 ≤ x.fr) && decide (x.fr ≤ 100000)) && (decide (x.un = 0) || decide (x.fr < x.un) && decide (x.un ≤ 100000)) && (decide (0 ≤ x.op) && decide (x.op < x.cl) && decide (x.cl ≤ 1440))
def datB (x : Dcr) (m : Mst) (day : Int) : Bool := (decide (x.ma = 0) || decide (x.ma = m.id)) && decide (x.fr ≤ day) && (decide (x.un = 0) || decide (day < x.un))
def timB (x : Dcr) (of : Int) : Bool := decide (x.op ≤ of) && decide (of < x.cl)
def appB (x : Dcr) (m : Mst) (n : Int) : Bool := dcrB x && mstB m && (decide (0 ≤ n) && decide (n ≤ 144001439)) && (datB x m ((n + m.zo) / 1440) && timB x ((n + m.zo) % 1440))
end Go.Ev
namespace Go.Proofs
open Go Go.Ev
def R95 : Spc := fun args => match args with
  | [.agg [.int .i64 id, .int .u8 ki, .int .i64 ma, .int .i64 st, .int .i64 ra, .int .i64 fr, .int .i64 un, .int .i64 op, .int .i64 cl]] => some (True, rB (dcrB ⟨id, ki, ma, st, ra, fr, un, op, cl⟩))
  | _ => none
def R111 : Spc := fun args => match args with
  | [.agg [.int .i64 id, .int .i64 zo]] => some (True, rB (mstB ⟨id, zo⟩))
  | _ => none
def R116 : Spc := fun args => match args with
  | [.agg [.int .i64 id, .int .u8 ki, .int .i64 ma, .int .i64 st, .int .i64 ra, .int .i64 fr, .int .i64 un, .int .i64 op, .int .i64 cl], .agg [.int .i64 mi, .int .i64 zo], .int .i64 day] => some (True, rB (datB ⟨id, ki, ma, st, ra, fr, un, op, cl⟩ ⟨mi, zo⟩ day))
  | _ => none
def R117 : Spc := fun args => match args with
  | [.agg [.int .i64 id, .int .u8 ki, .int .i64 ma, .int .i64 st, .int .i64 ra, .int .i64 fr, .int .i64 un, .int .i64 op, .int .i64 cl], .int .i64 of] => some (True, rB (timB ⟨id, ki, ma, st, ra, fr, un, op, cl⟩ of))
  | _ => none
def R119 : Spc := fun args => match args with
  | [.agg [.int .i64 id, .int .u8 ki, .int .i64 ma, .int .i64 st, .int .i64 ra, .int .i64 fr, .int .i64 un, .int .i64 op, .int .i64 cl], .agg [.int .i64 mi, .int .i64 zo], .int .i64 n] => some (0 ≤ n ∧ n ≤ 144001439 ∧ -720 ≤ zo ∧ zo ≤ 840, rB (datB ⟨id, ki, ma, st, ra, fr, un, op, cl⟩ ⟨mi, zo⟩ ((n + zo) / 1440) && timB ⟨id, ki, ma, st, ra, fr, un, op, cl⟩ ((n + zo) % 1440)))
  | _ => none
def R47 : Spc := fun args => match args with
  | [.agg [.int .i64 id, .int .u8 ki, .int .i64 ma, .int .i64 st, .int .i64 ra, .int .i64 fr, .int .i64 un, .int .i64 op, .int .i64 cl], .agg [.int .i64 mi, .int .i64 zo], .int .i64 n] => some (True, rB (appB ⟨id, ki, ma, st, ra, fr, un, op, cl⟩ ⟨mi, zo⟩ n))
  | _ => none
def R113 : Spc := fun args => match args with
  | [.agg [.int .i64 id, .int .u8 ki, .int .i64 ma, .int .i64 st, .int .i64 ra, .int .i64 fr, .int .i64 un, .int .i64 op, .int .i64 cl], .vp [.int .i64 jd, .int .u8 _, .int .i64 _, .int .i64 _, .int .i64 _, .int .i64 _, .int .i64 _, .int .i64 _, .int .i64 _]] => some (True, rB (decide (id = jd)))
  | _ => none
def lm95 : List (Nat × List Nat) := [(4, [1, 3])]
noncomputable def Tryz.X95 : WCx := Tryz.B.wcx [(132, R132)] lm95 [] [4] []
def lm99 : List (Nat × List Nat) := [(3, [1, 3, 4]), (7, [1, 3, 4, 5, 6]), (9, [1, 3, 4, 5, 6, 7, 8]), (10, [3, 4, 5, 6, 7, 8, 9])]
noncomputable def Tryz.X99 : WCx := Tryz.B.wcx [(118, R118)] lm99 [] [3, 7, 9, 10] []
def lm111 : List (Nat × List Nat) := []
noncomputable def Tryz.X111 : WCx := Tryz.B.wcx [(132, R132), (120, R120)] lm111 [] [] []
def lm114 : List (Nat × List Nat) := []
noncomputable def Tryz.X114 : WCx := Tryz.B.wcx [(118, R118), (121, R121)] lm114 [] [] []
def lm116 : List (Nat × List Nat) := []
noncomputable def Tryz.X116 : WCx := Tryz.B.wcx [] lm116 [] [] []
def lm117 : List (Nat × List Nat) := []
noncomputable def Tryz.X117 : WCx := Tryz.B.wcx [] lm117 [] [] []
def lm119 : List (Nat × List Nat) := []
noncomputable def Tryz.X119 : WCx := Tryz.B.wcx [(84, R84)] lm119 [] [] []
def lm47 : List (Nat × List Nat) := []
noncomputable def Tryz.X47 : WCx := Tryz.B.wcx [(95, R95), (111, R111), (115, R115), (89, R89), (116, R116), (117, R117)] lm47 [] [] []
def lm48 : List (Nat × List Nat) := []
noncomputable def Tryz.X48 : WCx := Tryz.B.wcx [(99, R95), (114, R111), (118, R118), (119, R119)] lm48 [] [] []
def lm113 : List (Nat × List Nat) := []
noncomputable def Tryz.X113 : WCx := Tryz.B.wcx [] lm113 [] [] []
theorem v95 (id ki ma st ra fr un op cl : Int) (Q : CR → Prop) : wpF Tryz.X95 95 [.agg [I id, U ki, I ma, I st, I ra, I fr, I un, I op, I cl]] Q =
  (cIf (ki == (1 : Int)) (True ∧ WCut Tryz.X95 (cd Tryz.X95.P 95 [1, 1, 1]) ([X, AV.ptr 0 0, X, Bo (decide ((1 : Int) ≤ st) && decide (st ≤ (1000000 : Int)))] ++ List.replicate 89 X) (St.mk [some (HB.cells [I id, U ki, I ma, I st, I ra, I fr, I un, I op, I cl] 46)] [] []) (kRet Tryz.X95 95 Q)) (WCut Tryz.X95 (cd Tryz.X95.P 95 [1, 1, 1]) ([X, AV.ptr 0 0, X, Bo (st == (0 : Int))] ++ List.replicate 89 X) (St.mk [some (HB.cells [I id, U ki, I ma, I st, I ra, I fr, I un, I op, I cl] 46)] [] []) (kRet Tryz.X95 95 Q))) := by kernel_rfl
theorem v95c4 (id ki ma st ra fr un op cl : Int) (b : Bool) (Q : CR → Prop) : wpC Tryz.X95 (cd PP 95 [1, 1, 1]) ([X, .ptr 0 0, X, Bo b] ++ List.replicate 89 X) ⟨[some (.cells [I id, U ki, I ma, I st, I ra, I fr, I un, I op, I cl] 46)], [], []⟩ (kRet Tryz.X95 95 Q) =
  (True ∧ cIf (decide ((1 : Int) ≤ id) && decide (id ≤ (1000000 : Int))) (cIf (decide (ki ≥ (1 : Int))) (cIf (decide (ki ≤ (4 : Int))) (cIf (ma == (0 : Int)) (cIf b (cIf (decide (ra ≥ (1 : Int))) (cIf (decide (ra ≤ (99 : Int))) (cIf (decide (fr ≥ (0 : Int))) (cIf (decide (fr ≤ (100000 : Int))) (cIf (un == (0 : Int)) (cIf (decide (op ≥ (0 : Int))) (cIf (decide (op < cl)) (Q (CR.ret (Bo (decide (cl ≤ (1440 : Int)))))) (Q (CR.ret (Bo false)))) (Q (CR.ret (Bo false)))) (cIf (decide (un > fr)) (cIf (decide (un ≤ (100000 : Int))) (cIf (decide (op ≥ (0 : Int))) (cIf (decide (op < cl)) (Q (CR.ret (Bo (decide (cl ≤ (1440 : Int)))))) (Q (CR.ret (Bo false)))) (Q (CR.ret (Bo false)))) (Q (CR.ret (Bo false)))) (Q (CR.ret (Bo false))))) (Q (CR.ret (Bo false)))) (Q (CR.ret (Bo false)))) (Q (CR.ret (Bo false)))) (Q (CR.ret (Bo false)))) (Q (CR.ret (Bo false)))) (True ∧ cIf (decide ((1 : Int) ≤ ma) && decide (ma ≤ (1000000 : Int))) (cIf b (cIf (decide (ra ≥ (1 : Int))) (cIf (decide (ra ≤ (99 : Int))) (cIf (decide (fr ≥ (0 : Int))) (cIf (decide (fr ≤ (100000 : Int))) (cIf (un == (0 : Int)) (cIf (decide (op ≥ (0 : Int))) (cIf (decide (op < cl)) (Q (CR.ret (Bo (decide (cl ≤ (1440 : Int)))))) (Q (CR.ret (Bo false)))) (Q (CR.ret (Bo false)))) (cIf (decide (un > fr)) (cIf (decide (un ≤ (100000 : Int))) (cIf (decide (op ≥ (0 : Int))) (cIf (decide (op < cl)) (Q (CR.ret (Bo (decide (cl ≤ (1440 : Int)))))) (Q (CR.ret (Bo false)))) (Q (CR.ret (Bo false)))) (Q (CR.ret (Bo false)))) (Q (CR.ret (Bo false))))) (Q (CR.ret (Bo false)))) (Q (CR.ret (Bo false)))) (Q (CR.ret (Bo false)))) (Q (CR.ret (Bo false)))) (Q (CR.ret (Bo false)))) (Q (CR.ret (Bo false))))) (Q (CR.ret (Bo false)))) (Q (CR.ret (Bo false)))) (Q (CR.ret (Bo false)))) := by kernel_rfl
theorem v99 (id ki ma st ra fr un op cl : Int) (Q : CR → Prop) : wpF Tryz.X99 99 [.agg [I id, U ki, I ma, I st, I ra, I fr, I un, I op, I cl]] Q =
  (True ∧ cIf (decide (ki ≥ (1 : Int))) (WCut Tryz.X99 (cd Tryz.X99.P 99 [1, 1, 1]) ([X, AV.ptr 0 0, X, Bo (decide ((1 : Int) ≤ id) && decide (id ≤ (1000000 : Int))), Bo (decide (ki ≤ (4 : Int)))] ++ List.replicate 85 X) (St.mk [some (HB.cells [I id, U ki, I ma, I st, I ra, I fr, I un, I op, I cl] 46)] [] []) (kRet Tryz.X99 99 Q)) (WCut Tryz.X99 (cd Tryz.X99.P 99 [1, 1, 1]) ([X, AV.ptr 0 0, X, Bo (decide ((1 : Int) ≤ id) && decide (id ≤ (1000000 : Int))), Bo false] ++ List.replicate 85 X) (St.mk [some (HB.cells [I id, U ki, I ma, I st, I ra, I fr, I un, I op, I cl] 46)] [] []) (kRet Tryz.X99 99 Q))) := by kernel_rfl
theorem v99c3 (id ki ma st ra fr un op cl : Int) (b3 b4 : Bool) (Q : CR → Prop) : wpC Tryz.X99 (cd PP 99 [1, 1, 1]) ([X, .ptr 0 0, X, Bo b3, Bo b4] ++ List.replicate 85 X) ⟨[some (.cells [I id, U ki, I ma, I st, I ra, I fr, I un, I op, I cl] 46)], [], []⟩ (kRet Tryz.X99 99 Q) =
  (True ∧ cIf (ki == (1 : Int)) (True ∧ WCut Tryz.X99 (cd PP 99 [1, 1, 1, 1, 1, 1]) ([X, AV.ptr 0 0, X, Bo b3, Bo b4, Bo (decide ((0 : Int) ≤ ma) && decide (ma ≤ (1000000 : Int))), Bo (decide ((1 : Int) ≤ st) && decide (st ≤ (1000000 : Int)))] ++ List.replicate 83 X) (St.mk [some (HB.cells [I id, U ki, I ma, I st, I ra, I fr, I un, I op, I cl] 46)] [] []) (kRet Tryz.X99 99 Q)) (WCut Tryz.X99 (cd PP 99 [1, 1, 1, 1, 1, 1]) ([X, AV.ptr 0 0, X, Bo b3, Bo b4, Bo (decide ((0 : Int) ≤ ma) && decide (ma ≤ (1000000 : Int))), Bo (st == (0 : Int))] ++ List.replicate 83 X) (St.mk [some (HB.cells [I id, U ki, I ma, I st, I ra, I fr, I un, I op, I cl] 46)] [] []) (kRet Tryz.X99 99 Q))) := by kernel_rfl
theorem v99c7 (id ki ma st ra fr un op cl : Int) (b3 b4 b5 b6 : Bool) (Q : CR → Prop) : wpC Tryz.X99 (cd PP 99 [1, 1, 1, 1, 1, 1]) ([X, .ptr 0 0, X, Bo b3, Bo b4, Bo b5, Bo b6] ++ List.replicate 83 X) ⟨[some (.cells [I id, U ki, I ma, I st, I ra, I fr, I un, I op, I cl] 46)], [], []⟩ (kRet Tryz.X99 99 Q) =
  (True ∧ True ∧ cIf (decide ((0 : Int) ≤ fr) && decide (fr ≤ (100000 : Int))) (cIf (un == (0 : Int)) (WCut Tryz.X99 (cd PP 99 [1, 1, 1, 1, 1, 1, 1, 1]) ([X, AV.ptr 0 0, X, Bo b3, Bo b4, Bo b5, Bo b6, Bo (decide ((1 : Int) ≤ ra) && decide (ra ≤ (99 : Int))), Bo true] ++ List.replicate 81 X) (St.mk [some (HB.cells [I id, U ki, I ma, I st, I ra, I fr, I un, I op, I cl] 46)] [] []) (kRet Tryz.X99 99 Q)) (cIf (decide (un > fr)) (WCut Tryz.X99 (cd PP 99 [1, 1, 1, 1, 1, 1, 1, 1]) ([X, AV.ptr 0 0, X, Bo b3, Bo b4, Bo b5, Bo b6, Bo (decide ((1 : Int) ≤ ra) && decide (ra ≤ (99 : Int))), Bo (decide (un ≤ (100000 : Int)))] ++ List.replicate 81 X) (St.mk [some (HB.cells [I id, U ki, I ma, I st, I ra, I fr, I un, I op, I cl] 46)] [] []) (kRet Tryz.X99 99 Q)) (WCut Tryz.X99 (cd PP 99 [1, 1, 1, 1, 1, 1, 1, 1]) ([X, AV.ptr 0 0, X, Bo b3, Bo b4, Bo b5, Bo b6, Bo (decide ((1 : Int) ≤ ra) && decide (ra ≤ (99 : Int))), Bo false] ++ List.replicate 81 X) (St.mk [some (HB.cells [I id, U ki, I ma, I st, I ra, I fr, I un, I op, I cl] 46)] [] []) (kRet Tryz.X99 99 Q)))) (WCut Tryz.X99 (cd PP 99 [1, 1, 1, 1, 1, 1, 1, 1]) ([X, AV.ptr 0 0, X, Bo b3, Bo b4, Bo b5, Bo b6, Bo (decide ((1 : Int) ≤ ra) && decide (ra ≤ (99 : Int))), Bo false] ++ List.replicate 81 X) (St.mk [some (HB.cells [I id, U ki, I ma, I st, I ra, I fr, I un, I op, I cl] 46)] [] []) (kRet Tryz.X99 99 Q))) := by kernel_rfl
theorem v99c9 (id ki ma st ra fr un op cl : Int) (b3 b4 b5 b6 b7 b8 : Bool) (Q : CR → Prop) : wpC Tryz.X99 (cd PP 99 [1, 1, 1, 1, 1, 1, 1, 1]) ([X, .ptr 0 0, X, Bo b3, Bo b4, Bo b5, Bo b6, Bo b7, Bo b8] ++ List.replicate 81 X) ⟨[some (.cells [I id, U ki, I ma, I st, I ra, I fr, I un, I op, I cl] 46)], [], []⟩ (kRet Tryz.X99 99 Q) =
  (cIf (decide (op ≥ (0 : Int))) (cIf (decide (op < cl)) (WCut Tryz.X99 (cd PP 99 [1, 1, 1, 1, 1, 1, 1, 1, 1]) ([X, X, X, Bo b3, Bo b4, Bo b5, Bo b6, Bo b7, Bo b8, Bo (decide (cl ≤ (1440 : Int)))] ++ List.replicate 80 X) (St.mk [some (HB.cells [I id, U ki, I ma, I st, I ra, I fr, I un, I op, I cl] 46)] [] []) (kRet Tryz.X99 99 Q)) (WCut Tryz.X99 (cd PP 99 [1, 1, 1, 1, 1, 1, 1, 1, 1]) ([X, X, X, Bo b3, Bo b4, Bo b5, Bo b6, Bo b7, Bo b8, Bo false] ++ List.replicate 80 X) (St.mk [some (HB.cells [I id, U ki, I ma, I st, I ra, I fr, I un, I op, I cl] 46)] [] []) (kRet Tryz.X99 99 Q))) (WCut Tryz.X99 (cd PP 99 [1, 1, 1, 1, 1, 1, 1, 1, 1]) ([X, X, X, Bo b3, Bo b4, Bo b5, Bo b6, Bo b7, Bo b8, Bo false] ++ List.replicate 80 X) (St.mk [some (HB.cells [I id, U ki, I ma, I st, I ra, I fr, I un, I op, I cl] 46)] [] []) (kRet Tryz.X99 99 Q))) := by kernel_rfl
theorem v99c10 (id ki ma st ra fr un op cl : Int) (b3 b4 b5 b6 b7 b8 b9 : Bool) (Q : CR → Prop) : wpC Tryz.X99 (cd PP 99 [1, 1, 1, 1, 1, 1, 1, 1, 1]) ([X, X, X, Bo b3, Bo b4, Bo b5, Bo b6, Bo b7, Bo b8, Bo b9] ++ List.replicate 80 X) ⟨[some (.cells [I id, U ki, I ma, I st, I ra, I fr, I un, I op, I cl] 46)], [], []⟩ (kRet Tryz.X99 99 Q) =
  (cIf b3 (cIf b4 (cIf b5 (cIf b6 (cIf b7 (cIf b8 (Q (CR.ret (Bo b9))) (Q (CR.ret (Bo false)))) (Q (CR.ret (Bo false)))) (Q (CR.ret (Bo false)))) (Q (CR.ret (Bo false)))) (Q (CR.ret (Bo false)))) (Q (CR.ret (Bo false)))) := by kernel_rfl
theorem v111 (id zo : Int) (Q : CR → Prop) : wpF Tryz.X111 111 [.agg [I id, I zo]] Q =
  (True ∧ cIf (decide ((1 : Int) ≤ id) && decide (id ≤ (1000000 : Int))) (True ∧ Q (CR.ret (Bo (decide ((-720 : Int) ≤ zo) && decide (zo ≤ (840 : Int)))))) (Q (CR.ret (Bo false)))) := by kernel_rfl
theorem v114 (id zo : Int) (Q : CR → Prop) : wpF Tryz.X114 114 [.agg [I id, I zo]] Q =
  (True ∧ True ∧ cIf (decide ((1 : Int) ≤ id) && decide (id ≤ (1000000 : Int))) (Q (CR.ret (Bo (decide ((-720 : Int) ≤ zo) && decide (zo ≤ (840 : Int)))))) (Q (CR.ret (Bo false)))) := by kernel_rfl
theorem v116 (id ki ma st ra fr un op cl mi zo day : Int) (Q : CR → Prop) : wpF Tryz.X116 116 [.agg [I id, U ki, I ma, I st, I ra, I fr, I un, I op, I cl], .agg [I mi, I zo], I day] Q =
  (cIf (ma == (0 : Int)) (cIf (decide (fr ≤ day)) (cIf (un == (0 : Int)) (Q (CR.ret (Bo true))) (Q (CR.ret (Bo (decide (day < un)))))) (Q (CR.ret (Bo false)))) (cIf (ma == mi) (cIf (decide (fr ≤ day)) (cIf (un == (0 : Int)) (Q (CR.ret (Bo true))) (Q (CR.ret (Bo (decide (day < un)))))) (Q (CR.ret (Bo false)))) (Q (CR.ret (Bo false))))) := by kernel_rfl
theorem v117 (id ki ma st ra fr un op cl of : Int) (Q : CR → Prop) : wpF Tryz.X117 117 [.agg [I id, U ki, I ma, I st, I ra, I fr, I un, I op, I cl], I of] Q =
  (cIf (decide (op ≤ of)) (Q (CR.ret (Bo (decide (of < cl))))) (Q (CR.ret (Bo false)))) := by kernel_rfl
theorem v119 (id ki ma st ra fr un op cl mi zo n : Int) (Q : CR → Prop) : wpF Tryz.X119 119 [.agg [I id, U ki, I ma, I st, I ra, I fr, I un, I op, I cl], .agg [I mi, I zo], I n] Q =
  (((0 : Int) ≤ n ∧ n ≤ (1000000000 : Int) ∧ (-1440 : Int) ≤ zo ∧ zo ≤ (1440 : Int)) ∧ cIf (ma == (0 : Int)) (cIf (decide (fr ≤ (n + zo) / (1440 : Int))) (cIf (un == (0 : Int)) (cIf (decide (op ≤ (n + zo) % (1440 : Int))) (Q (CR.ret (Bo (decide ((n + zo) % (1440 : Int) < cl))))) (Q (CR.ret (Bo false)))) (cIf (decide ((n + zo) / (1440 : Int) < un)) (cIf (decide (op ≤ (n + zo) % (1440 : Int))) (Q (CR.ret (Bo (decide ((n + zo) % (1440 : Int) < cl))))) (Q (CR.ret (Bo false)))) (Q (CR.ret (Bo false))))) (Q (CR.ret (Bo false)))) (cIf (decide (fr ≤ (n + zo) / (1440 : Int))) (cIf (un == (0 : Int)) (cIf (ma == mi) (cIf (decide (op ≤ (n + zo) % (1440 : Int))) (Q (CR.ret (Bo (decide ((n + zo) % (1440 : Int) < cl))))) (Q (CR.ret (Bo false)))) (Q (CR.ret (Bo false)))) (cIf (ma == mi) (cIf (decide ((n + zo) / (1440 : Int) < un)) (cIf (decide (op ≤ (n + zo) % (1440 : Int))) (Q (CR.ret (Bo (decide ((n + zo) % (1440 : Int) < cl))))) (Q (CR.ret (Bo false)))) (Q (CR.ret (Bo false)))) (Q (CR.ret (Bo false))))) (cIf (ma == mi) (Q (CR.ret (Bo false))) (Q (CR.ret (Bo false)))))) := by kernel_rfl
theorem v47 (id ki ma st ra fr un op cl mi zo n : Int) (Q : CR → Prop) : wpF Tryz.X47 47 [.agg [I id, U ki, I ma, I st, I ra, I fr, I un, I op, I cl], .agg [I mi, I zo], I n] Q =
  (True ∧ cIf (!dcrB (Dcr.mk id ki ma st ra fr un op cl)) (Q (CR.ret (Bo false))) (True ∧ cIf (!mstB (Mst.mk mi zo)) (Q (CR.ret (Bo false))) (True ∧ cIf (!(decide ((0 : Int) ≤ n) && decide (n ≤ (144001439 : Int)))) (Q (CR.ret (Bo false))) (((-1000000000 : Int) ≤ IntKind.i64.wrap (n + zo) ∧ IntKind.i64.wrap (n + zo) ≤ (1000000000 : Int)) ∧ True ∧ cIf (datB (Dcr.mk id ki ma st ra fr un op cl) (Mst.mk mi zo) (IntKind.i64.wrap (n + zo) / (1440 : Int))) (True ∧ Q (CR.ret (Bo (timB (Dcr.mk id ki ma st ra fr un op cl) (IntKind.i64.wrap (n + zo) % (1440 : Int)))))) (Q (CR.ret (Bo false))))))) := by kernel_rfl
theorem v48 (id ki ma st ra fr un op cl mi zo n : Int) (Q : CR → Prop) : wpF Tryz.X48 48 [.agg [I id, U ki, I ma, I st, I ra, I fr, I un, I op, I cl], .agg [I mi, I zo], I n] Q =
  (True ∧ True ∧ True ∧ cIf (dcrB (Dcr.mk id ki ma st ra fr un op cl)) (cIf (mstB (Mst.mk mi zo)) (cIf (decide ((0 : Int) ≤ n) && decide (n ≤ (144001439 : Int))) (((0 : Int) ≤ n ∧ n ≤ (144001439 : Int) ∧ (-720 : Int) ≤ zo ∧ zo ≤ (840 : Int)) ∧ Q (CR.ret (Bo (datB (Dcr.mk id ki ma st ra fr un op cl) (Mst.mk mi zo) ((n + zo) / (1440 : Int)) && timB (Dcr.mk id ki ma st ra fr un op cl) ((n + zo) % (1440 : Int)))))) (Q (CR.ret (Bo false)))) (Q (CR.ret (Bo false)))) (Q (CR.ret (Bo false)))) := by kernel_rfl
theorem v113 (id ki ma st ra fr un op cl jd j1 j2 j3 j4 j5 j6 j7 j8 : Int) (Q : CR → Prop) : wpF Tryz.X113 113 [.agg [I id, U ki, I ma, I st, I ra, I fr, I un, I op, I cl], .vp [I jd, U j1, I j2, I j3, I j4, I j5, I j6, I j7, I j8]] Q =
  (Q (CR.ret (AV.bool (id == cI [I jd, U j1, I j2, I j3, I j4, I j5, I j6, I j7, I j8] 0)))) := by kernel_rfl
end Go.Proofs
/-! CH -/
set_option maxRecDepth 100000
set_option linter.unusedVariables false
set_option linter.unusedSimpArgs false
namespace Go.Ev
theorem cIf_ret (c a b v : Bool) : cIf c (CR.ret (Bo a) = rB v) (CR.ret (Bo b) = rB v) = (CR.ret (Bo (if c then a else b)) = rB v) := by cases c <;> rfl
end Go.Ev
namespace Go.Proofs
open Go Go.Ev
attribute [local irreducible] wpF wpC cd
theorem cut95 {c : Code} {env : Env} {S : St} {k : Kont} (h : wpC Tryz.X95 c env S k) : WCut Tryz.X95 c env S k := WCut_step Tryz.bok ((Cts.nil _).cons ct132) h
theorem cut99 {c : Code} {env : Env} {S : St} {k : Kont} (h : wpC Tryz.X99 c env S k) : WCut Tryz.X99 c env S k := WCut_step Tryz.bok ((Cts.nil _).cons ct118) h
theorem ct95 : Ct Tryz.B.c0 95 R95 := Ct.of_wp (l := [(132, R132)]) (lm := lm95) (tp := []) (ct := [4]) (sm := []) Tryz.bok ((Cts.nil _).cons ct132) ⟨_, _, Tryz.func95, rfl⟩ fun args D r hR hD => by
  unfold R95 at hR
  split at hR <;> cases hR
  rename_i id ki ma st ra fr un op cl
  refine ⟨rfl, ?_⟩
  simp only [scrubL, scrub]
  show wpF Tryz.X95 95 _ _
  rw [v95]
  refine cIf_intro (fun h => ⟨trivial, cut95 ((v95c4 id ki ma st ra fr un op cl _ _).mpr ?_)⟩) (fun h => cut95 ((v95c4 id ki ma st ra fr un op cl _ _).mpr ?_))
  all_goals
    simp only [cIf_ret, true_and]
    refine congrArg (fun b => CR.ret (Bo b)) ?_
    rw [Bool.eq_iff_iff]
    simp at h
    by_cases h1 : ma = 0 <;> by_cases h2 : un = 0 <;> simp [dcrB, idB, h, h1, h2] <;> omega
theorem ct111 : Ct Tryz.B.c0 111 R111 := Ct.of_wp (l := [(132, R132), (120, R120)]) (lm := lm111) (tp := []) (ct := []) (sm := []) Tryz.bok (((Cts.nil _).cons ct120').cons ct132) ⟨_, _, Tryz.func111, rfl⟩ fun args D r hR hD => by
  unfold R111 at hR
  split at hR <;> cases hR
  rename_i id zo
  refine ⟨rfl, ?_⟩
  simp only [scrubL, scrub]
  show wpF Tryz.X111 111 _ _
  rw [v111]
  simp only [cIf_ret, true_and]
  refine congrArg (fun b => CR.ret (Bo b)) ?_
  rw [Bool.eq_iff_iff]
  simp [mstB, idB]
theorem ct114 : Ct Tryz.B.c0 114 R111 := Ct.of_wp (l := [(118, R118), (121, R121)]) (lm := lm114) (tp := []) (ct := []) (sm := []) Tryz.bok (((Cts.nil _).cons ct121).cons ct118) ⟨_, _, Tryz.func114, rfl⟩ fun args D r hR hD => by
  unfold R111 at hR
  split at hR <;> cases hR
  rename_i id zo
  refine ⟨rfl, ?_⟩
  simp only [scrubL, scrub]
  show wpF Tryz.X114 114 _ _
  rw [v114]
  simp only [cIf_ret, true_and]
  refine congrArg (fun b => CR.ret (Bo b)) ?_
  rw [Bool.eq_iff_iff]
  simp [mstB, idB]
theorem ct116 : Ct Tryz.B.c0 116 R116 := Ct.of_wp (l := []) (lm := lm116) (tp := []) (ct := []) (sm := []) Tryz.bok (Cts.nil _) ⟨_, _, Tryz.func116, rfl⟩ fun args D r hR hD => by
  unfold R116 at hR
  split at hR <;> cases hR
  rename_i id ki ma st ra fr un op cl mi zo day
  refine ⟨rfl, ?_⟩
  simp only [scrubL, scrub]
  show wpF Tryz.X116 116 _ _
  rw [v116]
  simp only [cIf_ret, true_and]
  refine congrArg (fun b => CR.ret (Bo b)) ?_
  rw [Bool.eq_iff_iff]
  by_cases h1 : ma = 0 <;> by_cases h2 : un = 0 <;> by_cases h3 : ma = mi <;> simp [datB, h1, h2, h3] <;> omega
theorem ct117 : Ct Tryz.B.c0 117 R117 := Ct.of_wp (l := []) (lm := lm117) (tp := []) (ct := []) (sm := []) Tryz.bok (Cts.nil _) ⟨_, _, Tryz.func117, rfl⟩ fun args D r hR hD => by
  unfold R117 at hR
  split at hR <;> cases hR
  rename_i id ki ma st ra fr un op cl of
  refine ⟨rfl, ?_⟩
  simp only [scrubL, scrub]
  show wpF Tryz.X117 117 _ _
  rw [v117]
  simp only [cIf_ret, true_and]
  refine congrArg (fun b => CR.ret (Bo b)) ?_
  rw [Bool.eq_iff_iff]
  simp [timB]
theorem ct119 : Ct Tryz.B.c0 119 R119 := Ct.of_wp (l := [(84, R84)]) (lm := lm119) (tp := []) (ct := []) (sm := []) Tryz.bok ((Cts.nil _).cons ct84) ⟨_, _, Tryz.func119, rfl⟩ fun args D r hR hD => by
  unfold R119 at hR
  split at hR <;> cases hR
  rename_i id ki ma st ra fr un op cl mi zo n
  obtain ⟨h1, h2, h3, h4⟩ := hD
  refine ⟨rfl, ?_⟩
  simp only [scrubL, scrub]
  show wpF Tryz.X119 119 _ _
  rw [v119]
  refine ⟨⟨h1, by omega, by omega, by omega⟩, ?_⟩
  simp only [cIf_ret, true_and]
  refine congrArg (fun b => CR.ret (Bo b)) ?_
  rw [Bool.eq_iff_iff]
  by_cases h5 : ma = 0 <;> by_cases h6 : un = 0 <;> by_cases h7 : ma = mi <;> simp [datB, timB, h5, h6, h7] <;> omega
theorem ct99 : Ct Tryz.B.c0 99 R95 := Ct.of_wp (l := [(118, R118)]) (lm := lm99) (tp := []) (ct := [3, 7, 9, 10]) (sm := []) Tryz.bok ((Cts.nil _).cons ct118) ⟨_, _, Tryz.func99, rfl⟩ fun args D r hR hD => by
  unfold R95 at hR
  split at hR <;> cases hR
  rename_i id ki ma st ra fr un op cl
  refine ⟨rfl, ?_⟩
  simp only [scrubL, scrub]
  show wpF Tryz.X99 99 _ _
  rw [v99]
  have k10 : ∀ (b3 b4 b5 b6 b7 b8 b9 : Bool) (Q : CR → Prop), Q (.ret (Bo (b3 && b4 && b5 && b6 && b7 && b8 && b9))) → WCut Tryz.X99 (cd PP 99 [1, 1, 1, 1, 1, 1, 1, 1, 1]) ([X, X, X, Bo b3, Bo b4, Bo b5, Bo b6, Bo b7, Bo b8, Bo b9] ++ List.replicate 80 X) ⟨[some (.cells [I id, U ki, I ma, I st, I ra, I fr, I un, I op, I cl] 46)], [], []⟩ (kRet Tryz.X99 99 Q) := fun b3 b4 b5 b6 b7 b8 b9 Q hQ => by
    refine cut99 ((v99c10 id ki ma st ra fr un op cl b3 b4 b5 b6 b7 b8 b9 Q).mpr ?_)
    cases b3 <;> cases b4 <;> cases b5 <;> cases b6 <;> cases b7 <;> cases b8 <;> exact hQ
  have k9 : ∀ (b3 b4 b5 b6 b7 b8 : Bool) (Q : CR → Prop), Q (.ret (Bo (b3 && b4 && b5 && b6 && b7 && b8 && (decide (0 ≤ op) && decide (op < cl) && decide (cl ≤ 1440))))) → WCut Tryz.X99 (cd PP 99 [1, 1, 1, 1, 1, 1, 1, 1]) ([X, .ptr 0 0, X, Bo b3, Bo b4, Bo b5, Bo b6, Bo b7, Bo b8] ++ List.replicate 81 X) ⟨[some (.cells [I id, U ki, I ma, I st, I ra, I fr, I un, I op, I cl] 46)], [], []⟩ (kRet Tryz.X99 99 Q) := fun b3 b4 b5 b6 b7 b8 Q hQ => by
    refine cut99 ((v99c9 id ki ma st ra fr un op cl b3 b4 b5 b6 b7 b8 Q).mpr ?_)
    refine cIf_intro (fun h => cIf_intro (fun h2 => k10 _ _ _ _ _ _ _ Q ?_) (fun h2 => k10 _ _ _ _ _ _ _ Q ?_)) (fun h => k10 _ _ _ _ _ _ _ Q ?_)
    · have h := of_decide_eq_true h
      have h2 := of_decide_eq_true h2
      simpa [h2, show (0 : Int) ≤ op from h] using hQ
    · have h2 := of_decide_eq_false h2
      simpa [h2] using hQ
    · have h := of_decide_eq_false h
      have h' : ¬ (0 : Int) ≤ op := h
      simpa [h'] using hQ
  have k7 : ∀ (b3 b4 b5 b6 : Bool) (Q : CR → Prop), Q (.ret (Bo (b3 && b4 && b5 && b6 && (decide (1 ≤ ra) && decide (ra ≤ 99)) && ((decide (0 ≤ fr) && decide (fr ≤ 100000)) && (decide (un = 0) || decide (fr < un) && decide (un ≤ 100000))) && (decide (0 ≤ op) && decide (op < cl) && decide (cl ≤ 1440))))) → WCut Tryz.X99 (cd PP 99 [1, 1, 1, 1, 1, 1]) ([X, .ptr 0 0, X, Bo b3, Bo b4, Bo b5, Bo b6] ++ List.replicate 83 X) ⟨[some (.cells [I id, U ki, I ma, I st, I ra, I fr, I un, I op, I cl] 46)], [], []⟩ (kRet Tryz.X99 99 Q) := fun b3 b4 b5 b6 Q hQ => by
    refine cut99 ((v99c7 id ki ma st ra fr un op cl b3 b4 b5 b6 Q).mpr ⟨trivial, trivial, ?_⟩)
    refine cIf_intro (fun h => cIf_intro (fun h2 => k9 _ _ _ _ _ _ Q ?_) (fun h2 => cIf_intro (fun h3 => k9 _ _ _ _ _ _ Q ?_) (fun h3 => k9 _ _ _ _ _ _ Q ?_))) (fun h => k9 _ _ _ _ _ _ Q ?_)
    · rw [h] at hQ
      have h2 : un = 0 := by simpa using h2
      simpa [h2] using hQ
    · rw [h] at hQ
      have h2 : ¬ un = 0 := by simpa using h2
      have h3 : fr < un := of_decide_eq_true h3
      simpa [h2, h3] using hQ
    · rw [h] at hQ
      have h2 : ¬ un = 0 := by simpa using h2
      have h3 : ¬ fr < un := of_decide_eq_false h3
      simpa [h2, h3] using hQ
    · rw [h] at hQ
      simpa using hQ
  have k3 : ∀ (b3 b4 : Bool) (Q : CR → Prop), Q (.ret (Bo (b3 && b4 && (decide (0 ≤ ma) && decide (ma ≤ 1000000)) && (if ki = 1 then idB st else decide (st = 0)) && (decide (1 ≤ ra) && decide (ra ≤ 99)) && ((decide (0 ≤ fr) && decide (fr ≤ 100000)) && (decide (un = 0) || decide (fr < un) && decide (un ≤ 100000))) && (decide (0 ≤ op) && decide (op < cl) && decide (cl ≤ 1440))))) → WCut Tryz.X99 (cd PP 99 [1, 1, 1]) ([X, .ptr 0 0, X, Bo b3, Bo b4] ++ List.replicate 85 X) ⟨[some (.cells [I id, U ki, I ma, I st, I ra, I fr, I un, I op, I cl] 46)], [], []⟩ (kRet Tryz.X99 99 Q) := fun b3 b4 Q hQ => by
    refine cut99 ((v99c3 id ki ma st ra fr un op cl b3 b4 Q).mpr ⟨trivial, ?_⟩)
    refine cIf_intro (fun h => ⟨trivial, k7 _ _ _ _ Q ?_⟩) (fun h => k7 _ _ _ _ Q ?_)
    · have h : ki = 1 := by simpa using h
      rw [if_pos h] at hQ
      exact hQ
    · have h : ¬ ki = 1 := by simpa using h
      rw [if_neg h] at hQ
      exact hQ
  refine ⟨trivial, cIf_intro (fun h => k3 _ _ _ ?_) (fun h => k3 _ _ _ ?_)⟩
  all_goals
    refine congrArg (fun b => CR.ret (Bo b)) ?_
    simp at h
    rw [Bool.eq_iff_iff]
    by_cases hk : ki = 1 <;> simp [dcrB, idB, hk] <;> omega
end Go.Proofs
