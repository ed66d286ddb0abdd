/- Contracts of functions of the program and of the reference. -/
import Derived.Test.YtdpfgjljehajbaaGreatDoorK2
import Derived.Test.YtdpfgjljehajbaaGreatDoorKD
import Derived.Test.YtdpfgjljehajbaaGreatDoorProg
import Derived.KernelRfl
import Derived.Shelf.Spec.SlicesGrow
import Derived.Test.YtdpfgjljehajbaaGreatDoorE7
import Derived.Test.YtdpfgjljehajbaaGreatDoorE5
set_option linter.unusedVariables false
set_option linter.unusedSimpArgs false
/-! VTR -/
set_option maxRecDepth 100000
set_option linter.unusedVariables false
set_option linter.unusedSimpArgs false
namespace Go.Proofs
open Go Go.Ev
def R87 : Spc := fun args => match args with
  | [.int .i64 f, .int .i64 u] => some (True, rB (rangedB f u))
  | _ => none
noncomputable def R125 : Spc := fun args => match args with
  | [.vs l n .none] => some (∃ x, l = encL encT x ∧ n = x.length ∧ x.length ≤ 1000000, rB (onEnc (encL encT) nrmB false l))
  | _ => none
noncomputable def R59 : Spc := fun args => match args with
  | [.int .i64 f, .int .i64 u, .vs l n .none] => some (∃ x, l = encL encT x ∧ n = x.length ∧ x.length ≤ 1000000, rB (onEnc (encL encT) (chkT f u) false l))
  | _ => none
def lm70 : List (Nat × List Nat) := []
noncomputable def Tryz.X70 : WCx := Tryz.B.wcx [(93, R87), (136, R125)] lm70 [] [] []
def lm72 : List (Nat × List Nat) := [(5, [0, 1, 5, 7, 8]), (12, [7])]
noncomputable def Tryz.X72 : WCx := Tryz.B.wcx [(70, R59)] lm72 [] [] [(5, 1)]
theorem v70 (f u : Int) (l : List AV) (len : Nat) (Q : CR → Prop) : wpF Tryz.X70 70 [I f, I u, .vs l len .none] Q =
  (True ∧ (∃ (x : List Trn), l = encL encT x ∧ len = x.length ∧ x.length ≤ 1000000) ∧ cIf (rangedB f u) (cIf (onEnc (encL encT) nrmB false l) (cIf (decide (0 < len)) (cIf (decide (len * 3 = l.length)) (cIf (decide (0 < l.length)) (cIf (likeOk (AV.ofVal (Value.int IntKind.i64 (0 : Int))) (l.getD 0 X)) (cIf (cI l 0 == f) (cIf (decide ((0 : Int) ≤ IntKind.i64.wrap ((↑len : Int) - (1 : Int)))) (cIf (decide ((IntKind.i64.wrap ((↑len : Int) - (1 : Int))).toNat < len)) (cIf (decide (len * 3 = l.length)) (cIf (decide (0 < (List.drop ((IntKind.i64.wrap ((↑len : Int) - (1 : Int))).toNat * 3) l).length)) (cIf (likeOk (AV.ofVal (Value.int IntKind.i64 (0 : Int))) ((List.drop ((IntKind.i64.wrap ((↑len : Int) - (1 : Int))).toNat * 3) l).getD 0 X)) (Q (CR.ret (Bo (decide (cI (List.drop ((IntKind.i64.wrap ((↑len : Int) - (1 : Int))).toNat * 3) l) 0 < u))))) False) False) False) False) False) (Q (CR.ret (Bo false)))) False) False) False) False) (Q (CR.ret (Bo false)))) (Q (CR.ret (Bo false)))) := by kernel_rfl
theorem v72 (l : List AV) (len : Nat) (u a : Int) (b : Bool) (Q : CR → Prop) : wpF Tryz.X72 72 [.vs l len .none, I u, .agg [I a, Bo b]] Q =
  (cIf ((↑len : Int) == (0 : Int)) (Q (CR.ret (I (0 : Int)))) (cIf (decide (0 < len)) (cIf (decide (len * 3 = l.length)) (cIf (decide (0 < l.length)) (cIf (likeOk (AV.ofVal (Value.int IntKind.i64 (0 : Int))) (l.getD 0 X)) ((∃ (x : List Trn), l = encL encT x ∧ len = x.length ∧ x.length ≤ 1000000) ∧ cIf (!onEnc (encL encT) (chkT (cI l 0) u) false l) (Q (CR.ret (I (0 : Int)))) (cIf (noHL 1 ([AV.vs l len Tok.none, I u, X, X, X, AV.ptr 0 0, X, I (0 : Int), I (0 : Int)] ++ List.replicate 49 X)) (WLoop Tryz.X72 (cd Tryz.X72.P 72 [1, 1, 1, 0, 1, 0, 0]) ([AV.vs l len Tok.none, I u, X, X, X, AV.ptr 0 0, X, I (0 : Int), I (0 : Int)] ++ List.replicate 49 X) (St.mk [some (HB.cells [I a, Bo b] 29)] [] []) (kBlock 0 (kSeq Tryz.X72 (cd Tryz.X72.P 72 [1, 1, 1, 1]) (kRet Tryz.X72 72 Q)))) False)) False) False) False) False)) := by kernel_rfl
end Go.Proofs
/-! TR -/
set_option maxRecDepth 100000
set_option linter.unusedVariables false
set_option linter.unusedSimpArgs false
namespace Go.Proofs
open Go Go.Ev
section
variable {xs : List Trn} (hlen : xs.length ≤ 1000000)
include hlen
end
end Go.Proofs
/-! TR2 -/
set_option maxRecDepth 100000
set_option linter.unusedVariables false
set_option linter.unusedSimpArgs false
namespace Go.Proofs
open Go Go.Ev
attribute [local irreducible] wpF wpC cd
section
variable {xs : List Trn} (hlen : xs.length ≤ 1000000) {u : Int} (hu : u ≤ 144001440) (hn : nrmF none xs = true) (hlast : (xs.getD (xs.length - 1) zTrn).at' < u) {a : Int} {b : Bool}
include hlen hu hn hlast
end
end Go.Proofs
/-! GrwW -/
set_option linter.unusedVariables false
set_option linter.unusedSimpArgs false
namespace Go.Proofs
open Go.Shelf Go.RowKit Go.Lib
end Go.Proofs
/-! GR -/
set_option linter.unusedVariables false
set_option linter.unusedSimpArgs false
set_option maxRecDepth 100000
namespace Go.Ev
open Go.RowKit
end Go.Ev
namespace Go.Proofs
open Go Go.Ev
end Go.Proofs
/-! VTS1 -/
--BASE Tryz.BG
set_option maxRecDepth 100000
set_option linter.unusedVariables false
set_option linter.unusedSimpArgs false
namespace Go.Proofs
open Go Go.Ev
end Go.Proofs
/-! TS1 -/
set_option maxRecDepth 100000
set_option linter.unusedVariables false
set_option linter.unusedSimpArgs false
namespace Go.Proofs
open Go Go.Ev
attribute [local irreducible] wpF wpC cd
end Go.Proofs
/-! VTS -/
set_option maxRecDepth 100000
set_option linter.unusedVariables false
set_option linter.unusedSimpArgs false
namespace Go.Proofs
open Go Go.Ev
end Go.Proofs
/-! TS -/
set_option maxRecDepth 100000
set_option linter.unusedVariables false
set_option linter.unusedSimpArgs false
namespace Go.Ev
theorem kRet_vs {C : WCx} {g : FuncId} {fn : Func} {Q : CR → Prop} {env : Env} {s : St} {l : List AV} {n : Nat} {t : Tok} {e : Int} (hfn : C.P.funcs[g]? = some fn) (hres : resultsA C.pc fn env s = some (.tup [.vs l n t, I e])) (hn : noHL 0 l = true) (hs : scrubL 0 l = l) (hq : ∀ t', Q (.ret (.tup [.vs l n t', I e]))) : kRet C g Q EX.ret env s := by
  unfold kRet
  rw [hfn]
  simp only
  rw [hres]
  show optW (pub C.pc s.hs 0 (.tup [.vs l n t, I e])) _
  have e1 : pub C.pc s.hs 0 (.tup [.vs l n t, I e]) = some (.tup [.vs l n t, I e]) := by simp [pub, pubL, noH, hn]
  rw [e1]
  show Q _
  have e2 : scrub 0 (.tup [.vs l n t, I e]) = .tup [.vs l n (t.scrub 0), I e] := by simp [scrub, scrubL, hs]
  rw [e2]
  exact hq _
end Go.Ev
namespace Go.Proofs
open Go Go.Ev
attribute [local irreducible] wpF wpC cd
section
variable {xs ys : List Trn} (hl : xs.length ≤ 10000000) (he : xs.length = ys.length)
include hl he
end
/-! ### Join -/
section
variable {xs ys : List Trn} (hx1 : xs.length ≤ 1000000) (hy1 : ys.length ≤ 1000000)
include hx1 hy1
end

section
variable {xs ys : List Trn} (hx1 : xs.length ≤ 1000000) (hy1 : ys.length ≤ 1000000) (hpx : 0 < xs.length) (hpy : 0 < ys.length) {p q : Trn} (hp : xs.getD (xs.length - 1) zTrn = p) (hq : ys.getD 0 zTrn = q)
include hx1 hy1 hpx hpy hp hq
end
end Go.Proofs
