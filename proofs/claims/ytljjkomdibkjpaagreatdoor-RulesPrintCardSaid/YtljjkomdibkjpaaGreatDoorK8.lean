/- Contracts of functions of the program and of the reference. -/
import Derived.Test.YtljjkomdibkjpaaGreatDoorK3
import Derived.Test.YtljjkomdibkjpaaGreatDoorK7
import Derived.Test.YtljjkomdibkjpaaGreatDoorE5
import Derived.Test.YtljjkomdibkjpaaGreatDoorK6
set_option linter.unusedVariables false
set_option linter.unusedSimpArgs false
/-! VC16 -/
set_option maxRecDepth 100000
set_option linter.unusedVariables false
namespace Go.Proofs
open Go Go.Ev
/-- Numbers as cells. -/
def encD (l : List Nat) : List AV := l.map fun (n : Nat) => I (n : Int)
/-- The rank of a rule. -/
def rkR (rs : List Rul) (i : Nat) : Int := match rs[i]? with | some x => x.rank | none => 1
def okRs (rs : List Rul) : Prop := wfRs rs ∧ rs.length ≤ 24 ∧ ∀ x ∈ rs, 1 ≤ x.rank ∧ x.rank ≤ 99
noncomputable def R124 : Spc := fun args => match args with
  | [.int .i64 a, .int .i64 b, .vp [.vs l len .none]] => some (∃ rs, l = encRs rs ∧ len = rs.length ∧ okRs rs ∧ 0 ≤ a ∧ a < rs.length ∧ 0 ≤ b ∧ b < rs.length, rI (onEnc encRs (fun rs => rkR rs b.toNat - rkR rs a.toNat) 0 l))
  | _ => none
noncomputable def Tryz.B124 : Base := Tryz.B.hk 124 (specS R124)
/-- What the calls of the sort owe of the rules' block. -/
def okBx (rl : List AV) : Prop := noHL 2 rl = true ∧ scrubL 0 rl = rl
end Go.Proofs
/-! C16 -/
set_option maxRecDepth 100000
set_option linter.unusedVariables false
namespace Go.Ev
theorem wA {a b : Nat} (h : a + b ≤ 9223372036854775807) : IntKind.i64.wrap ((a : Int) + (b : Int)) = ((a + b : Nat) : Int) := by
  rw [wrap_id (by omega) (by omega)]; omega
theorem wA1 {a : Nat} (h : a + 1 ≤ 9223372036854775807) : IntKind.i64.wrap ((a : Int) + 1) = ((a + 1 : Nat) : Int) := by
  rw [wrap_id (by omega) (by omega)]; omega
end Go.Ev
namespace Go.Proofs
open Go Go.Ev
section
variable {n c : Nat} (hn : n ≤ 24) {rl : List AV} (hb : okBx rl) {Q : CR → List (Option HB) → Prop}
include hn hb
end
end Go.Proofs
/-! VC17 -/
set_option maxRecDepth 100000
set_option linter.unusedVariables false
namespace Go.Proofs
open Go Go.Ev
noncomputable def R218 : SpcP := fun args hs => match args, hs with
  | [.row 1 0 n c, .int .i64 a, .int .i64 m, .int .i64 b, .fn (.func 124) [] [.ptr 0 0]], [some (.cells rl rt), some (.cells cs ct)] =>
    some (rt = 25 ∧ ct = 3 ∧ okBx rl ∧ n ≤ 24 ∧ (∃ l, cs = encD l ∧ l.length = n) ∧ 0 ≤ a ∧ a < m ∧ m < b ∧ b ≤ n, .ret (.tup []),
      [some (.cells rl 25), some (.cells (encD (onEnc encD (fun l => rotS a.toNat m.toNat b.toNat l) [] cs)) 3)])
  | _, _ => none
/-- One rule goes before another one. -/
def ltR (rs : List Rul) (x y : Nat) : Bool := decide (rkR rs y - rkR rs x < 0)
/-- The rules' block and the row of a sort. -/
def okS (rl cs : List AV) (len n : Nat) : Prop := ∃ (rs : List Rul) (l : List Nat), rl = encRs rs ∧ len = rs.length ∧ okRs rs ∧ cs = encD l ∧ l.length = n ∧ ∀ x ∈ l, x < rs.length
/-- What a sort makes of the row. -/
noncomputable def onS (rl cs : List AV) (f : (Nat → Nat → Bool) → List Nat → List Nat) : List AV := encD (onEnc encRs (fun rs => onEnc encD (fun l => f (ltR rs) l) [] cs) [] rl)
noncomputable def R199 : SpcP := fun args hs => match args, hs with
  | [.row 1 0 n c, .int .i64 a, .int .i64 m, .int .i64 b, .fn (.func 124) [] [.ptr 0 0]], [some (.cells [.vs rl len .none] rt), some (.cells cs ct)] =>
    some (rt = 25 ∧ ct = 3 ∧ n ≤ 24 ∧ okS rl cs len n ∧ 0 ≤ a ∧ a < m ∧ m < b ∧ b ≤ n, .ret (.tup []),
      [some (.cells [.vs rl len .none] 25), some (.cells (onS rl cs fun lt l => smg lt (b.toNat - a.toNat) a.toNat m.toNat b.toNat l) 3)])
  | _, _ => none
/-- How long the two pieces are together. -/
def mu199 : List AV → Nat := fun args => match args with
  | [_, .int _ a, _, .int _ b, _] => (b - a).toNat
  | _ => 0
noncomputable def Tryz.B199 (k : Nat) : Base := ((Tryz.B124.hk 218 (specP 2 R218)).hk 199 (specP 2 (R199.belowM mu199 k)))
end Go.Proofs
/-! C17 -/
set_option maxRecDepth 100000
set_option linter.unusedVariables false
namespace Go.Ev
end Go.Ev
namespace Go.Proofs
open Go Go.Ev
/-! The rotation. -/
section
variable {n c : Nat} (hn : n ≤ 24) {rl : List AV} (hb : okBx rl) {Q : CR → List (Option HB) → Prop}
include hn hb
end
/-! The insertion sort. -/
section
variable {n c : Nat} (hn : n ≤ 24) {rs : List Rul} (hrs : okRs rs) {Q : CR → List (Option HB) → Prop}
include hn hrs
end
end Go.Proofs
/-! C18 -/
set_option maxRecDepth 100000
set_option linter.unusedVariables false
namespace Go.Ev
end Go.Ev
namespace Go.Proofs
open Go Go.Ev
section
variable {k : Nat} (hB : BaseOk (Tryz.B199 k)) {n c : Nat} (hn : n ≤ 24) {rs : List Rul} (hrs : okRs rs) {Q : CR → List (Option HB) → Prop}
include hB hn hrs
end
end Go.Proofs
