/- Contracts of functions of the program and of the reference. -/
import Derived.Test.YtljjkomdibkjpaaGreatDoorK8
set_option linter.unusedVariables false
set_option linter.unusedSimpArgs false
/-! VC19 -/
set_option maxRecDepth 100000
set_option linter.unusedVariables false
namespace Go.Proofs
open Go Go.Ev
noncomputable def R157 : SpcP := fun args hs => match args, hs with
  | [.row 1 0 n c, .int .i64 k, .fn (.func 124) [] [.ptr 0 0]], [some (.cells [.vs rl len .none] rt), some (.cells cs ct)] =>
    some (rt = 25 ∧ ct = 3 ∧ n ≤ 24 ∧ okS rl cs len n ∧ k = n, .ret (.tup []), [some (.cells [.vs rl len .none] 25), some (.cells (onS rl cs fun lt l => stab lt n l) 3)])
  | _, _ => none
noncomputable def R123 : SpcP := fun args hs => match args, hs with
  | [.row 1 0 n c, .fn (.func 124) [] [.ptr 0 0]], [some (.cells [.vs rl len .none] rt), some (.cells cs ct)] =>
    some (rt = 25 ∧ ct = 3 ∧ n ≤ 24 ∧ okS rl cs len n, .ret (.tup []), [some (.cells [.vs rl len .none] 25), some (.cells (onS rl cs fun lt l => stab lt n l) 3)])
  | _, _ => none
noncomputable def Tryz.B157 : Base := (Tryz.B.hk 198 (specP 2 R198)).hk 199 (specP 2 R199)
def lm157 : List (Nat × List Nat) := [(2, [0, 1, 2, 6, 7, 8]), (6, [0, 1, 2, 6, 7]), (7, [0, 1, 2, 6]), (9, [0, 1, 2, 6, 7, 8]), (13, [0, 1, 2, 6, 7])]
noncomputable def Tryz.X157 : WCx := Tryz.B157.wcxP 2 [] lm157 [1] []
noncomputable def Tryz.X123 : WCx := (Tryz.B.hk 157 (specP 2 R157)).wcxP 2 []
/-- The test of a rule's cells. -/
def elT3 (E : List AV) : List AV := [U (cI E 3), U (cI E 4), U (cI E 5), I (cI E 6), .vs (cL E 7) (cN E 7) (cT E 7)]
/-- The indices by rank. -/
def rankL (rs : List Rul) : List Nat := stab (ltR rs) rs.length (List.range rs.length)
noncomputable def R79 : Spc := fun args => match args with
  | [.agg [.vs l len .none]] => some (∃ rs, l = encRs rs ∧ len = rs.length ∧ okRs rs, .ret (.vs (encD (onEnc encRs rankL [] l)) len .none))
  | _ => none
def lm79 : List (Nat × List Nat) := [(3, [1, 3, 10, 11]), (7, [1, 3])]
noncomputable def Tryz.X79 : WCx := (Tryz.B.hk 123 (specP 2 R123)).wcx [] lm79 []
/-- Does a rule hold? -/
def thR (rs : List Rul) (p q : Prf) (i : Nat) : Bool := match rs[i]? with | some x => hoT x.t p q | none => false
def kindV (v w : Int) : Int := if v ≥ 0 ∧ w ≥ 0 then 3 else if v ≥ 0 then 1 else if w ≥ 0 then 2 else 0
/-- A function of rules and two profiles. -/
noncomputable def on3 {α : Type} (l a b : List AV) (d : α) (f : List Rul → Prf → Prf → α) : α := onEnc encRs (fun rs => onEnc encP (fun p => onEnc encP (fun q => f rs p q) d b) d a) d l
noncomputable def dvP (l cs a b : List AV) : Int × Int := on3 l a b (0, 0) fun rs p q => onEnc encD (fun ord => decP (rkR rs) (thR rs p q) (thR rs q p) ord (-1) (-1) 0) (0, 0) cs
/-- What rules decide. -/
def decV (rs : List Rul) (p q : Prf) : Int × Int := decP (rkR rs) (thR rs p q) (thR rs q p) (rankL rs) (-1) (-1) 0
/-- Kind, rule, back, error. -/
def verdE (rs : List Rul) (p q : Prf) : Int × Int × Int × Int := if bothE rs p q = 0 then (kindV (decV rs p q).1 (decV rs p q).2, (decV rs p q).1, (decV rs p q).2, 0) else (0, 0, 0, bothE rs p q)
noncomputable def dvD (l a b : List AV) : Int × Int × Int × Int := on3 l a b (0, 0, 0, 0) verdE
noncomputable def R78 : Spc := fun args => match args with
  | [.agg [.vs l len .none], .vs cs n .none, .agg a, .agg b, .raw .nilFunc] => some ((∃ rs ord, l = encRs rs ∧ len = rs.length ∧ okRs rs ∧ (∀ x ∈ rs, shT x.t = true) ∧ cs = encD ord ∧ n = ord.length ∧ ord.length ≤ 24 ∧ ∀ x ∈ ord, x < rs.length) ∧ (∃ p, a = encP p) ∧ ∃ q, b = encP q,
      .ret (.agg [U (kindV (dvP l cs a b).1 (dvP l cs a b).2), I (dvP l cs a b).1, I (dvP l cs a b).2]))
  | _ => none
def lm78 : List (Nat × List Nat) := [(4, [4, 5, 7, 8, 10, 11, 12, 19, 20, 21]), (9, [4, 5, 7, 8, 10, 11, 12, 14, 15, 16, 17, 19, 20, 21]), (13, [4, 5, 7, 8, 10, 11, 12, 14, 16, 17, 19, 20, 21]), (15, [4, 5, 7, 8, 10, 11, 12, 14, 17, 19, 20, 21]), (18, [10, 11])]
noncomputable def Tryz.X78 : WCx := Tryz.B.wcx [(80, R80)] lm78 [] [9, 13, 15, 18] [(4, 5), (9, 6), (13, 5), (15, 5), (18, 5)]
noncomputable def R28 : Spc := fun args => match args with
  | [.agg [.vs l len .none], .agg a, .agg b] => some ((∃ rs, l = encRs rs ∧ len = rs.length ∧ wfRs rs) ∧ (∃ p, a = encP p) ∧ ∃ q, b = encP q,
      .ret (.tup [.agg [U (dvD l a b).1, I (dvD l a b).2.1, I (dvD l a b).2.2.1], I (dvD l a b).2.2.2]))
  | _ => none
noncomputable def Tryz.X28 : WCx := Tryz.B.wcx [(77, R77), (78, R78), (79, R79)]
theorem v157 (n c : Nat) (k : Int) (rl cs : List AV) (Q : CR → List (Option HB) → Prop) : wpS Tryz.X157 157 [.row 1 0 n c, I k, .fn (.func 124) [] [.ptr 0 0]] [some (.cells rl 25), some (.cells cs 3)] Q =
  (WLoop Tryz.X157 (cd Tryz.X157.P 157 [1, 1, 0, 0, 0]) ([AV.row 1 0 n c, I k, AV.fn (Fn.func 124) [] [AV.ptr 0 0], X, X, X, I (20 : Int), I (0 : Int), I (20 : Int)] ++ List.replicate 54 X) (St.mk [some (HB.cells rl 25), some (HB.cells cs 3)] [] []) (kBlock 0 (kSeq Tryz.X157 (cd Tryz.X157.P 157 [1, 1, 1]) (kRetS Tryz.X157 157 Q)))) := by kernel_rfl
theorem v157a (n c : Nat) (k z a b : Int) (l cs : List AV) (len : Nat) (Q : CR → List (Option HB) → Prop) : wpC Tryz.X157 (cd PP 157 [1, 1, 0, 0, 0]) ([.row 1 0 n c, I k, .fn (.func 124) [] [.ptr 0 0], X, X, X, I z, I a, I b] ++ List.replicate 54 X) ⟨[some (.cells [.vs l len .none] 25), some (.cells cs 3)], [], []⟩ (kLoop Tryz.X157 (cd PP 157 [1, 1, 0, 0, 0]) (kBlock 0 (kSeq Tryz.X157 (cd PP 157 [1, 1, 1]) (kRetS Tryz.X157 157 Q)))) =
  (cIf (decide (b ≤ k)) ((25 = (25 : TypeId) ∧ 3 = (3 : TypeId) ∧ n ≤ 24 ∧ okS l cs len n ∧ (0 : Int) ≤ a ∧ a ≤ (↑n : Int) ∧ (0 : Int) ≤ b ∧ b ≤ (↑n : Int)) ∧ (noHL 2 ([] ++ [AV.row 1 0 n c, I a, I b, AV.fn (Fn.func 124) [] [AV.ptr 0 0]] ++ []) = true ∧ (List.take 2 (St.mk [some (HB.cells [AV.vs l len Tok.none] 25), some (HB.cells cs 3)] [] []).hs).all (okBlkS 2) = true ∧ [some (HB.cells [AV.vs l len Tok.none] (25 : TypeId)), some (HB.cells (onS l cs fun (lt : Nat → Nat → Bool) (l : List Nat) => insS lt a.toNat b.toNat l) (3 : TypeId))].length = 2 ∧ 2 ≤ (St.mk [some (HB.cells [AV.vs l len Tok.none] 25), some (HB.cells cs 3)] [] []).hs.length) ∧ WLoop Tryz.X157 (cd PP 157 [1, 1, 0, 0, 0]) ([AV.row 1 0 n c, I k, AV.fn (Fn.func 124) [] [AV.ptr 0 0], X, X, X, I z, I b, I (IntKind.i64.wrap (b + z))] ++ List.replicate 54 X) (St.mk [some (HB.cells [AV.vs l len Tok.none] 25), some (HB.cells (onS l cs fun (lt : Nat → Nat → Bool) (l : List Nat) => insS lt a.toNat b.toNat l) 3)] [] []) (kBlock 0 (kSeq Tryz.X157 (cd PP 157 [1, 1, 1]) (kRetS Tryz.X157 157 Q)))) ((25 = (25 : TypeId) ∧ 3 = (3 : TypeId) ∧ n ≤ 24 ∧ okS l cs len n ∧ (0 : Int) ≤ a ∧ a ≤ (↑n : Int) ∧ (0 : Int) ≤ k ∧ k ≤ (↑n : Int)) ∧ (noHL 2 ([] ++ [AV.row 1 0 n c, I a, I k, AV.fn (Fn.func 124) [] [AV.ptr 0 0]] ++ []) = true ∧ (List.take 2 (St.mk [some (HB.cells [AV.vs l len Tok.none] 25), some (HB.cells cs 3)] [] []).hs).all (okBlkS 2) = true ∧ [some (HB.cells [AV.vs l len Tok.none] (25 : TypeId)), some (HB.cells (onS l cs fun (lt : Nat → Nat → Bool) (l : List Nat) => insS lt a.toNat k.toNat l) (3 : TypeId))].length = 2 ∧ 2 ≤ (St.mk [some (HB.cells [AV.vs l len Tok.none] 25), some (HB.cells cs 3)] [] []).hs.length) ∧ WLoop Tryz.X157 (cd PP 157 [1, 1, 1, 1, 0, 0]) ([AV.row 1 0 n c, I k, AV.fn (Fn.func 124) [] [AV.ptr 0 0], X, X, X, I z] ++ List.replicate 56 X) (St.mk [some (HB.cells [AV.vs l len Tok.none] 25), some (HB.cells (onS l cs fun (lt : Nat → Nat → Bool) (l : List Nat) => insS lt a.toNat k.toNat l) 3)] [] []) (kBlock 2 (kRetS Tryz.X157 157 Q)))) := by kernel_rfl
theorem v157b (n c : Nat) (k z : Int) (rl cs : List AV) (Q : CR → List (Option HB) → Prop) : wpC Tryz.X157 (cd PP 157 [1, 1, 1, 1, 0, 0]) ([.row 1 0 n c, I k, .fn (.func 124) [] [.ptr 0 0], X, X, X, I z] ++ List.replicate 56 X) ⟨[some (.cells rl 25), some (.cells cs 3)], [], []⟩ (kLoop Tryz.X157 (cd PP 157 [1, 1, 1, 1, 0, 0]) (kBlock 2 (kRetS Tryz.X157 157 Q))) =
  (cIf (decide (z < k)) (WLoop Tryz.X157 (cd PP 157 [1, 1, 1, 1, 0, 0, 1, 0, 1, 0, 0, 0]) ([AV.row 1 0 n c, I k, AV.fn (Fn.func 124) [] [AV.ptr 0 0], X, X, X, I z, I (0 : Int), I (IntKind.i64.wrap ((2 : Int) * z))] ++ List.replicate 54 X) (St.mk [some (HB.cells rl 25), some (HB.cells cs 3)] [] []) (kBlock 4 (kSeq Tryz.X157 (cd PP 157 [1, 1, 1, 1, 0, 0, 1, 0, 1, 1]) (kBlock 3 (kLoop Tryz.X157 (cd PP 157 [1, 1, 1, 1, 0, 0]) (kBlock 2 (kRetS Tryz.X157 157 Q))))))) (cIf ((List.take Tryz.X157.bs (St.mk [some (HB.cells rl 25), some (HB.cells cs 3)] [] []).hs).all (okBlk Tryz.X157.bs)) (Q (CR.ret (AV.tup [])) [some (HB.cells (scrubL 0 rl) 25), some (HB.cells (scrubL 0 cs) 3)]) False)) := by kernel_rfl
theorem v157c (n c : Nat) (k z a b : Int) (l cs : List AV) (len : Nat) (Q : CR → List (Option HB) → Prop) : wpC Tryz.X157 (cd PP 157 [1, 1, 1, 1, 0, 0, 1, 0, 1, 0, 0, 0]) ([.row 1 0 n c, I k, .fn (.func 124) [] [.ptr 0 0], X, X, X, I z, I a, I b] ++ List.replicate 54 X) ⟨[some (.cells [.vs l len .none] 25), some (.cells cs 3)], [], []⟩ (kLoop Tryz.X157 (cd PP 157 [1, 1, 1, 1, 0, 0, 1, 0, 1, 0, 0, 0]) (kBlock 4 (kSeq Tryz.X157 (cd PP 157 [1, 1, 1, 1, 0, 0, 1, 0, 1, 1]) (kBlock 3 (kLoop Tryz.X157 (cd PP 157 [1, 1, 1, 1, 0, 0]) (kBlock 2 (kRetS Tryz.X157 157 Q))))))) =
  (cIf (decide (b ≤ k)) ((25 = (25 : TypeId) ∧ 3 = (3 : TypeId) ∧ n ≤ 24 ∧ okS l cs len n ∧ (0 : Int) ≤ a ∧ a < IntKind.i64.wrap (a + z) ∧ IntKind.i64.wrap (a + z) < b ∧ b ≤ (↑n : Int)) ∧ (noHL 2 ([] ++ [AV.row 1 0 n c, I a, I (IntKind.i64.wrap (a + z)), I b, AV.fn (Fn.func 124) [] [AV.ptr 0 0]] ++ []) = true ∧ (List.take 2 (St.mk [some (HB.cells [AV.vs l len Tok.none] 25), some (HB.cells cs 3)] [] []).hs).all (okBlkS 2) = true ∧ [some (HB.cells [AV.vs l len Tok.none] (25 : TypeId)), some (HB.cells (onS l cs fun (lt : Nat → Nat → Bool) (l : List Nat) => smg lt (b.toNat - a.toNat) a.toNat (IntKind.i64.wrap (a + z)).toNat b.toNat l) (3 : TypeId))].length = 2 ∧ 2 ≤ (St.mk [some (HB.cells [AV.vs l len Tok.none] 25), some (HB.cells cs 3)] [] []).hs.length) ∧ WLoop Tryz.X157 (cd PP 157 [1, 1, 1, 1, 0, 0, 1, 0, 1, 0, 0, 0]) ([AV.row 1 0 n c, I k, AV.fn (Fn.func 124) [] [AV.ptr 0 0], X, X, X, I z, I b, I (IntKind.i64.wrap (b + IntKind.i64.wrap ((2 : Int) * z)))] ++ List.replicate 54 X) (St.mk [some (HB.cells [AV.vs l len Tok.none] 25), some (HB.cells (onS l cs fun (lt : Nat → Nat → Bool) (l : List Nat) => smg lt (b.toNat - a.toNat) a.toNat (IntKind.i64.wrap (a + z)).toNat b.toNat l) 3)] [] []) (kBlock 4 (kSeq Tryz.X157 (cd PP 157 [1, 1, 1, 1, 0, 0, 1, 0, 1, 1]) (kBlock 3 (kLoop Tryz.X157 (cd PP 157 [1, 1, 1, 1, 0, 0]) (kBlock 2 (kRetS Tryz.X157 157 Q))))))) (cIf (decide (IntKind.i64.wrap (a + z) < k)) ((25 = (25 : TypeId) ∧ 3 = (3 : TypeId) ∧ n ≤ 24 ∧ okS l cs len n ∧ (0 : Int) ≤ a ∧ a < IntKind.i64.wrap (a + z) ∧ IntKind.i64.wrap (a + z) < k ∧ k ≤ (↑n : Int)) ∧ (noHL 2 ([] ++ [AV.row 1 0 n c, I a, I (IntKind.i64.wrap (a + z)), I k, AV.fn (Fn.func 124) [] [AV.ptr 0 0]] ++ []) = true ∧ (List.take 2 (St.mk [some (HB.cells [AV.vs l len Tok.none] 25), some (HB.cells cs 3)] [] []).hs).all (okBlkS 2) = true ∧ [some (HB.cells [AV.vs l len Tok.none] (25 : TypeId)), some (HB.cells (onS l cs fun (lt : Nat → Nat → Bool) (l : List Nat) => smg lt (k.toNat - a.toNat) a.toNat (IntKind.i64.wrap (a + z)).toNat k.toNat l) (3 : TypeId))].length = 2 ∧ 2 ≤ (St.mk [some (HB.cells [AV.vs l len Tok.none] 25), some (HB.cells cs 3)] [] []).hs.length) ∧ WLoop Tryz.X157 (cd PP 157 [1, 1, 1, 1, 0, 0]) ([AV.row 1 0 n c, I k, AV.fn (Fn.func 124) [] [AV.ptr 0 0], X, X, X, I (IntKind.i64.wrap (z * (2 : Int)))] ++ List.replicate 56 X) (St.mk [some (HB.cells [AV.vs l len Tok.none] 25), some (HB.cells (onS l cs fun (lt : Nat → Nat → Bool) (l : List Nat) => smg lt (k.toNat - a.toNat) a.toNat (IntKind.i64.wrap (a + z)).toNat k.toNat l) 3)] [] []) (kBlock 2 (kRetS Tryz.X157 157 Q))) (WLoop Tryz.X157 (cd PP 157 [1, 1, 1, 1, 0, 0]) ([AV.row 1 0 n c, I k, AV.fn (Fn.func 124) [] [AV.ptr 0 0], X, X, X, I (IntKind.i64.wrap (z * (2 : Int)))] ++ List.replicate 56 X) (St.mk [some (HB.cells [AV.vs l len Tok.none] 25), some (HB.cells cs 3)] [] []) (kBlock 2 (kRetS Tryz.X157 157 Q))))) := by kernel_rfl
theorem v123 (n c : Nat) (l cs : List AV) (len : Nat) (Q : CR → List (Option HB) → Prop) : wpS Tryz.X123 123 [.row 1 0 n c, .fn (.func 124) [] [.ptr 0 0]] [some (.cells [.vs l len .none] 25), some (.cells cs 3)] Q =
  ((25 = (25 : TypeId) ∧ 3 = (3 : TypeId) ∧ n ≤ 24 ∧ okS l cs len n ∧ (↑n : Int) = (↑n : Int)) ∧ (noHL 2 ([] ++ [AV.row 1 0 n c, I (↑n : Int), AV.fn (Fn.func 124) [] [AV.ptr 0 0]] ++ []) = true ∧ (List.take 2 (St.mk [some (HB.cells [AV.vs l len Tok.none] 25), some (HB.cells cs 3)] [] []).hs).all (okBlkS 2) = true ∧ [some (HB.cells [AV.vs l len Tok.none] (25 : TypeId)), some (HB.cells (onS l cs fun (lt : Nat → Nat → Bool) (l : List Nat) => stab lt n l) (3 : TypeId))].length = 2 ∧ 2 ≤ (St.mk [some (HB.cells [AV.vs l len Tok.none] 25), some (HB.cells cs 3)] [] []).hs.length) ∧ cIf ((List.take Tryz.X123.bs (St.mk [some (HB.cells [AV.vs l len Tok.none] 25), some (HB.cells (onS l cs fun (lt : Nat → Nat → Bool) (l : List Nat) => stab lt n l) 3)] [] [1, 0]).hs).all (okBlk Tryz.X123.bs)) (Q (CR.ret (AV.tup [])) [some (HB.cells [AV.vs (scrubL 0 l) len Tok.none] 25), some (HB.cells (scrubL 0 (onS l cs fun (lt : Nat → Nat → Bool) (l : List Nat) => stab lt n l)) 3)]) False) := by kernel_rfl
theorem v79 (l : List AV) (len : Nat) (Q : CR → Prop) : wpF Tryz.X79 79 [.agg [.vs l len .none]] Q =
  (cIf (decide ((↑len : Int) ≤ (↑len : Int))) (cIf (decide ((↑len : Int) * (↑8 : Int) ≤ (140737488355328 : Int))) (cIf (decide ((↑len : Int) ≤ (140737488355328 : Int))) (WLoop Tryz.X79 (cd Tryz.X79.P 79 [1, 1, 0, 1, 0, 0]) ([X, AV.ptr 0 0, X, AV.row 1 0 len len, X, X, X, X, X, X, I (↑len : Int), I (0 : Int)] ++ List.replicate 11 X) (St.mk [some (HB.cells [AV.vs l len Tok.none] 25), some (HB.cells (zerosA (List.map AV.ofVal (Value.int IntKind.i64 (0 : Int)).cells.toList) len) 3)] [] []) (kBlock 0 (kSeq Tryz.X79 (cd Tryz.X79.P 79 [1, 1, 1]) (kRet Tryz.X79 79 Q)))) False) False) False) := by kernel_rfl
theorem v79l (l cs : List AV) (len n c : Nat) (i : Int) (Q : CR → Prop) : wpC Tryz.X79 (cd PP 79 [1, 1, 0, 1, 0, 0]) ([X, .ptr 0 0, X, .row 1 0 n c, X, X, X, X, X, X, I n, I i] ++ List.replicate 11 X) ⟨[some (.cells [.vs l len .none] 25), some (.cells cs 3)], [], []⟩ (kLoop Tryz.X79 (cd PP 79 [1, 1, 0, 1, 0, 0]) (kBlock 0 (kSeq Tryz.X79 (cd PP 79 [1, 1, 1]) (kRet Tryz.X79 79 Q)))) =
  (cIf (decide (i < (↑n : Int))) (cIf (decide ((0 : Int) ≤ i)) (cIf (decide (i.toNat < n)) (cIf (decide (0 + i.toNat * 1 + 1 ≤ cs.length)) (WLoop Tryz.X79 (cd PP 79 [1, 1, 0, 1, 0, 0]) ([X, AV.ptr 0 0, X, AV.row 1 0 n c, X, X, X, X, X, X, I (↑n : Int), I (IntKind.i64.wrap (i + (1 : Int)))] ++ List.replicate 11 X) (St.mk [some (HB.cells [AV.vs l len Tok.none] 25), some (HB.cells (putL cs (0 + i.toNat * 1) [I i]) 3)] [] []) (kBlock 0 (kSeq Tryz.X79 (cd PP 79 [1, 1, 1]) (kRet Tryz.X79 79 Q)))) False) False) False) ((25 = (25 : TypeId) ∧ 3 = (3 : TypeId) ∧ n ≤ 24 ∧ okS l cs len n) ∧ (noHL 2 ([] ++ [AV.row 1 0 n c, AV.fn (Fn.func 124) [] [AV.ptr 0 0]] ++ []) = true ∧ (List.take 2 (St.mk [some (HB.cells [AV.vs l len Tok.none] 25), some (HB.cells cs 3)] [] []).hs).all (okBlkS 2) = true ∧ [some (HB.cells [AV.vs l len Tok.none] (25 : TypeId)), some (HB.cells (onS l cs fun (lt : Nat → Nat → Bool) (l : List Nat) => stab lt n l) (3 : TypeId))].length = 2 ∧ 2 ≤ (St.mk [some (HB.cells [AV.vs l len Tok.none] 25), some (HB.cells cs 3)] [] []).hs.length) ∧ kRet Tryz.X79 79 Q EX.ret [X, AV.ptr 0 0, AV.row 1 0 n c, AV.row 1 0 n c, X, X, X, X, X, X, X, X, X, X, X, X, X, X, X, AV.row 1 0 n c, AV.fn (Fn.func 124) [] [AV.ptr 0 0], AV.tup [], AV.row 1 0 n c] (St.mk [some (HB.cells [AV.vs l len Tok.none] 25), some (HB.cells (onS l cs fun (lt : Nat → Nat → Bool) (l : List Nat) => stab lt n l) 3)] [] [1, 0]))) := by kernel_rfl
theorem v78 (l cs : List AV) (len n : Nat) (p q : Prf) (Q : CR → Prop) : wpF Tryz.X78 78 [.agg [.vs l len .none], .vs cs n .none, .agg (encP p), .agg (encP q), .raw .nilFunc] Q =
  (cIf (noHL 5 ([X, X, X, X, AV.raw RV.nilFunc, AV.ptr 0 0, X, AV.ptr 1 0, AV.ptr 2 0, X, AV.ptr 3 0, AV.ptr 4 0, I (0 : Int), X, X, X, X, X, X, AV.vs cs n Tok.none, I (↑n : Int), I (0 : Int)] ++ List.replicate 73 X)) (cIf ([some (HB.cells [AV.vs l len Tok.none] 25), some (HB.cells (encP p) 40), some (HB.cells (encP q) 40), some (HB.cells [U (0 : Int), I (0 : Int), I (0 : Int)] 42), some (HB.cells [U (0 : Int), I (-1 : Int), I (-1 : Int)] 42)].all (okBlk 5)) (WLoop Tryz.X78 (cd Tryz.X78.P 78 [1, 1, 1, 0, 1, 0, 0]) ([X, X, X, X, AV.raw RV.nilFunc, AV.ptr 0 0, X, AV.ptr 1 0, AV.ptr 2 0, X, AV.ptr 3 0, AV.ptr 4 0, I (0 : Int), X, X, X, X, X, X, AV.vs cs n Tok.none, I (↑n : Int), I (0 : Int)] ++ List.replicate 73 X) (St.mk [some (HB.cells [AV.vs l len Tok.none] 25), some (HB.cells (encP p) 40), some (HB.cells (encP q) 40), some (HB.cells [U (0 : Int), I (0 : Int), I (0 : Int)] 42), some (HB.cells [U (0 : Int), I (-1 : Int), I (-1 : Int)] 42)] [] []) (kBlock 0 (kSeq Tryz.X78 (cd Tryz.X78.P 78 [1, 1, 1, 1]) (kRet Tryz.X78 78 Q)))) False) False) := by kernel_rfl
theorem v78l (l cs : List AV) (len n : Nat) (p q : Prf) (v w r i : Int) (Q : CR → Prop) : wpC Tryz.X78 (cd PP 78 [1, 1, 1, 0, 1, 0, 0]) ([X, X, X, X, .raw .nilFunc, .ptr 0 0, X, .ptr 1 0, .ptr 2 0, X, .ptr 3 0, .ptr 4 0, I r, X, X, X, X, X, X, .vs cs n .none, I n, I i] ++ List.replicate 73 X) ⟨[some (.cells [.vs l len .none] 25), some (.cells (encP p) 40), some (.cells (encP q) 40), some (.cells [U 0, I 0, I 0] 42), some (.cells [U 0, I v, I w] 42)], [], []⟩ (kLoop Tryz.X78 (cd PP 78 [1, 1, 1, 0, 1, 0, 0]) (kBlock 0 (kSeq Tryz.X78 (cd PP 78 [1, 1, 1, 1]) (kRet Tryz.X78 78 Q)))) =
  (cIf (decide (i < (↑n : Int))) (cIf (decide ((0 : Int) ≤ i)) (cIf (decide (i.toNat < n)) (cIf (decide (n * 1 = cs.length)) (cIf (decide (0 < (List.drop (i.toNat * 1) cs).length)) (cIf (likeOk (AV.ofVal (Value.int IntKind.i64 (0 : Int))) ((List.drop (i.toNat * 1) cs).getD 0 X)) (cIf (decide ((0 : Int) ≤ cI (List.drop (i.toNat * 1) cs) 0)) (cIf (decide ((cI (List.drop (i.toNat * 1) cs) 0).toNat < len)) (cIf (decide (len * 8 = l.length)) (cIf (decide (8 ≤ (List.drop ((cI (List.drop (i.toNat * 1) cs) 0).toNat * 8) l).length)) (cIf (like zR (el (List.drop ((cI (List.drop (i.toNat * 1) cs) 0).toNat * 8) l) 0 8)) (cIf (decide (r > cI (el (List.drop ((cI (List.drop (i.toNat * 1) cs) 0).toNat * 8) l) 0 8) 1)) (cIf ([some (HB.cells [AV.vs l len Tok.none] 25), some (HB.cells (encP p) 40), some (HB.cells (encP q) 40), some (HB.cells [U (0 : Int), I (0 : Int), I (0 : Int)] 42), some (HB.cells [U (0 : Int), I v, I w] 42)].all (okBlk 5)) (WCut Tryz.X78 (cd PP 78 [1, 1, 1, 1]) ([X, X, X, X, X, X, X, X, X, X, AV.ptr 3 0, AV.ptr 4 0] ++ List.replicate 83 X) (St.mk [some (HB.cells [AV.vs l len Tok.none] 25), some (HB.cells (encP p) 40), some (HB.cells (encP q) 40), some (HB.cells [U (0 : Int), I (0 : Int), I (0 : Int)] 42), some (HB.cells [U (0 : Int), I v, I w] 42)] [] []) (kRet Tryz.X78 78 Q)) False) (cIf (noHL (St.mk [some (HB.cells [AV.vs l len Tok.none] 25), some (HB.cells (encP p) 40), some (HB.cells (encP q) 40), some (HB.cells [U (0 : Int), I (0 : Int), I (0 : Int)] 42), some (HB.cells [U (0 : Int), I v, I w] 42), some (HB.cells (elR (el (List.drop ((cI (List.drop (i.toNat * 1) cs) 0).toNat * 8) l) 0 8)) 73)] [] [5]).hs.length ([] ++ [AV.agg (elT3 (el (List.drop ((cI (List.drop (i.toNat * 1) cs) 0).toNat * 8) l) 0 8)), AV.agg (encP p), AV.agg (encP q)] ++ [])) (((∃ (t : Tst), (elT3 (el (List.drop ((cI (List.drop (i.toNat * 1) cs) 0).toNat * 8) l) 0 8)) = encT t ∧ wfT t ∧ shT t = true) ∧ (∃ (a : Prf), (encP p) = encP a) ∧ ∃ (b : Prf), (encP q) = encP b) ∧ St.mk [some (HB.cells [AV.vs l len Tok.none] 25), some (HB.cells (encP p) 40), some (HB.cells (encP q) 40), some (HB.cells [U (0 : Int), I (0 : Int), I (0 : Int)] 42), some (HB.cells [U (0 : Int), I v, I w] 42), some (HB.cells (elR (el (List.drop ((cI (List.drop (i.toNat * 1) cs) 0).toNat * 8) l) 0 8)) 73)] [] [5] = St.mk [some (HB.cells [AV.vs l len Tok.none] 25), some (HB.cells (encP p) 40), some (HB.cells (encP q) 40), some (HB.cells [U (0 : Int), I (0 : Int), I (0 : Int)] 42), some (HB.cells [U (0 : Int), I v, I w] 42), some (HB.cells (elR (el (List.drop ((cI (List.drop (i.toNat * 1) cs) 0).toNat * 8) l) 0 8)) 73)] [] [5] ∧ cIf (noHL (St.mk [some (HB.cells [AV.vs l len Tok.none] 25), some (HB.cells (encP p) 40), some (HB.cells (encP q) 40), some (HB.cells [U (0 : Int), I (0 : Int), I (0 : Int)] 42), some (HB.cells [U (0 : Int), I v, I w] 42), some (HB.cells (elR (el (List.drop ((cI (List.drop (i.toNat * 1) cs) 0).toNat * 8) l) 0 8)) 73)] [] [5]).hs.length ([] ++ [AV.agg (elT3 (el (List.drop ((cI (List.drop (i.toNat * 1) cs) 0).toNat * 8) l) 0 8)), AV.agg (encP q), AV.agg (encP p)] ++ [])) (((∃ (t : Tst), (elT3 (el (List.drop ((cI (List.drop (i.toNat * 1) cs) 0).toNat * 8) l) 0 8)) = encT t ∧ wfT t ∧ shT t = true) ∧ (∃ (a : Prf), (encP q) = encP a) ∧ ∃ (b : Prf), (encP p) = encP b) ∧ St.mk [some (HB.cells [AV.vs l len Tok.none] 25), some (HB.cells (encP p) 40), some (HB.cells (encP q) 40), some (HB.cells [U (0 : Int), I (0 : Int), I (0 : Int)] 42), some (HB.cells [U (0 : Int), I v, I w] 42), some (HB.cells (elR (el (List.drop ((cI (List.drop (i.toNat * 1) cs) 0).toNat * 8) l) 0 8)) 73)] [] [5] = St.mk [some (HB.cells [AV.vs l len Tok.none] 25), some (HB.cells (encP p) 40), some (HB.cells (encP q) 40), some (HB.cells [U (0 : Int), I (0 : Int), I (0 : Int)] 42), some (HB.cells [U (0 : Int), I v, I w] 42), some (HB.cells (elR (el (List.drop ((cI (List.drop (i.toNat * 1) cs) 0).toNat * 8) l) 0 8)) 73)] [] [5] ∧ cIf (noHL 6 ([X, X, X, X, AV.raw RV.nilFunc, AV.ptr 0 0, X, AV.ptr 1 0, AV.ptr 2 0, X, AV.ptr 3 0, AV.ptr 4 0, I r, X, I (cI (List.drop (i.toNat * 1) cs) 0), AV.ptr 5 0, AV.bool (onEnc encT (fun (t : Tst) => onEnc encP (fun (a : Prf) => onEnc encP (fun (b : Prf) => hoT t a b) false (encP q)) false (encP p)) false (elT3 (el (List.drop ((cI (List.drop (i.toNat * 1) cs) 0).toNat * 8) l) 0 8))), AV.bool (onEnc encT (fun (t : Tst) => onEnc encP (fun (a : Prf) => onEnc encP (fun (b : Prf) => hoT t a b) false (encP p)) false (encP q)) false (elT3 (el (List.drop ((cI (List.drop (i.toNat * 1) cs) 0).toNat * 8) l) 0 8))), X, AV.vs cs n Tok.none, I (↑n : Int), I i] ++ List.replicate 73 X)) (cIf ([some (HB.cells [AV.vs l len Tok.none] 25), some (HB.cells (encP p) 40), some (HB.cells (encP q) 40), some (HB.cells [U (0 : Int), I (0 : Int), I (0 : Int)] 42), some (HB.cells [U (0 : Int), I v, I w] 42), some (HB.cells (elR (el (List.drop ((cI (List.drop (i.toNat * 1) cs) 0).toNat * 8) l) 0 8)) 73)].all (okBlk 6)) (WCut Tryz.X78 (cd PP 78 [1, 1, 1, 0, 1, 0, 0, 1, 1, 0, 0, 1, 1, 1, 1]) ([X, X, X, X, AV.raw RV.nilFunc, AV.ptr 0 0, X, AV.ptr 1 0, AV.ptr 2 0, X, AV.ptr 3 0, AV.ptr 4 0, I r, X, I (cI (List.drop (i.toNat * 1) cs) 0), AV.ptr 5 0, AV.bool (onEnc encT (fun (t : Tst) => onEnc encP (fun (a : Prf) => onEnc encP (fun (b : Prf) => hoT t a b) false (encP q)) false (encP p)) false (elT3 (el (List.drop ((cI (List.drop (i.toNat * 1) cs) 0).toNat * 8) l) 0 8))), AV.bool (onEnc encT (fun (t : Tst) => onEnc encP (fun (a : Prf) => onEnc encP (fun (b : Prf) => hoT t a b) false (encP p)) false (encP q)) false (elT3 (el (List.drop ((cI (List.drop (i.toNat * 1) cs) 0).toNat * 8) l) 0 8))), X, AV.vs cs n Tok.none, I (↑n : Int), I i] ++ List.replicate 73 X) (St.mk [some (HB.cells [AV.vs l len Tok.none] 25), some (HB.cells (encP p) 40), some (HB.cells (encP q) 40), some (HB.cells [U (0 : Int), I (0 : Int), I (0 : Int)] 42), some (HB.cells [U (0 : Int), I v, I w] 42), some (HB.cells (elR (el (List.drop ((cI (List.drop (i.toNat * 1) cs) 0).toNat * 8) l) 0 8)) 73)] [] []) (kBlock 1 (kSeq Tryz.X78 (cd PP 78 [1, 1, 1, 0, 1, 0, 0, 1, 1, 1]) (kLoop Tryz.X78 (cd PP 78 [1, 1, 1, 0, 1, 0, 0]) (kBlock 0 (kSeq Tryz.X78 (cd PP 78 [1, 1, 1, 1]) (kRet Tryz.X78 78 Q))))))) False) False) False) False)) False) False) False) False) False) False) False) False) False) False) (cIf ([some (HB.cells [AV.vs l len Tok.none] 25), some (HB.cells (encP p) 40), some (HB.cells (encP q) 40), some (HB.cells [U (0 : Int), I (0 : Int), I (0 : Int)] 42), some (HB.cells [U (0 : Int), I v, I w] 42)].all (okBlk 5)) (WCut Tryz.X78 (cd PP 78 [1, 1, 1, 1]) ([X, X, X, X, X, X, X, X, X, X, AV.ptr 3 0, AV.ptr 4 0] ++ List.replicate 83 X) (St.mk [some (HB.cells [AV.vs l len Tok.none] 25), some (HB.cells (encP p) 40), some (HB.cells (encP q) 40), some (HB.cells [U (0 : Int), I (0 : Int), I (0 : Int)] 42), some (HB.cells [U (0 : Int), I v, I w] 42)] [] []) (kRet Tryz.X78 78 Q)) False)) := by kernel_rfl
theorem v78a (l cs : List AV) (len n : Nat) (p q : Prf) (x : Rul) (t b : Bool) (v w r i j : Int) (Q : CR → Prop) : wpC Tryz.X78 (cd PP 78 [1, 1, 1, 0, 1, 0, 0, 1, 1, 0, 0, 1, 1, 1, 1]) ([X, X, X, X, .raw .nilFunc, .ptr 0 0, X, .ptr 1 0, .ptr 2 0, X, .ptr 3 0, .ptr 4 0, I r, X, I j, .ptr 5 0, Bo t, Bo b, X, .vs cs n .none, I n, I i] ++ List.replicate 73 X) ⟨[some (.cells [.vs l len .none] 25), some (.cells (encP p) 40), some (.cells (encP q) 40), some (.cells [U 0, I 0, I 0] 42), some (.cells [U 0, I v, I w] 42), some (.cells (encR x) 73)], [], []⟩ (kBlock 1 (kSeq Tryz.X78 (cd PP 78 [1, 1, 1, 0, 1, 0, 0, 1, 1, 1]) (kLoop Tryz.X78 (cd PP 78 [1, 1, 1, 0, 1, 0, 0]) (kBlock 0 (kSeq Tryz.X78 (cd PP 78 [1, 1, 1, 1]) (kRet Tryz.X78 78 Q)))))) =
  (cIf (!t) (cIf (!b) (cIf (noHL 5 ([X, X, X, X, AV.raw RV.nilFunc, AV.ptr 0 0, X, AV.ptr 1 0, AV.ptr 2 0, X, AV.ptr 3 0, AV.ptr 4 0, I r, X, X, X, X, X, X, AV.vs cs n Tok.none, I (↑n : Int), I (IntKind.i64.wrap (i + (1 : Int)))] ++ List.replicate 73 X)) (cIf ([some (HB.cells [AV.vs l len Tok.none] 25), some (HB.cells (encP p) 40), some (HB.cells (encP q) 40), some (HB.cells [U (0 : Int), I (0 : Int), I (0 : Int)] 42), some (HB.cells [U (0 : Int), I v, I w] 42)].all (okBlk 5)) (WLoop Tryz.X78 (cd PP 78 [1, 1, 1, 0, 1, 0, 0]) ([X, X, X, X, AV.raw RV.nilFunc, AV.ptr 0 0, X, AV.ptr 1 0, AV.ptr 2 0, X, AV.ptr 3 0, AV.ptr 4 0, I r, X, X, X, X, X, X, AV.vs cs n Tok.none, I (↑n : Int), I (IntKind.i64.wrap (i + (1 : Int)))] ++ List.replicate 73 X) (St.mk [some (HB.cells [AV.vs l len Tok.none] 25), some (HB.cells (encP p) 40), some (HB.cells (encP q) 40), some (HB.cells [U (0 : Int), I (0 : Int), I (0 : Int)] 42), some (HB.cells [U (0 : Int), I v, I w] 42)] [] []) (kBlock 0 (kSeq Tryz.X78 (cd PP 78 [1, 1, 1, 1]) (kRet Tryz.X78 78 Q)))) False) False) (cIf (noHL 5 ([X, X, X, X, AV.raw RV.nilFunc, AV.ptr 0 0, X, AV.ptr 1 0, AV.ptr 2 0, X, AV.ptr 3 0, AV.ptr 4 0, I x.rank, X, I j, X, Bo t, Bo b, X, AV.vs cs n Tok.none, I (↑n : Int), I i] ++ List.replicate 73 X)) (cIf ([some (HB.cells [AV.vs l len Tok.none] 25), some (HB.cells (encP p) 40), some (HB.cells (encP q) 40), some (HB.cells [U (0 : Int), I (0 : Int), I (0 : Int)] 42), some (HB.cells [U (0 : Int), I v, I w] 42)].all (okBlk 5)) (WCut Tryz.X78 (cd PP 78 [1, 1, 1, 0, 1, 0, 0, 1, 1, 0, 0, 1, 1, 1, 1, 1, 1, 1]) ([X, X, X, X, AV.raw RV.nilFunc, AV.ptr 0 0, X, AV.ptr 1 0, AV.ptr 2 0, X, AV.ptr 3 0, AV.ptr 4 0, I x.rank, X, I j, X, Bo t, Bo b, X, AV.vs cs n Tok.none, I (↑n : Int), I i] ++ List.replicate 73 X) (St.mk [some (HB.cells [AV.vs l len Tok.none] 25), some (HB.cells (encP p) 40), some (HB.cells (encP q) 40), some (HB.cells [U (0 : Int), I (0 : Int), I (0 : Int)] 42), some (HB.cells [U (0 : Int), I v, I w] 42)] [] []) (kBlock 1 (kSeq Tryz.X78 (cd PP 78 [1, 1, 1, 0, 1, 0, 0, 1, 1, 1]) (kLoop Tryz.X78 (cd PP 78 [1, 1, 1, 0, 1, 0, 0]) (kBlock 0 (kSeq Tryz.X78 (cd PP 78 [1, 1, 1, 1]) (kRet Tryz.X78 78 Q))))))) False) False)) (cIf (noHL 5 ([X, X, X, X, AV.raw RV.nilFunc, AV.ptr 0 0, X, AV.ptr 1 0, AV.ptr 2 0, X, AV.ptr 3 0, AV.ptr 4 0, I x.rank, X, I j, X, Bo t, Bo b, X, AV.vs cs n Tok.none, I (↑n : Int), I i] ++ List.replicate 73 X)) (cIf ([some (HB.cells [AV.vs l len Tok.none] 25), some (HB.cells (encP p) 40), some (HB.cells (encP q) 40), some (HB.cells [U (0 : Int), I (0 : Int), I (0 : Int)] 42), some (HB.cells [U (0 : Int), I v, I w] 42)].all (okBlk 5)) (WCut Tryz.X78 (cd PP 78 [1, 1, 1, 0, 1, 0, 0, 1, 1, 0, 0, 1, 1, 1, 1, 1, 1, 1]) ([X, X, X, X, AV.raw RV.nilFunc, AV.ptr 0 0, X, AV.ptr 1 0, AV.ptr 2 0, X, AV.ptr 3 0, AV.ptr 4 0, I x.rank, X, I j, X, Bo t, Bo b, X, AV.vs cs n Tok.none, I (↑n : Int), I i] ++ List.replicate 73 X) (St.mk [some (HB.cells [AV.vs l len Tok.none] 25), some (HB.cells (encP p) 40), some (HB.cells (encP q) 40), some (HB.cells [U (0 : Int), I (0 : Int), I (0 : Int)] 42), some (HB.cells [U (0 : Int), I v, I w] 42)] [] []) (kBlock 1 (kSeq Tryz.X78 (cd PP 78 [1, 1, 1, 0, 1, 0, 0, 1, 1, 1]) (kLoop Tryz.X78 (cd PP 78 [1, 1, 1, 0, 1, 0, 0]) (kBlock 0 (kSeq Tryz.X78 (cd PP 78 [1, 1, 1, 1]) (kRet Tryz.X78 78 Q))))))) False) False)) := by kernel_rfl
theorem v78b (l cs : List AV) (len n : Nat) (p q : Prf) (t b : Bool) (v w r i j : Int) (Q : CR → Prop) : wpC Tryz.X78 (cd PP 78 [1, 1, 1, 0, 1, 0, 0, 1, 1, 0, 0, 1, 1, 1, 1, 1, 1, 1]) ([X, X, X, X, .raw .nilFunc, .ptr 0 0, X, .ptr 1 0, .ptr 2 0, X, .ptr 3 0, .ptr 4 0, I r, X, I j, X, Bo t, Bo b, X, .vs cs n .none, I n, I i] ++ List.replicate 73 X) ⟨[some (.cells [.vs l len .none] 25), some (.cells (encP p) 40), some (.cells (encP q) 40), some (.cells [U 0, I 0, I 0] 42), some (.cells [U 0, I v, I w] 42)], [], []⟩ (kBlock 1 (kSeq Tryz.X78 (cd PP 78 [1, 1, 1, 0, 1, 0, 0, 1, 1, 1]) (kLoop Tryz.X78 (cd PP 78 [1, 1, 1, 0, 1, 0, 0]) (kBlock 0 (kSeq Tryz.X78 (cd PP 78 [1, 1, 1, 1]) (kRet Tryz.X78 78 Q)))))) =
  (cIf t (cIf (decide (v < (0 : Int))) (cIf (noHL 5 ([X, X, X, X, AV.raw RV.nilFunc, AV.ptr 0 0, X, AV.ptr 1 0, AV.ptr 2 0, X, AV.ptr 3 0, AV.ptr 4 0, I r, X, I j, X, X, Bo b, X, AV.vs cs n Tok.none, I (↑n : Int), I i] ++ List.replicate 73 X)) (cIf ([some (HB.cells [AV.vs l len Tok.none] 25), some (HB.cells (encP p) 40), some (HB.cells (encP q) 40), some (HB.cells [U (0 : Int), I (0 : Int), I (0 : Int)] 42), some (HB.cells [U (0 : Int), I j, I w] 42)].all (okBlk 5)) (WCut Tryz.X78 (cd PP 78 [1, 1, 1, 0, 1, 0, 0, 1, 1, 0, 0, 1, 1, 1, 1, 1, 1, 1, 1]) ([X, X, X, X, AV.raw RV.nilFunc, AV.ptr 0 0, X, AV.ptr 1 0, AV.ptr 2 0, X, AV.ptr 3 0, AV.ptr 4 0, I r, X, I j, X, X, Bo b, X, AV.vs cs n Tok.none, I (↑n : Int), I i] ++ List.replicate 73 X) (St.mk [some (HB.cells [AV.vs l len Tok.none] 25), some (HB.cells (encP p) 40), some (HB.cells (encP q) 40), some (HB.cells [U (0 : Int), I (0 : Int), I (0 : Int)] 42), some (HB.cells [U (0 : Int), I j, I w] 42)] [] []) (kBlock 1 (kSeq Tryz.X78 (cd PP 78 [1, 1, 1, 0, 1, 0, 0, 1, 1, 1]) (kLoop Tryz.X78 (cd PP 78 [1, 1, 1, 0, 1, 0, 0]) (kBlock 0 (kSeq Tryz.X78 (cd PP 78 [1, 1, 1, 1]) (kRet Tryz.X78 78 Q))))))) False) False) (cIf (noHL 5 ([X, X, X, X, AV.raw RV.nilFunc, AV.ptr 0 0, X, AV.ptr 1 0, AV.ptr 2 0, X, AV.ptr 3 0, AV.ptr 4 0, I r, X, I j, X, X, Bo b, X, AV.vs cs n Tok.none, I (↑n : Int), I i] ++ List.replicate 73 X)) (cIf ([some (HB.cells [AV.vs l len Tok.none] 25), some (HB.cells (encP p) 40), some (HB.cells (encP q) 40), some (HB.cells [U (0 : Int), I (0 : Int), I (0 : Int)] 42), some (HB.cells [U (0 : Int), I v, I w] 42)].all (okBlk 5)) (WCut Tryz.X78 (cd PP 78 [1, 1, 1, 0, 1, 0, 0, 1, 1, 0, 0, 1, 1, 1, 1, 1, 1, 1, 1]) ([X, X, X, X, AV.raw RV.nilFunc, AV.ptr 0 0, X, AV.ptr 1 0, AV.ptr 2 0, X, AV.ptr 3 0, AV.ptr 4 0, I r, X, I j, X, X, Bo b, X, AV.vs cs n Tok.none, I (↑n : Int), I i] ++ List.replicate 73 X) (St.mk [some (HB.cells [AV.vs l len Tok.none] 25), some (HB.cells (encP p) 40), some (HB.cells (encP q) 40), some (HB.cells [U (0 : Int), I (0 : Int), I (0 : Int)] 42), some (HB.cells [U (0 : Int), I v, I w] 42)] [] []) (kBlock 1 (kSeq Tryz.X78 (cd PP 78 [1, 1, 1, 0, 1, 0, 0, 1, 1, 1]) (kLoop Tryz.X78 (cd PP 78 [1, 1, 1, 0, 1, 0, 0]) (kBlock 0 (kSeq Tryz.X78 (cd PP 78 [1, 1, 1, 1]) (kRet Tryz.X78 78 Q))))))) False) False)) (cIf (noHL 5 ([X, X, X, X, AV.raw RV.nilFunc, AV.ptr 0 0, X, AV.ptr 1 0, AV.ptr 2 0, X, AV.ptr 3 0, AV.ptr 4 0, I r, X, I j, X, X, Bo b, X, AV.vs cs n Tok.none, I (↑n : Int), I i] ++ List.replicate 73 X)) (cIf ([some (HB.cells [AV.vs l len Tok.none] 25), some (HB.cells (encP p) 40), some (HB.cells (encP q) 40), some (HB.cells [U (0 : Int), I (0 : Int), I (0 : Int)] 42), some (HB.cells [U (0 : Int), I v, I w] 42)].all (okBlk 5)) (WCut Tryz.X78 (cd PP 78 [1, 1, 1, 0, 1, 0, 0, 1, 1, 0, 0, 1, 1, 1, 1, 1, 1, 1, 1]) ([X, X, X, X, AV.raw RV.nilFunc, AV.ptr 0 0, X, AV.ptr 1 0, AV.ptr 2 0, X, AV.ptr 3 0, AV.ptr 4 0, I r, X, I j, X, X, Bo b, X, AV.vs cs n Tok.none, I (↑n : Int), I i] ++ List.replicate 73 X) (St.mk [some (HB.cells [AV.vs l len Tok.none] 25), some (HB.cells (encP p) 40), some (HB.cells (encP q) 40), some (HB.cells [U (0 : Int), I (0 : Int), I (0 : Int)] 42), some (HB.cells [U (0 : Int), I v, I w] 42)] [] []) (kBlock 1 (kSeq Tryz.X78 (cd PP 78 [1, 1, 1, 0, 1, 0, 0, 1, 1, 1]) (kLoop Tryz.X78 (cd PP 78 [1, 1, 1, 0, 1, 0, 0]) (kBlock 0 (kSeq Tryz.X78 (cd PP 78 [1, 1, 1, 1]) (kRet Tryz.X78 78 Q))))))) False) False)) := by kernel_rfl
theorem v78c (l cs : List AV) (len n : Nat) (p q : Prf) (b : Bool) (v w r i j : Int) (Q : CR → Prop) : wpC Tryz.X78 (cd PP 78 [1, 1, 1, 0, 1, 0, 0, 1, 1, 0, 0, 1, 1, 1, 1, 1, 1, 1, 1]) ([X, X, X, X, .raw .nilFunc, .ptr 0 0, X, .ptr 1 0, .ptr 2 0, X, .ptr 3 0, .ptr 4 0, I r, X, I j, X, X, Bo b, X, .vs cs n .none, I n, I i] ++ List.replicate 73 X) ⟨[some (.cells [.vs l len .none] 25), some (.cells (encP p) 40), some (.cells (encP q) 40), some (.cells [U 0, I 0, I 0] 42), some (.cells [U 0, I v, I w] 42)], [], []⟩ (kBlock 1 (kSeq Tryz.X78 (cd PP 78 [1, 1, 1, 0, 1, 0, 0, 1, 1, 1]) (kLoop Tryz.X78 (cd PP 78 [1, 1, 1, 0, 1, 0, 0]) (kBlock 0 (kSeq Tryz.X78 (cd PP 78 [1, 1, 1, 1]) (kRet Tryz.X78 78 Q)))))) =
  (cIf b (cIf (decide (w < (0 : Int))) (cIf (noHL 5 ([X, X, X, X, AV.raw RV.nilFunc, AV.ptr 0 0, X, AV.ptr 1 0, AV.ptr 2 0, X, AV.ptr 3 0, AV.ptr 4 0, I r, X, X, X, X, X, X, AV.vs cs n Tok.none, I (↑n : Int), I (IntKind.i64.wrap (i + (1 : Int)))] ++ List.replicate 73 X)) (cIf ([some (HB.cells [AV.vs l len Tok.none] 25), some (HB.cells (encP p) 40), some (HB.cells (encP q) 40), some (HB.cells [U (0 : Int), I (0 : Int), I (0 : Int)] 42), some (HB.cells [U (0 : Int), I v, I j] 42)].all (okBlk 5)) (WLoop Tryz.X78 (cd PP 78 [1, 1, 1, 0, 1, 0, 0]) ([X, X, X, X, AV.raw RV.nilFunc, AV.ptr 0 0, X, AV.ptr 1 0, AV.ptr 2 0, X, AV.ptr 3 0, AV.ptr 4 0, I r, X, X, X, X, X, X, AV.vs cs n Tok.none, I (↑n : Int), I (IntKind.i64.wrap (i + (1 : Int)))] ++ List.replicate 73 X) (St.mk [some (HB.cells [AV.vs l len Tok.none] 25), some (HB.cells (encP p) 40), some (HB.cells (encP q) 40), some (HB.cells [U (0 : Int), I (0 : Int), I (0 : Int)] 42), some (HB.cells [U (0 : Int), I v, I j] 42)] [] []) (kBlock 0 (kSeq Tryz.X78 (cd PP 78 [1, 1, 1, 1]) (kRet Tryz.X78 78 Q)))) False) False) (cIf (noHL 5 ([X, X, X, X, AV.raw RV.nilFunc, AV.ptr 0 0, X, AV.ptr 1 0, AV.ptr 2 0, X, AV.ptr 3 0, AV.ptr 4 0, I r, X, X, X, X, X, X, AV.vs cs n Tok.none, I (↑n : Int), I (IntKind.i64.wrap (i + (1 : Int)))] ++ List.replicate 73 X)) (cIf ([some (HB.cells [AV.vs l len Tok.none] 25), some (HB.cells (encP p) 40), some (HB.cells (encP q) 40), some (HB.cells [U (0 : Int), I (0 : Int), I (0 : Int)] 42), some (HB.cells [U (0 : Int), I v, I w] 42)].all (okBlk 5)) (WLoop Tryz.X78 (cd PP 78 [1, 1, 1, 0, 1, 0, 0]) ([X, X, X, X, AV.raw RV.nilFunc, AV.ptr 0 0, X, AV.ptr 1 0, AV.ptr 2 0, X, AV.ptr 3 0, AV.ptr 4 0, I r, X, X, X, X, X, X, AV.vs cs n Tok.none, I (↑n : Int), I (IntKind.i64.wrap (i + (1 : Int)))] ++ List.replicate 73 X) (St.mk [some (HB.cells [AV.vs l len Tok.none] 25), some (HB.cells (encP p) 40), some (HB.cells (encP q) 40), some (HB.cells [U (0 : Int), I (0 : Int), I (0 : Int)] 42), some (HB.cells [U (0 : Int), I v, I w] 42)] [] []) (kBlock 0 (kSeq Tryz.X78 (cd PP 78 [1, 1, 1, 1]) (kRet Tryz.X78 78 Q)))) False) False)) (cIf (noHL 5 ([X, X, X, X, AV.raw RV.nilFunc, AV.ptr 0 0, X, AV.ptr 1 0, AV.ptr 2 0, X, AV.ptr 3 0, AV.ptr 4 0, I r, X, X, X, X, X, X, AV.vs cs n Tok.none, I (↑n : Int), I (IntKind.i64.wrap (i + (1 : Int)))] ++ List.replicate 73 X)) (cIf ([some (HB.cells [AV.vs l len Tok.none] 25), some (HB.cells (encP p) 40), some (HB.cells (encP q) 40), some (HB.cells [U (0 : Int), I (0 : Int), I (0 : Int)] 42), some (HB.cells [U (0 : Int), I v, I w] 42)].all (okBlk 5)) (WLoop Tryz.X78 (cd PP 78 [1, 1, 1, 0, 1, 0, 0]) ([X, X, X, X, AV.raw RV.nilFunc, AV.ptr 0 0, X, AV.ptr 1 0, AV.ptr 2 0, X, AV.ptr 3 0, AV.ptr 4 0, I r, X, X, X, X, X, X, AV.vs cs n Tok.none, I (↑n : Int), I (IntKind.i64.wrap (i + (1 : Int)))] ++ List.replicate 73 X) (St.mk [some (HB.cells [AV.vs l len Tok.none] 25), some (HB.cells (encP p) 40), some (HB.cells (encP q) 40), some (HB.cells [U (0 : Int), I (0 : Int), I (0 : Int)] 42), some (HB.cells [U (0 : Int), I v, I w] 42)] [] []) (kBlock 0 (kSeq Tryz.X78 (cd PP 78 [1, 1, 1, 1]) (kRet Tryz.X78 78 Q)))) False) False)) := by kernel_rfl
theorem v78e (rl : List AV) (p q : Prf) (v w : Int) (Q : CR → Prop) : wpC Tryz.X78 (cd PP 78 [1, 1, 1, 1]) ([X, X, X, X, X, X, X, X, X, X, .ptr 3 0, .ptr 4 0] ++ List.replicate 83 X) ⟨[some (.cells rl 25), some (.cells (encP p) 40), some (.cells (encP q) 40), some (.cells [U 0, I 0, I 0] 42), some (.cells [U 0, I v, I w] 42)], [], []⟩ (kRet Tryz.X78 78 Q) =
  (cIf (decide (v ≥ (0 : Int))) (cIf (decide (w ≥ (0 : Int))) (Q (CR.ret (AV.agg [U (3 : Int), I v, I w]))) (cIf (decide (v ≥ (0 : Int))) (Q (CR.ret (AV.agg [U (1 : Int), I v, I w]))) (cIf (decide (w ≥ (0 : Int))) (Q (CR.ret (AV.agg [U (2 : Int), I v, I w]))) (Q (CR.ret (AV.agg [U (0 : Int), I v, I w])))))) (cIf (decide (v ≥ (0 : Int))) (Q (CR.ret (AV.agg [U (1 : Int), I v, I w]))) (cIf (decide (w ≥ (0 : Int))) (Q (CR.ret (AV.agg [U (2 : Int), I v, I w]))) (Q (CR.ret (AV.agg [U (0 : Int), I v, I w])))))) := by kernel_rfl
theorem v28 (l : List AV) (len : Nat) (p q : Prf) (Q : CR → Prop) : wpF Tryz.X28 28 [.agg [.vs l len .none], .agg (encP p), .agg (encP q)] Q =
  (((∃ (rs : List Rul), l = encRs rs ∧ len = rs.length ∧ wfRs rs) ∧ (∃ (p_1 : Prf), (encP p) = encP p_1) ∧ ∃ (q_1 : Prf), (encP q) = encP q_1) ∧ cIf (onEnc encRs (fun (rs : List Rul) => onEnc encP (fun (p : Prf) => onEnc encP (fun (q : Prf) => bothE rs p q) (0 : Int) (encP q)) (0 : Int) (encP p)) (0 : Int) l != (0 : Int)) (Q (CR.ret (AV.tup [AV.agg [U (0 : Int), I (0 : Int), I (0 : Int)], AV.int IntKind.i64 (onEnc encRs (fun (rs : List Rul) => onEnc encP (fun (p : Prf) => onEnc encP (fun (q : Prf) => bothE rs p q) (0 : Int) (encP q)) (0 : Int) (encP p)) (0 : Int) l)]))) (cIf (noHL (St.mk [some (HB.cells [AV.vs l len Tok.none] 25), some (HB.cells (encP p) 40), some (HB.cells (encP q) 40), some (HB.cells [U (0 : Int), I (0 : Int), I (0 : Int)] 42)] [] []).hs.length ([] ++ [AV.agg [AV.vs l len Tok.none]] ++ [])) ((∃ (rs : List Rul), l = encRs rs ∧ len = rs.length ∧ okRs rs) ∧ St.mk [some (HB.cells [AV.vs l len Tok.none] 25), some (HB.cells (encP p) 40), some (HB.cells (encP q) 40), some (HB.cells [U (0 : Int), I (0 : Int), I (0 : Int)] 42)] [] [] = St.mk [some (HB.cells [AV.vs l len Tok.none] 25), some (HB.cells (encP p) 40), some (HB.cells (encP q) 40), some (HB.cells [U (0 : Int), I (0 : Int), I (0 : Int)] 42)] [] [] ∧ cIf (noHL (St.mk [some (HB.cells [AV.vs l len Tok.none] 25), some (HB.cells (encP p) 40), some (HB.cells (encP q) 40), some (HB.cells [U (0 : Int), I (0 : Int), I (0 : Int)] 42)] [] []).hs.length ([] ++ [AV.agg [AV.vs l len Tok.none], AV.vs (encD (onEnc encRs rankL [] l)) len Tok.none, AV.agg (encP p), AV.agg (encP q), AV.raw RV.nilFunc] ++ [])) (((∃ (rs : List Rul), ∃ (ord : List Nat), l = encRs rs ∧ len = rs.length ∧ okRs rs ∧ (∀ (x : Rul), x ∈ rs → shT x.t = true) ∧ encD (onEnc encRs rankL [] l) = encD ord ∧ len = ord.length ∧ ord.length ≤ 24 ∧ ∀ (x : Nat), x ∈ ord → x < rs.length) ∧ (∃ (p_1 : Prf), (encP p) = encP p_1) ∧ ∃ (q_1 : Prf), (encP q) = encP q_1) ∧ St.mk [some (HB.cells [AV.vs l len Tok.none] 25), some (HB.cells (encP p) 40), some (HB.cells (encP q) 40), some (HB.cells [U (0 : Int), I (0 : Int), I (0 : Int)] 42)] [] [] = St.mk [some (HB.cells [AV.vs l len Tok.none] 25), some (HB.cells (encP p) 40), some (HB.cells (encP q) 40), some (HB.cells [U (0 : Int), I (0 : Int), I (0 : Int)] 42)] [] [] ∧ Q (CR.ret (AV.tup [AV.agg [AV.int IntKind.u8 (kindV (dvP l (encD (onEnc encRs rankL [] l)) (encP p) (encP q)).fst (dvP l (encD (onEnc encRs rankL [] l)) (encP p) (encP q)).snd), AV.int IntKind.i64 (dvP l (encD (onEnc encRs rankL [] l)) (encP p) (encP q)).fst, AV.int IntKind.i64 (dvP l (encD (onEnc encRs rankL [] l)) (encP p) (encP q)).snd], I (0 : Int)]))) False) False)) := by kernel_rfl
end Go.Proofs
/-! C19 -/
set_option maxRecDepth 100000
set_option linter.unusedVariables false
namespace Go.Proofs
open Go Go.Ev
theorem bok157 : BaseOk Tryz.B157 := (Tryz.bok.hk (ct198.hook Tryz.gtpB)).hk (ct199.hook Tryz.gtpB)
section
variable {n c : Nat} (hn : n ≤ 24) {rs : List Rul} (hrs : okRs rs) {Q : CR → List (Option HB) → Prop}
include hn hrs
theorem st_ok (l l' : List Nat) (x : List AV) (hx : noHL 2 x = true) : noHL 2 ([] ++ x ++ []) = true ∧ (List.take 2 (hsS rs l)).all (okBlkS 2) = true ∧ (hsS rs l').length = 2 ∧ 2 ≤ (hsS rs l).length :=
  have _ := hn
  have _ := hrs
  ⟨by simpa using hx, by simpa using blkBS (okBx_rs rs) l [], rfl, Nat.le_refl _⟩
theorem st7e {z : Int} {l : List Nat} (hz : (n : Int) ≤ z) (hQ : Q (.ret (.tup [])) (hsS rs l)) :
    WLoop Tryz.X157 (cd PP 157 [1, 1, 1, 1, 0, 0]) ([.row 1 0 n c, I n, .fn (.func 124) [] [.ptr 0 0], X, X, X, I z] ++ List.replicate 56 X) ⟨hsS rs l, [], []⟩ (kBlock 2 (kRetS Tryz.X157 157 Q)) := by
  have _ := hn
  have _ := hrs
  refine WLoop_unroll (C := Tryz.X157) (wcxP_ones bok157 (Cts.nil _)) (wcxP_ok bok157 (Cts.nil _)) ?_
  rw [hsS_eq, v157b]
  refine cIf_neg (decide_eq_false (by omega)) (cIf_pos (blkB (okBx_rs rs) l []) ?_)
  rw [(okBx_rs rs).2, encD_sc]
  exact hQ
theorem st7 {l : List Nat} (hl : l.length = n) (hm : ∀ x ∈ l, x < rs.length) (hQ : Q (.ret (.tup [])) (hsS rs (if 20 < n then smg (ltR rs) n 0 20 n l else l))) :
    WLoop Tryz.X157 (cd PP 157 [1, 1, 1, 1, 0, 0]) ([.row 1 0 n c, I n, .fn (.func 124) [] [.ptr 0 0], X, X, X, I 20] ++ List.replicate 56 X) ⟨hsS rs l, [], []⟩ (kBlock 2 (kRetS Tryz.X157 157 Q)) := by
  by_cases h : 20 < n
  · rw [if_pos h] at hQ
    refine WLoop_unroll (C := Tryz.X157) (wcxP_ones bok157 (Cts.nil _)) (wcxP_ok bok157 (Cts.nil _)) ?_
    rw [hsS_eq, v157b]
    refine cIf_pos (decide_eq_true (by omega)) ?_
    refine WLoop_unroll (C := Tryz.X157) (wcxP_ones bok157 (Cts.nil _)) (wcxP_ok bok157 (Cts.nil _)) ?_
    rw [v157c, onS_eq, onS_eq]
    rw [show IntKind.i64.wrap ((2 : Int) * 20) = 40 from by decide, show IntKind.i64.wrap ((0 : Int) + 20) = 20 from by decide]
    refine cIf_neg (decide_eq_false (by omega)) (cIf_pos (decide_eq_true (by omega)) ?_)
    simp only [Int.toNat_natCast]
    rw [show (20 : Int).toNat = 20 from rfl, show (0 : Int).toNat = 0 from rfl, Nat.sub_zero]
    refine ⟨⟨trivial, trivial, hn, ⟨rs, l, rfl, rfl, hrs, rfl, hl, hm⟩, by omega, by omega, by omega, by omega⟩, st_ok hn hrs l _ _ (by simp [noHL, noH]), ?_⟩
    rw [show IntKind.i64.wrap ((20 : Int) * 2) = 40 from by decide]
    exact st7e hn hrs (by omega) hQ
  · rw [if_neg h] at hQ
    exact st7e hn hrs (by omega) hQ
theorem st2 {l : List Nat} (hl : l.length = n) (hm : ∀ x ∈ l, x < rs.length) (hQ : Q (.ret (.tup [])) (hsS rs (stab (ltR rs) n l))) :
    WLoop Tryz.X157 (cd PP 157 [1, 1, 0, 0, 0]) ([.row 1 0 n c, I n, .fn (.func 124) [] [.ptr 0 0], X, X, X, I 20, I 0, I 20] ++ List.replicate 54 X) ⟨hsS rs l, [], []⟩ (kBlock 0 (kSeq Tryz.X157 (cd PP 157 [1, 1, 1]) (kRetS Tryz.X157 157 Q))) := by
  unfold stab at hQ
  refine WLoop_unroll (C := Tryz.X157) (wcxP_ones bok157 (Cts.nil _)) (wcxP_ok bok157 (Cts.nil _)) ?_
  rw [hsS_eq, v157a, onS_eq, onS_eq]
  simp only [Int.toNat_natCast]
  rw [show (20 : Int).toNat = 20 from rfl, show (0 : Int).toNat = 0 from rfl]
  by_cases h : n < 20
  · rw [if_pos h] at hQ
    have hp : (insS (ltR rs) 0 n l).Perm l := insS_perm _ (by omega)
    refine cIf_neg (decide_eq_false (by omega)) ?_
    refine ⟨⟨trivial, trivial, hn, ⟨rs, l, rfl, rfl, hrs, rfl, hl, hm⟩, by omega, by omega, by omega, by omega⟩, st_ok hn hrs l _ _ (by simp [noHL, noH]), ?_⟩
    exact st7e hn hrs (by omega) hQ
  · rw [if_neg h] at hQ
    have hp : (insS (ltR rs) 0 20 l).Perm l := insS_perm _ (by omega)
    have hl1 : (insS (ltR rs) 0 20 l).length = n := by rw [hp.length_eq]; exact hl
    have hm1 := perm_mem hp hm
    refine cIf_pos (decide_eq_true (by omega)) ?_
    refine ⟨⟨trivial, trivial, hn, ⟨rs, l, rfl, rfl, hrs, rfl, hl, hm⟩, by omega, by omega, by omega, by omega⟩, st_ok hn hrs l _ _ (by simp [noHL, noH]), ?_⟩
    generalize insS (ltR rs) 0 20 l = l1 at hl1 hm1 hQ
    refine WLoop_unroll (C := Tryz.X157) (wcxP_ones bok157 (Cts.nil _)) (wcxP_ok bok157 (Cts.nil _)) ?_
    rw [v157a, onS_eq, onS_eq, show IntKind.i64.wrap ((20 : Int) + 20) = 40 from by decide]
    simp only [Int.toNat_natCast]
    rw [show (20 : Int).toNat = 20 from rfl]
    have hp2 : (insS (ltR rs) 20 n l1).Perm l1 := insS_perm _ (by omega)
    refine cIf_neg (decide_eq_false (by omega)) ?_
    refine ⟨⟨trivial, trivial, hn, ⟨rs, l1, rfl, rfl, hrs, rfl, hl1, hm1⟩, by omega, by omega, by omega, by omega⟩, st_ok hn hrs l1 _ _ (by simp [noHL, noH]), ?_⟩
    exact st7 hn hrs (by rw [hp2.length_eq]; exact hl1) (perm_mem hp2 hm1) hQ
end
theorem ct157 : CtP Tryz.B.c0 157 2 R157 where
  body := ⟨_, _, Tryz.func157, rfl⟩
  ok := fun args hs D r hs' hR hD hl => by
    unfold R157 at hR
    split at hR <;> cases hR
    rename_i n c k rl len rt cs ct
    obtain ⟨rfl, rfl, hn, ⟨rs, l, rfl, rfl, hrs, rfl, hl', hm⟩, rfl⟩ := hD
    rw [hsS_sc rs l, onS_eq]
    exact callP_of_wp (B := Tryz.B157) (l := []) (lm := lm157) (tp := [1]) (ct := []) (sm := []) (nb := 2) bok157 (Cts.nil _) rfl ((v157 n c n _ _ _).mpr (st2 hn hrs hl' hm ⟨rfl, rfl⟩))
theorem bok123 : BaseOk (Tryz.B.hk 157 (specP 2 R157)) := Tryz.bok.hk (ct157.hook Tryz.gtpB)
theorem ct123 : CtP Tryz.B.c0 123 2 R123 where
  body := ⟨_, _, Tryz.func123, rfl⟩
  ok := fun args hs D r hs' hR hD hl => by
    unfold R123 at hR
    split at hR <;> cases hR
    rename_i n c rl len rt cs ct
    obtain ⟨rfl, rfl, hn, ⟨rs, l, rfl, rfl, hrs, rfl, hl', hm⟩⟩ := hD
    rw [hsS_sc rs l, onS_eq]
    refine callP_of_wp (B := Tryz.B.hk 157 (specP 2 R157)) (l := []) (lm := []) (tp := []) (ct := []) (sm := []) (nb := 2) bok123 (Cts.nil _) rfl ((v123 n c _ _ _ _).mpr ?_)
    rw [onS_eq]
    refine ⟨⟨rfl, rfl, hn, ⟨rs, l, rfl, rfl, hrs, rfl, hl', hm⟩, rfl⟩, st_ok hn hrs l _ _ (by simp [noHL, noH]), cIf_pos (blkB (okBx_rs rs) _ []) ?_⟩
    rw [sc_encRs, encD_sc]
    exact ⟨rfl, rfl⟩
/-! The ranked indices. -/
theorem bok79 : BaseOk (Tryz.B.hk 123 (specP 2 R123)) := Tryz.bok.hk (ct123.hook Tryz.gtpB)
theorem range_get {n x : Nat} (h : x < n) : gN (List.range n) x = x := by simp [gN, List.getD_eq_getElem?_getD, h]
theorem rankL_perm (rs : List Rul) : (rankL rs).Perm (List.range rs.length) := stab_perm _ (by simp)
theorem rankL_len (rs : List Rul) : (rankL rs).length = rs.length := by rw [(rankL_perm rs).length_eq]; simp
theorem rankL_mem (rs : List Rul) : ∀ x ∈ rankL rs, x < rs.length := fun x hx => List.mem_range.1 ((rankL_perm rs).mem_iff.1 hx)
end Go.Proofs
/-! C20 -/
set_option maxRecDepth 100000
set_option linter.unusedVariables false
namespace Go.Ev
theorem noHL_rep (n : Nat) : ∀ k : Nat, noHL n (List.replicate k AV.bad) = true
  | 0 => rfl
  | k + 1 => by rw [List.replicate_succ, noHL, noHL_rep n k]; rfl
theorem noHL_app {n : Nat} {l m : List AV} (h1 : noHL n l = true) (h2 : noHL n m = true) : noHL n (l ++ m) = true := by rw [noHL_append, h1, h2]; rfl
theorem encD_drop (l : List Nat) (k : Nat) : List.drop k (Go.Proofs.encD l) = Go.Proofs.encD (l.drop k) := by simp [Go.Proofs.encD, List.map_drop]
theorem gN_drop (l : List Nat) (i : Nat) : gN (l.drop i) 0 = gN l i := by simp [gN, List.getD_eq_getElem?_getD, List.getElem?_drop]
theorem encD_dc {l : List Nat} {i : Nat} (h : i < l.length) : cI (List.drop ((i : Int).toNat * 1) (Go.Proofs.encD l)) 0 = (gN l i : Int) := by
  rw [Int.toNat_natCast, Nat.mul_one, encD_drop, encD_cI _ _ (by rw [List.length_drop]; omega), gN_drop]
theorem encD_dl {l : List Nat} {i : Nat} (h : i < l.length) : likeOk (AV.ofVal (Value.int IntKind.i64 (0 : Int))) ((List.drop ((i : Int).toNat * 1) (Go.Proofs.encD l)).getD 0 AV.bad) = true := by
  rw [Int.toNat_natCast, Nat.mul_one, encD_drop]; exact encD_like _ _ (by rw [List.length_drop]; omega)
theorem encD_dlen {l : List Nat} {i : Nat} (h : i < l.length) : decide (0 < (List.drop ((i : Int).toNat * 1) (Go.Proofs.encD l)).length) = true := by
  rw [Int.toNat_natCast, Nat.mul_one, encD_drop, encD_len, List.length_drop]; exact decide_eq_true (by omega)
theorem zeros_encD (n : Nat) : zerosA [I 0] n = Go.Proofs.encD (List.replicate n 0) := by
  simp [zerosA, Go.Proofs.encD, Nat.mod_one, List.map_const', List.map_replicate]
theorem pub_row {C : Cx} {hs : List (Option HB)} {h n c e : Nat} {l : List AV} (hg : hs[h]? = some (some (.cells l e))) (hsz : szT C e = some 1) (hl : n ≤ l.length) (hc : n ≤ c) (hn : noHL 0 (l.take n) = true) : pub C hs 0 (.row h 0 n c) = some (.vs (l.take n) n .none) := by
  unfold pub
  rw [if_neg (by omega), hg]
  simp only []
  rw [hsz]
  simp only [Nat.mul_one, List.drop_zero, Nat.zero_add]
  rw [if_pos ⟨hl, hc, by omega⟩, if_pos hn]
end Go.Ev
namespace Go.Proofs
open Go Go.Ev
theorem elT3_enc (x : Rul) : elT3 (encR x) = encT x.t := by rw [encT_eq]; rfl
/-! ranked -/
theorem fill_loop {rs : List Rul} (hrs : okRs rs) {Q : CR → Prop} (hQ : Q (.ret (.vs (encD (rankL rs)) rs.length .none))) : ∀ (d i : Nat) (l : List Nat), rs.length - i = d → i ≤ rs.length → l.length = rs.length → (∀ x, x < i → gN l x = x) →
    WLoop Tryz.X79 (cd PP 79 [1, 1, 0, 1, 0, 0]) ([X, .ptr 0 0, X, .row 1 0 rs.length rs.length, X, X, X, X, X, X, I rs.length, I i] ++ List.replicate 11 X) ⟨hsS rs l, [], []⟩ (kBlock 0 (kSeq Tryz.X79 (cd PP 79 [1, 1, 1]) (kRet Tryz.X79 79 Q))) := by
  have hn := hrs.2.1
  intro d
  induction d with
  | zero =>
    intro i l hd hi hl hid
    have he : l = List.range rs.length := by
      apply List.ext_getElem? 
      intro x
      rcases Nat.lt_or_ge x rs.length with h | h
      · have h1 := hid x (by omega)
        simp only [gN, List.getD_eq_getElem?_getD, List.getElem?_eq_getElem (show x < l.length by omega), Option.getD_some] at h1
        rw [List.getElem?_eq_getElem (show x < l.length by omega), List.getElem?_range h, h1]
      · rw [List.getElem?_eq_none (by omega), List.getElem?_eq_none (by simpa using h)]
    refine WLoop_unroll (C := Tryz.X79) (wcx_ones bok79 (Cts.nil _)) (wcx_ok bok79 (Cts.nil _)) ?_
    rw [hsS_eq, v79l, onS_eq]
    refine cIf_neg (decide_eq_false (by omega)) ?_
    have hmem : ∀ x ∈ l, x < rs.length := fun x hx => by rw [he] at hx; exact List.mem_range.1 hx
    refine ⟨⟨rfl, rfl, hn, ⟨rs, l, rfl, rfl, hrs, rfl, hl, hmem⟩⟩, st_ok hn hrs l _ _ (by simp [noHL, noH]), ?_⟩
    have hst : stab (ltR rs) rs.length l = rankL rs := by rw [he]; rfl
    rw [hst]
    show optW (pub Tryz.X79.pc (hsS rs (rankL rs)) 0 (.row 1 0 rs.length rs.length)) (fun r' => Q (.ret (scrub 0 r')))
    refine optW_some (v := .vs (encD (rankL rs)) rs.length .none) ?_ ?_
    · have hlen : (encD (rankL rs)).length = rs.length := by rw [encD_len, rankL_len]
      have := pub_row (C := Tryz.X79.pc) (hs := hsS rs (rankL rs)) (h := 1) (n := rs.length) (c := rs.length) (e := 3) (l := encD (rankL rs)) rfl (by kernel_rfl) (by omega) (Nat.le_refl _) (by rw [List.take_of_length_le (by omega)]; exact encD_noH 0 _)
      rw [this, List.take_of_length_le (by omega)]
    · show Q (.ret (.vs (scrubL 0 (encD (rankL rs))) rs.length .none))
      rw [encD_sc]
      exact hQ
  | succ d ih =>
    intro i l hd hi hl hid
    refine WLoop_unroll (C := Tryz.X79) (wcx_ones bok79 (Cts.nil _)) (wcx_ok bok79 (Cts.nil _)) ?_
    rw [hsS_eq, v79l, wA1 (a := i) (by omega)]
    simp only [row_at]
    have h1 : i < l.length := by omega
    rw [encD_put l _ _ h1]
    refine cIf_pos (decide_eq_true (by omega)) (cIf_pos (row_nn _) (cIf_pos (row_in (by omega)) (cIf_pos (row_le1 h1) ?_)))
    refine ih (i + 1) (l.set i i) (by omega) (by omega) (by simpa using hl) (fun x hx => ?_)
    by_cases hxi : x = i
    · subst hxi
      simp [gN, List.getD_eq_getElem?_getD, h1]
    · have := hid x (by omega)
      simpa [gN, List.getD_eq_getElem?_getD, List.getElem?_set_ne (Ne.symm hxi)] using this
theorem w79 {rs : List Rul} (hrs : okRs rs) {Q : CR → Prop} (hQ : Q (.ret (.vs (encD (rankL rs)) rs.length .none))) : wpF Tryz.X79 79 [.agg [.vs (encRs rs) rs.length .none]] Q := by
  have hn := hrs.2.1
  rw [v79]
  refine cIf_pos (decide_eq_true (by omega)) (cIf_pos (decide_eq_true (by omega)) (cIf_pos (decide_eq_true (by omega)) ?_))
  rw [show zerosA (List.map AV.ofVal (Value.int IntKind.i64 (0 : Int)).cells.toList) rs.length = encD (List.replicate rs.length 0) from zeros_encD _]
  exact fill_loop hrs hQ rs.length 0 _ (by omega) (by omega) (by simp) (fun x hx => by omega)
theorem ct79 : Ct Tryz.B.c0 79 R79 := Ct.of_wp (B := Tryz.B.hk 123 (specP 2 R123)) (l := []) (lm := lm79) (tp := []) (ct := []) (sm := []) bok79 (Cts.nil _) ⟨_, _, Tryz.func79, rfl⟩ fun args D r hR hD => by
  unfold R79 at hR
  split at hR <;> cases hR
  obtain ⟨rs, rfl, rfl, hrs⟩ := hD
  refine ⟨by simp [noHL, noH, noH_encRs], ?_⟩
  rw [show scrubL 0 [AV.agg [.vs (encRs rs) rs.length .none]] = [AV.agg [.vs (encRs rs) rs.length .none]] by simp [scrubL, scrub, sc_encRs, Tok.scrub], onEnc_eq encRs_inj]
  exact w79 hrs rfl
/-! decide -/
theorem c78 : Cts Tryz.B [(80, R80)] := (Cts.nil _).cons ct80
abbrev hsV (rs : List Rul) (p q : Prf) (v w : Int) : List (Option HB) := [some (.cells [.vs (encRs rs) rs.length .none] 25), some (.cells (encP p) 40), some (.cells (encP q) 40), some (.cells [U 0, I 0, I 0] 42), some (.cells [U 0, I v, I w] 42)]
section
variable {rs : List Rul} (hrs : okRs rs) (hsh : ∀ x ∈ rs, shT x.t = true) {p q : Prf} {ord : List Nat} (hol : ord.length ≤ 24) (hom : ∀ x ∈ ord, x < rs.length) {Q : CR → Prop}
theorem hsV_ok (rs : List Rul) (p q : Prf) (v w : Int) : (hsV rs p q v w).all (okBlk 5) = true := by
  simp [okBlk, noHB, noHL, noH, noH_encRs, noH_encP]
theorem hsV_ok6 (rs : List Rul) (p q : Prf) (v w : Int) (x : Rul) : (hsV rs p q v w ++ [some (HB.cells (encR x) 73)]).all (okBlk 6) = true := by
  simp [okBlk, noHB, noHL, noH, noH_encRs, noH_encP, noH_encR]
theorem dec_fin (v w : Int) (hQ : Q (.ret (.agg [U (kindV v w), I v, I w]))) :
    WCut Tryz.X78 (cd PP 78 [1, 1, 1, 1]) ([X, X, X, X, X, X, X, X, X, X, .ptr 3 0, .ptr 4 0] ++ List.replicate 83 X) ⟨hsV rs p q v w, [], []⟩ (kRet Tryz.X78 78 Q) := by
  refine WCut_of (C := Tryz.X78) (wcx_ones Tryz.bok c78) (wcx_ok Tryz.bok c78) ?_
  rw [v78e]
  unfold kindV at hQ
  refine cIf_intro (fun h => cIf_intro (fun h2 => ?_) (fun h2 => cIf_pos h ?_)) (fun h => cIf_neg h (cIf_intro (fun h2 => ?_) (fun h2 => ?_)))
  · rw [if_pos ⟨of_decide_eq_true h, of_decide_eq_true h2⟩] at hQ; exact hQ
  · have h := of_decide_eq_true h
    have h2 := of_decide_eq_false h2
    rw [if_neg (fun x => h2 x.2), if_pos h] at hQ; exact hQ
  · have h := of_decide_eq_false h
    have h2 := of_decide_eq_true h2
    rw [if_neg (fun x => h x.1), if_neg h, if_pos h2] at hQ; exact hQ
  · have h := of_decide_eq_false h
    have h2 := of_decide_eq_false h2
    rw [if_neg (fun x => h x.1), if_neg h, if_neg h2] at hQ; exact hQ
include hrs hsh hol hom
theorem dec_loop : ∀ (d i : Nat) (v w r : Int), ord.length - i = d → i ≤ ord.length →
    Q (.ret (.agg [U (kindV (decP (rkR rs) (thR rs p q) (thR rs q p) (ord.drop i) v w r).1 (decP (rkR rs) (thR rs p q) (thR rs q p) (ord.drop i) v w r).2), I (decP (rkR rs) (thR rs p q) (thR rs q p) (ord.drop i) v w r).1, I (decP (rkR rs) (thR rs p q) (thR rs q p) (ord.drop i) v w r).2])) →
    WLoop Tryz.X78 (cd PP 78 [1, 1, 1, 0, 1, 0, 0]) ([X, X, X, X, .raw .nilFunc, .ptr 0 0, X, .ptr 1 0, .ptr 2 0, X, .ptr 3 0, .ptr 4 0, I r, X, X, X, X, X, X, .vs (encD ord) ord.length .none, I ord.length, I i] ++ List.replicate 73 X) ⟨hsV rs p q v w, [], []⟩ (kBlock 0 (kSeq Tryz.X78 (cd PP 78 [1, 1, 1, 1]) (kRet Tryz.X78 78 Q))) := by
  intro d
  induction d with
  | zero =>
    intro i v w r hd hi hQ
    have hi' : i = ord.length := by omega
    subst hi'
    rw [List.drop_length] at hQ
    refine WLoop_unroll (C := Tryz.X78) (wcx_ones Tryz.bok c78) (wcx_ok Tryz.bok c78) ?_
    rw [v78l]
    exact cIf_neg (decide_eq_false (by omega)) (cIf_pos (hsV_ok rs p q v w) (dec_fin v w hQ))
  | succ d ih =>
    intro i v w r hd hi hQ
    have hlt : i < ord.length := by omega
    obtain ⟨j, hj, hdr⟩ := drop_cons hlt
    rw [hdr] at hQ
    have hg : gN ord i = j := by simp [gN, List.getD_eq_getElem?_getD, hj]
    have hjl : j < rs.length := hom j (List.mem_of_getElem? hj)
    obtain ⟨x, hx⟩ : ∃ x, rs[j]? = some x := ⟨_, List.getElem?_eq_getElem hjl⟩
    have hxm := List.mem_of_getElem? hx
    have hrk : rkR rs j = x.rank := by simp only [rkR, hx]
    have hth : thR rs p q j = hoT x.t p q := by simp only [thR, hx]
    have hbk : thR rs q p j = hoT x.t q p := by simp only [thR, hx]
    have henv : ∀ (a b c e f : AV) (k : AV), noHL 6 [a, b, c, e, f, k] = true → noHL 6 ([X, X, X, X, .raw .nilFunc, .ptr 0 0, X, .ptr 1 0, .ptr 2 0, X, .ptr 3 0, .ptr 4 0, a, X, b, c, e, f, X, .vs (encD ord) ord.length .none, I ord.length, k] ++ List.replicate 73 X) = true := fun a b c e f k h => by
      simp only [noHL, Bool.and_eq_true] at h
      refine noHL_app ?_ (noHL_rep 6 73)
      simp [noHL, noH, encD_noH, h]
    have henv5 : ∀ (a b c e f : AV) (k : AV), noHL 5 [a, b, c, e, f, k] = true → noHL 5 ([X, X, X, X, .raw .nilFunc, .ptr 0 0, X, .ptr 1 0, .ptr 2 0, X, .ptr 3 0, .ptr 4 0, a, X, b, c, e, f, X, .vs (encD ord) ord.length .none, I ord.length, k] ++ List.replicate 73 X) = true := fun a b c e f k h => by
      simp only [noHL, Bool.and_eq_true] at h
      refine noHL_app ?_ (noHL_rep 5 73)
      simp [noHL, noH, encD_noH, h]
    simp only [decP] at hQ
    rw [hrk, hth, hbk] at hQ
    refine WLoop_unroll (C := Tryz.X78) (wcx_ones Tryz.bok c78) (wcx_ok Tryz.bok c78) ?_
    rw [v78l, encD_dc hlt, hg, Int.toNat_natCast j, encRs_el hx, encR_w, elT3_enc]
    refine cIf_pos (decide_eq_true (by omega)) (cIf_pos (row_nn _) (cIf_pos (row_in hlt) (cIf_pos (decide_eq_true (by rw [encD_len]; omega)) (cIf_pos (encD_dlen hlt) (cIf_pos (encD_dl hlt) (cIf_pos (row_nn _) (cIf_pos (decide_eq_true hjl) (cIf_pos (decide_eq_true (encRs_len rs).symm) (cIf_pos (decide_eq_true (enc_drop_len (encRs_len rs) hjl)) (cIf_pos (encR_like x) ?_))))))))))
    refine cIf_intro (fun hb => ?_) (fun hb => ?_)
    · have hb : r > x.rank := of_decide_eq_true hb
      rw [if_pos hb] at hQ
      exact cIf_pos (hsV_ok rs p q v w) (dec_fin v w hQ)
    · have hb : ¬ r > x.rank := of_decide_eq_false hb
      rw [if_neg hb] at hQ
      have hht : ∀ a b : Prf, onEnc encT (fun t => onEnc encP (fun a => onEnc encP (fun b => hoT t a b) false (encP b)) false (encP a)) false (encT x.t) = hoT x.t a b := fun a b => by
        rw [onEnc_eq (fun _ _ => encT_inj _ _), onEnc_eq encP_inj, onEnc_eq encP_inj]
      rw [hht, hht]
      refine cIf_pos (by simp [noHL, noH, noH_encT, noH_encP]) ⟨⟨⟨x.t, rfl, (hrs.1.2 x hxm).1, hsh x hxm⟩, ⟨p, rfl⟩, q, rfl⟩, rfl, cIf_pos (by simp [noHL, noH, noH_encT, noH_encP]) ⟨⟨⟨x.t, rfl, (hrs.1.2 x hxm).1, hsh x hxm⟩, ⟨q, rfl⟩, p, rfl⟩, rfl, cIf_pos (henv _ _ _ _ _ _ rfl) (cIf_pos (hsV_ok6 rs p q v w x) ?_)⟩⟩
      refine WCut_of (C := Tryz.X78) (wcx_ones Tryz.bok c78) (wcx_ok Tryz.bok c78) ?_
      rw [v78a, wA1 (a := i) (by omega)]
      have cont : ∀ v' w' r' : Int, Q (.ret (.agg [U (kindV (decP (rkR rs) (thR rs p q) (thR rs q p) (ord.drop (i + 1)) v' w' r').1 (decP (rkR rs) (thR rs p q) (thR rs q p) (ord.drop (i + 1)) v' w' r').2), I (decP (rkR rs) (thR rs p q) (thR rs q p) (ord.drop (i + 1)) v' w' r').1, I (decP (rkR rs) (thR rs p q) (thR rs q p) (ord.drop (i + 1)) v' w' r').2])) → _ := fun v' w' r' h => ih (i + 1) v' w' r' (by omega) (by omega) h
      have two : Q (.ret (.agg [U (kindV (decP (rkR rs) (thR rs p q) (thR rs q p) (ord.drop (i + 1)) (if (hoT x.t p q && decide (v < 0)) = true then (j : Int) else v) (if (hoT x.t q p && decide (w < 0)) = true then (j : Int) else w) x.rank).1 (decP (rkR rs) (thR rs p q) (thR rs q p) (ord.drop (i + 1)) (if (hoT x.t p q && decide (v < 0)) = true then (j : Int) else v) (if (hoT x.t q p && decide (w < 0)) = true then (j : Int) else w) x.rank).2), I (decP (rkR rs) (thR rs p q) (thR rs q p) (ord.drop (i + 1)) (if (hoT x.t p q && decide (v < 0)) = true then (j : Int) else v) (if (hoT x.t q p && decide (w < 0)) = true then (j : Int) else w) x.rank).1, I (decP (rkR rs) (thR rs p q) (thR rs q p) (ord.drop (i + 1)) (if (hoT x.t p q && decide (v < 0)) = true then (j : Int) else v) (if (hoT x.t q p && decide (w < 0)) = true then (j : Int) else w) x.rank).2])) →
          WCut Tryz.X78 (cd PP 78 [1, 1, 1, 0, 1, 0, 0, 1, 1, 0, 0, 1, 1, 1, 1, 1, 1, 1]) ([X, X, X, X, .raw .nilFunc, .ptr 0 0, X, .ptr 1 0, .ptr 2 0, X, .ptr 3 0, .ptr 4 0, I x.rank, X, I j, X, Bo (hoT x.t p q), Bo (hoT x.t q p), X, .vs (encD ord) ord.length .none, I ord.length, I i] ++ List.replicate 73 X) ⟨hsV rs p q v w, [], []⟩ (kBlock 1 (kSeq Tryz.X78 (cd PP 78 [1, 1, 1, 0, 1, 0, 0, 1, 1, 1]) (kLoop Tryz.X78 (cd PP 78 [1, 1, 1, 0, 1, 0, 0]) (kBlock 0 (kSeq Tryz.X78 (cd PP 78 [1, 1, 1, 1]) (kRet Tryz.X78 78 Q)))))) := by
        intro h
        have step : ∀ v' : Int, v' = (if (hoT x.t p q && decide (v < 0)) = true then (j : Int) else v) →
            WCut Tryz.X78 (cd PP 78 [1, 1, 1, 0, 1, 0, 0, 1, 1, 0, 0, 1, 1, 1, 1, 1, 1, 1, 1]) ([X, X, X, X, .raw .nilFunc, .ptr 0 0, X, .ptr 1 0, .ptr 2 0, X, .ptr 3 0, .ptr 4 0, I x.rank, X, I j, X, X, Bo (hoT x.t q p), X, .vs (encD ord) ord.length .none, I ord.length, I i] ++ List.replicate 73 X) ⟨hsV rs p q v' w, [], []⟩ (kBlock 1 (kSeq Tryz.X78 (cd PP 78 [1, 1, 1, 0, 1, 0, 0, 1, 1, 1]) (kLoop Tryz.X78 (cd PP 78 [1, 1, 1, 0, 1, 0, 0]) (kBlock 0 (kSeq Tryz.X78 (cd PP 78 [1, 1, 1, 1]) (kRet Tryz.X78 78 Q)))))) := by
          intro v' hv'
          rw [← hv'] at h
          refine WCut_of (C := Tryz.X78) (wcx_ones Tryz.bok c78) (wcx_ok Tryz.bok c78) ?_
          rw [v78c, wA1 (a := i) (by omega)]
          refine cIf_intro (fun h1 => cIf_intro (fun h2 => ?_) (fun h2 => ?_)) (fun h1 => ?_)
          · rw [if_pos (by rw [h1, h2]; rfl)] at h
            exact cIf_pos (henv5 _ _ _ _ _ _ rfl) (cIf_pos (hsV_ok rs p q v' j) (cont _ _ _ h))
          · rw [if_neg (by rw [h1, h2]; simp)] at h
            exact cIf_pos (henv5 _ _ _ _ _ _ rfl) (cIf_pos (hsV_ok rs p q v' w) (cont _ _ _ h))
          · rw [if_neg (by rw [h1]; simp)] at h
            exact cIf_pos (henv5 _ _ _ _ _ _ rfl) (cIf_pos (hsV_ok rs p q v' w) (cont _ _ _ h))
        refine WCut_of (C := Tryz.X78) (wcx_ones Tryz.bok c78) (wcx_ok Tryz.bok c78) ?_
        rw [v78b]
        refine cIf_intro (fun h1 => cIf_intro (fun h2 => ?_) (fun h2 => ?_)) (fun h1 => ?_)
        · exact cIf_pos (henv5 _ _ _ _ _ _ rfl) (cIf_pos (hsV_ok rs p q j w) (step j (by rw [if_pos (by rw [h1, h2]; rfl)])))
        · exact cIf_pos (henv5 _ _ _ _ _ _ rfl) (cIf_pos (hsV_ok rs p q v w) (step v (by rw [if_neg (by rw [h1, h2]; simp)])))
        · exact cIf_pos (henv5 _ _ _ _ _ _ rfl) (cIf_pos (hsV_ok rs p q v w) (step v (by rw [if_neg (by rw [h1]; simp)])))
      refine cIf_intro (fun h1 => cIf_intro (fun h2 => ?_) (fun h2 => ?_)) (fun h1 => ?_)
      · rw [if_pos (by rw [h1, h2]; rfl)] at hQ
        exact cIf_pos (henv5 _ _ _ _ _ _ rfl) (cIf_pos (hsV_ok rs p q v w) (cont _ _ _ hQ))
      · rw [if_neg (by rw [h1, h2]; simp)] at hQ
        exact cIf_pos (henv5 _ _ _ _ _ _ rfl) (cIf_pos (hsV_ok rs p q v w) (two hQ))
      · rw [if_neg (by rw [h1]; simp)] at hQ
        exact cIf_pos (henv5 _ _ _ _ _ _ rfl) (cIf_pos (hsV_ok rs p q v w) (two hQ))
end
theorem ct78 : Ct Tryz.B.c0 78 R78 := Ct.of_wp (lm := lm78) (tp := []) (ct := [9, 13, 15, 18]) (sm := [(4, 5), (9, 6), (13, 5), (15, 5), (18, 5)]) Tryz.bok c78 ⟨_, _, Tryz.func78, rfl⟩ fun args D r hR hD => by
  unfold R78 at hR
  split at hR <;> cases hR
  obtain ⟨⟨rs, ord, rfl, rfl, hrs, hsh, rfl, rfl, hol, hom⟩, ⟨p, rfl⟩, q, rfl⟩ := hD
  refine ⟨by simp [noHL, noH, noH_encRs, noH_encP, encD_noH], ?_⟩
  rw [show scrubL 0 [AV.agg [.vs (encRs rs) rs.length .none], .vs (encD ord) ord.length .none, .agg (encP p), .agg (encP q), .raw .nilFunc] = [AV.agg [.vs (encRs rs) rs.length .none], .vs (encD ord) ord.length .none, .agg (encP p), .agg (encP q), .raw .nilFunc] by simp [scrubL, scrub, sc_encRs, Tok.scrub, encD_sc, sc_encP]]
  have he : dvP (encRs rs) (encD ord) (encP p) (encP q) = decP (rkR rs) (thR rs p q) (thR rs q p) ord (-1) (-1) 0 := by
    unfold dvP on3
    rw [onEnc_eq encRs_inj, onEnc_eq encP_inj, onEnc_eq encP_inj]
    dsimp only
    rw [onEnc_eq encD_inj]
  rw [he]
  refine (v78 _ _ _ _ p q _).mpr (cIf_pos ?_ (cIf_pos (hsV_ok rs p q (-1) (-1)) (dec_loop hrs hsh hol hom ord.length 0 (-1) (-1) 0 (by omega) (by omega) rfl)))
  refine noHL_app ?_ (noHL_rep 5 73)
  simp [noHL, noH, encD_noH]
/-! Decide -/
theorem chkL_ok : ∀ (l prev : List Rul), chkL prev l = 0 → ∀ x ∈ l, rangesB x = true ∧ smallB x.t = true ∧ shT x.t = true ∧ isWordB x.name = true
  | [], prev, h, x, hx => by simp at hx
  | y :: l, prev, h, x, hx => by
    simp only [chkL] at h
    by_cases h1 : isWordB y.name = false
    · rw [if_pos h1] at h; cases h
    · rw [if_neg h1] at h
      by_cases h2 : (prev.any fun z => z.name == y.name) = true
      · rw [if_pos h2] at h; cases h
      · rw [if_neg h2] at h
        by_cases h3 : rangesB y = false
        · rw [if_pos h3] at h; cases h
        · rw [if_neg h3] at h
          by_cases h4 : smallB y.t = false
          · rw [if_pos h4] at h; cases h
          · rw [if_neg h4] at h
            by_cases h5 : shT y.t = false
            · rw [if_pos h5] at h; cases h
            · rw [if_neg h5] at h
              rcases List.mem_cons.1 hx with rfl | hx
              · exact ⟨by simpa using h3, by simpa using h4, by simpa using h5, by simpa using h1⟩
              · exact chkL_ok l _ h x hx
theorem chk_ok {rs : List Rul} (hw : wfRs rs) (h : chk rs = 0) : okRs rs ∧ (∀ x ∈ rs, shT x.t = true) ∧ ∀ x ∈ rs, smallB x.t = true ∧ rangesB x = true ∧ isWordB x.name = true := by
  unfold chk at h
  by_cases h1 : rs.length > 24
  · rw [if_pos h1] at h; cases h
  · rw [if_neg h1] at h
    have h2 := chkL_ok rs [] h
    refine ⟨⟨hw, by omega, fun x hx => ?_⟩, fun x hx => (h2 x hx).2.2.1, fun x hx => ⟨(h2 x hx).2.1, (h2 x hx).1, (h2 x hx).2.2.2⟩⟩
    have := (h2 x hx).1
    simp only [rangesB, Bool.and_eq_true, decide_eq_true_eq] at this
    exact this.1
theorem both_chk {rs : List Rul} {p q : Prf} (h : bothE rs p q = 0) : chk rs = 0 := by
  unfold bothE at h
  by_cases h1 : chk rs = 0
  · exact h1
  · rw [if_neg h1] at h; exact h
theorem ct28 : Ct Tryz.B.c0 28 R28 := Ct.of_wp (B := Tryz.B) (g := 28) (R := R28) (l := [(77, R77), (78, R78), (79, R79)]) (lm := []) (tp := []) (ct := []) (sm := []) Tryz.bok ((((Cts.nil _).cons ct79).cons ct78).cons ct77) ⟨_, _, Tryz.func28, rfl⟩ fun args D r hR hD => by
  unfold R28 at hR
  split at hR <;> cases hR
  obtain ⟨⟨rs, rfl, rfl, hw⟩, ⟨p, rfl⟩, q, rfl⟩ := hD
  refine ⟨by simp [noHL, noH, noH_encRs, noH_encP], ?_⟩
  rw [show scrubL 0 [AV.agg [.vs (encRs rs) rs.length .none], .agg (encP p), .agg (encP q)] = [AV.agg [.vs (encRs rs) rs.length .none], .agg (encP p), .agg (encP q)] by simp [scrubL, scrub, sc_encRs, Tok.scrub, sc_encP]]
  have he : dvD (encRs rs) (encP p) (encP q) = verdE rs p q := by
    unfold dvD on3
    rw [onEnc_eq encRs_inj, onEnc_eq encP_inj, onEnc_eq encP_inj]
  rw [he]
  refine (v28 _ _ p q _).mpr ⟨⟨⟨rs, rfl, rfl, hw⟩, ⟨p, rfl⟩, q, rfl⟩, ?_⟩
  rw [onEnc_eq encRs_inj, onEnc_eq encP_inj, onEnc_eq encP_inj]
  unfold verdE
  refine cIf_intro (fun h => ?_) (fun h => ?_)
  · have h : ¬ bothE rs p q = 0 := by simpa using h
    rw [if_neg h]
  · have h : bothE rs p q = 0 := by simpa using h
    rw [if_pos h]
    obtain ⟨h1, h2, _⟩ := chk_ok hw (both_chk h)
    rw [onEnc_eq encRs_inj]
    have hd : dvP (encRs rs) (encD (rankL rs)) (encP p) (encP q) = decV rs p q := by
      unfold dvP on3
      rw [onEnc_eq encRs_inj, onEnc_eq encP_inj, onEnc_eq encP_inj]
      dsimp only
      rw [onEnc_eq encD_inj]
      rfl
    rw [hd]
    refine cIf_pos (by simp [noHL, noH, noH_encRs]) ⟨⟨rs, rfl, rfl, h1⟩, rfl, cIf_pos (by simp [noHL, noH, noH_encRs, encD_noH, noH_encP]) ⟨⟨⟨rs, rankL rs, rfl, rfl, h1, h2, rfl, (rankL_len rs).symm, by rw [rankL_len]; exact h1.2.1, rankL_mem rs⟩, ⟨p, rfl⟩, q, rfl⟩, rfl, rfl⟩⟩
end Go.Proofs
