/- Contracts of functions of the program and of the reference. -/
import Derived.Test.YtljjkomdibkjpaaGreatDoorK11
import Derived.Test.YtljjkomdibkjpaaGreatDoorAliveZ
import Derived.KernelRfl
set_option linter.unusedVariables false
set_option linter.unusedSimpArgs false
/-! VC24 -/
set_option maxRecDepth 100000
set_option linter.unusedVariables false
namespace Go.Ev
/-- What a token tells. -/
def tokW (t : Tok) (n z : Prop) (o : Nat → Prop) : Prop := match t with
  | .none => n
  | .zero => z
  | .own k => o k
end Go.Ev
namespace Go.Proofs
open Go Go.Ev
def elP (E : List AV) : List AV := [I (cI E 0), I (cI E 1), Bo (cB E 2), Bo (cB E 3), Bo (cB E 4), I (cI E 5), I (cI E 6)]
def zP : List AV := [I 0, I 0, Bo false, Bo false, Bo false, I 0, I 0]
def encPs : List Prf → List AV
  | [] => []
  | p :: l => encP p ++ encPs l
/-- The small profiles. -/
def profL : List Prf := (List.range 120).map fun i => ⟨1 + (i / 24 : Nat), (i / 8 % 3 : Nat), decide (i / 4 % 2 = 1), decide (i / 2 % 2 = 1), decide (i % 2 = 1), 0, 0⟩
def RPl (pl : List AV) : Spc := fun args => match args with
  | [] => some (True, .ret (.vs pl 120 .none))
  | _ => none
def pK (B : Nat → Nat → Bool) (i j : Nat) : List Nat → Option (Nat × Nat × Nat)
  | [] => none
  | k :: l => if (B i j && B j k && B k i) = true then some (i, j, k) else pK B i j l
def pJ (B : Nat → Nat → Bool) (n i : Nat) : List Nat → Option (Nat × Nat × Nat)
  | [] => none
  | j :: l => match pK B i j (List.range n) with
    | some x => some x
    | none => pJ B n i l
def pI (B : Nat → Nat → Bool) (n : Nat) : List Nat → Option (Nat × Nat × Nat)
  | [] => none
  | i :: l => match pJ B n i (List.range n) with
    | some x => some x
    | none => pI B n l
/-- A goes before b. -/
def befP (rs : List Rul) (p q : Prf) : Bool := kindV (decV rs p q).1 (decV rs p q).2 == 1
def befB (rs : List Rul) (i j : Nat) : Bool := match profL[i]?, profL[j]? with
  | some p, some q => befP rs p q
  | _, _ => false
def circV : Option (Nat × Nat × Nat) → List Prf
  | some (i, j, k) => (profL[i]?).toList ++ (profL[j]?).toList ++ (profL[k]?).toList
  | none => []
def circR (rs : List Rul) : List Prf × Bool × Int := if chk rs = 0 then (circV (pI (befB rs) 120 (List.range 120)), (pI (befB rs) 120 (List.range 120)).isSome, 0) else ([], false, chk rs)
noncomputable def circE (l : List AV) : List Prf × Bool × Int := onEnc encRs circR ([], false, 0) l
def tkP (l : List Prf) : Tok := if l.length = 0 then .zero else .none
noncomputable def R35 : Spc := fun args => match args with
  | [.agg [.vs l len .none]] => some (∃ rs, l = encRs rs ∧ len = rs.length ∧ wfRs rs, .ret (.tup [.vs (encPs (circE l).1) (circE l).1.length (tkP (circE l).1), Bo (circE l).2.1, I (circE l).2.2]))
  | _ => none
noncomputable def R37 : Spc := fun args => match args with
  | [.vs a n _, .vs b m _] => some ((∃ x, a = encPs x ∧ n = x.length ∧ x.length ≤ 1000) ∧ b = a ∧ m = n, rB true)
  | _ => none
def lm35 : List (Nat × List Nat) := [(8, [1, 6, 7, 8, 27, 28, 29]), (11, [1, 6, 7, 8, 9, 10, 27, 28, 29, 34, 35, 36]), (15, [1, 6, 7, 8, 27, 28, 29]), (16, [7, 8]), (17, [7, 8, 59, 60]), (20, [7, 8, 13, 59, 60, 64, 65]), (23, [7, 8, 13, 14, 59, 60, 64, 65, 69, 70]), (28, [7, 8, 13, 59, 60, 64, 65]), (29, [7, 8, 59, 60]), (30, [])]
noncomputable def Tryz.X35 (pl : List AV) : WCx := Tryz.B.wcx [(27, R27), (38, RPl pl), (78, R78), (79, R79)] lm35 [1] [] [(8, 2), (11, 3)]
def lm36 : List (Nat × List Nat) := [(8, [1, 6, 7, 8, 9]), (9, [1, 6, 7, 8, 9]), (11, [1, 6, 7, 8, 9, 10]), (15, [6, 7, 8]), (16, [6, 7, 8, 12]), (17, [6, 7, 8, 12]), (19, [6, 7, 8, 12, 13]), (20, [6, 7, 8, 12, 13]), (23, [6, 7, 8, 12, 13, 14]), (27, [])]
noncomputable def Tryz.X36 (pl : List AV) : WCx := Tryz.B.wcx [(54, RPl pl), (70, R70), (83, R83)] lm36 [1] [] [(8, 2), (11, 2)]
def lm37 : List (Nat × List Nat) := [(4, [0, 1, 5]), (8, [])]
noncomputable def Tryz.X37 : WCx := Tryz.B.wcx [] lm37
def R9 : Spc := fun args => match args with
  | [.agg [.vs l len .none]] => some (∃ rs, l = encRs rs ∧ len = rs.length ∧ wfRs rs, rB true)
  | _ => none
noncomputable def l9 : List (FuncId × Spc) := [(20, R20), (24, R24), (35, R35), (36, R35), (37, R37)]
noncomputable def Tryz.X9 : WCx := Tryz.B.wcx l9
theorem v35 (pl : List AV) (l : List AV) (len : Nat) (Q : CR → Prop) : wpF (Tryz.X35 pl) 35 [.agg [.vs l len .none]] Q =
  ((∃ (rs : List Rul), l = encRs rs ∧ len = rs.length ∧ wfRs rs) ∧ cIf (onEnc encRs chk (0 : Int) l != (0 : Int)) (Q (CR.ret (AV.tup [AV.vs [] 0 Tok.zero, Bo false, I (onEnc encRs chk (0 : Int) l)]))) ((∃ (rs : List Rul), l = encRs rs ∧ len = rs.length ∧ okRs rs) ∧ True ∧ cIf (noHL 2 ([X, AV.ptr 0 0, X, X, X, X, AV.vs (encD (onEnc encRs rankL [] l)) len Tok.none, AV.vs pl 120 Tok.none, AV.row 1 0 120 120, X, X, X, X, X, X, X, X, X, X, X, X, X, X, X, X, X, X, AV.vs pl 120 Tok.none, I (120 : Int), I (0 : Int)] ++ List.replicate 84 X)) (cIf ([some (HB.cells [AV.vs l len Tok.none] 25), some (HB.cells (zerosA [AV.vs [] 0 Tok.zero] 120) 118)].all (okBlk 2)) (WLoop (Tryz.X35 pl) (cd (Tryz.X35 pl).P 35 [1, 1, 1, 1, 1, 0, 1, 0, 0]) ([X, AV.ptr 0 0, X, X, X, X, AV.vs (encD (onEnc encRs rankL [] l)) len Tok.none, AV.vs pl 120 Tok.none, AV.row 1 0 120 120, X, X, X, X, X, X, X, X, X, X, X, X, X, X, X, X, X, X, AV.vs pl 120 Tok.none, I (120 : Int), I (0 : Int)] ++ List.replicate 84 X) (St.mk [some (HB.cells [AV.vs l len Tok.none] 25), some (HB.cells (zerosA [AV.vs [] 0 Tok.zero] 120) 118)] [] []) (kBlock 0 (kSeq (Tryz.X35 pl) (cd (Tryz.X35 pl).P 35 [1, 1, 1, 1, 1, 1]) (kRet (Tryz.X35 pl) 35 Q)))) False) False)) := by kernel_rfl
theorem v35a (pl l od rw : List AV) (len on : Nat) (T : List (Nat × (Nat × Nat))) (i : Int) (Q : CR → Prop) : wpC (Tryz.X35 pl) (cd PP 35 [1, 1, 1, 1, 1, 0, 1, 0, 0]) ([X, .ptr 0 0, X, X, X, X, .vs od on .none, .vs pl 120 .none, .row 1 0 120 120, X, X, X, X, X, X, X, X, X, X, X, X, X, X, X, X, X, X, .vs pl 120 .none, I 120, I i] ++ List.replicate 84 X) ⟨[some (.cells [.vs l len .none] 25), some (.cells rw 118)], T, []⟩ (kLoop (Tryz.X35 pl) (cd PP 35 [1, 1, 1, 1, 1, 0, 1, 0, 0]) (kBlock 0 (kSeq (Tryz.X35 pl) (cd PP 35 [1, 1, 1, 1, 1, 1]) (kRet (Tryz.X35 pl) 35 Q)))) =
  (cIf (decide (i < (120 : Int))) (cIf (decide ((0 : Int) ≤ i)) (cIf (decide (i.toNat < 120)) (cIf (decide (840 = pl.length)) (cIf (decide (7 ≤ (List.drop (i.toNat * 7) pl).length)) (cIf (like zP (el (List.drop (i.toNat * 7) pl) 0 7)) (cIf (noHL 3 ([X, AV.ptr 0 0, X, X, X, X, AV.vs od on Tok.none, AV.vs pl 120 Tok.none, AV.row 1 0 120 120, I i, AV.ptr 2 0, X, X, X, X, X, X, X, X, X, X, X, X, X, X, X, X, AV.vs pl 120 Tok.none, I (120 : Int), I i, X, X, X, X, AV.vs pl 120 Tok.none, I (120 : Int), I (0 : Int)] ++ List.replicate 77 X)) (cIf ([some (HB.cells [AV.vs l len Tok.none] 25), some (HB.cells rw 118), some (HB.cells (elP (el (List.drop (i.toNat * 7) pl) 0 7)) 40)].all (okBlk 3)) (WLoop (Tryz.X35 pl) (cd PP 35 [1, 1, 1, 1, 1, 0, 1, 0, 0, 1, 1, 0, 0, 1, 1, 0, 0]) ([X, AV.ptr 0 0, X, X, X, X, AV.vs od on Tok.none, AV.vs pl 120 Tok.none, AV.row 1 0 120 120, I i, AV.ptr 2 0, X, X, X, X, X, X, X, X, X, X, X, X, X, X, X, X, AV.vs pl 120 Tok.none, I (120 : Int), I i, X, X, X, X, AV.vs pl 120 Tok.none, I (120 : Int), I (0 : Int)] ++ List.replicate 77 X) (St.mk [some (HB.cells [AV.vs l len Tok.none] 25), some (HB.cells rw 118), some (HB.cells (elP (el (List.drop (i.toNat * 7) pl) 0 7)) 40)] T []) (kBlock 2 (kBlock 1 (kSeq (Tryz.X35 pl) (cd PP 35 [1, 1, 1, 1, 1, 0, 1, 0, 0, 1, 1, 1]) (kLoop (Tryz.X35 pl) (cd PP 35 [1, 1, 1, 1, 1, 0, 1, 0, 0]) (kBlock 0 (kSeq (Tryz.X35 pl) (cd PP 35 [1, 1, 1, 1, 1, 1]) (kRet (Tryz.X35 pl) 35 Q)))))))) False) False) False) False) False) False) False) (WLoop (Tryz.X35 pl) (cd PP 35 [1, 1, 1, 1, 1, 1, 0, 1, 0, 0]) ([X, X, X, X, X, X, X, AV.vs pl 120 Tok.none, AV.row 1 0 120 120, X, X, X, X, X, X, X, X, X, X, X, X, X, X, X, X, X, X, X, X, X, X, X, X, X, X, X, X, X, X, X, X, X, X, X, X, X, X, X, X, X, X, X, X, X, X, X, X, X, X, I (120 : Int), I (0 : Int)] ++ List.replicate 53 X) (St.mk [some (HB.cells [AV.vs l len Tok.none] 25), some (HB.cells rw 118)] T []) (kBlock 4 (kSeq (Tryz.X35 pl) (cd PP 35 [1, 1, 1, 1, 1, 1, 1]) (kRet (Tryz.X35 pl) 35 Q))))) := by kernel_rfl
theorem v35b (pl l od rw : List AV) (len on : Nat) (T : List (Nat × (Nat × Nat))) (a : Prf) (i j : Int) (Q : CR → Prop) : wpC (Tryz.X35 pl) (cd PP 35 [1, 1, 1, 1, 1, 0, 1, 0, 0, 1, 1, 0, 0, 1, 1, 0, 0]) ([X, .ptr 0 0, X, X, X, X, .vs od on .none, .vs pl 120 .none, .row 1 0 120 120, I i, .ptr 2 0, X, X, X, X, X, X, X, X, X, X, X, X, X, X, X, X, .vs pl 120 .none, I 120, I i, X, X, X, X, .vs pl 120 .none, I 120, I j] ++ List.replicate 77 X) ⟨[some (.cells [.vs l len .none] 25), some (.cells rw 118), some (.cells (encP a) 40)], T, []⟩ (kLoop (Tryz.X35 pl) (cd PP 35 [1, 1, 1, 1, 1, 0, 1, 0, 0, 1, 1, 0, 0, 1, 1, 0, 0]) (kBlock 2 (kBlock 1 (kSeq (Tryz.X35 pl) (cd PP 35 [1, 1, 1, 1, 1, 0, 1, 0, 0, 1, 1, 1]) (kLoop (Tryz.X35 pl) (cd PP 35 [1, 1, 1, 1, 1, 0, 1, 0, 0]) (kBlock 0 (kSeq (Tryz.X35 pl) (cd PP 35 [1, 1, 1, 1, 1, 1]) (kRet (Tryz.X35 pl) 35 Q)))))))) =
  (cIf (decide (j < (120 : Int))) (cIf (decide ((0 : Int) ≤ j)) (cIf (decide (j.toNat < 120)) (cIf (decide (840 = pl.length)) (cIf (decide (7 ≤ (List.drop (j.toNat * 7) pl).length)) (cIf (like zP (el (List.drop (j.toNat * 7) pl) 0 7)) (cIf (decide ((0 : Int) ≤ i)) (cIf (decide (i.toNat < 120)) (cIf (decide (0 + i.toNat * 1 < rw.length)) (cIf (likeOk (AV.ofVal (Value.slice none 0 0)) (rw.getD (0 + i.toNat * 1) X)) (cIf (noHL [some (HB.cells [AV.vs l len Tok.none] 25), some (HB.cells rw 118), some (HB.cells (encP a) 40), some (HB.cells (elP (el (List.drop (j.toNat * 7) pl) 0 7)) 40)].length ([] ++ [AV.agg [AV.vs l len Tok.none], AV.vs od on Tok.none, AV.agg (encP a), AV.agg (elP (el (List.drop (j.toNat * 7) pl) 0 7)), AV.raw RV.nilFunc] ++ [])) (((∃ (rs : List Rul), ∃ (ord : List Nat), l = encRs rs ∧ len = rs.length ∧ okRs rs ∧ (∀ (x : Rul), x ∈ rs → shT x.t = true) ∧ od = encD ord ∧ on = ord.length ∧ ord.length ≤ 24 ∧ ∀ (x : Nat), x ∈ ord → x < rs.length) ∧ (∃ (p : Prf), (encP a) = encP p) ∧ ∃ (q : Prf), (elP (el (List.drop (j.toNat * 7) pl) 0 7)) = encP q) ∧ St.mk [some (HB.cells [AV.vs l len Tok.none] 25), some (HB.cells rw 118), some (HB.cells (encP a) 40), some (HB.cells (elP (el (List.drop (j.toNat * 7) pl) 0 7)) 40)] T [3] = St.mk [some (HB.cells [AV.vs l len Tok.none] 25), some (HB.cells rw 118), some (HB.cells (encP a) 40), some (HB.cells (elP (el (List.drop (j.toNat * 7) pl) 0 7)) 40)] T [3] ∧ cIf (decide ((cN rw (0 + i.toNat * 1) + 1) * 1 ≤ 140737488355328)) (cIf (decide (cN rw (0 + i.toNat * 1) + 1 ≤ 140737488355328)) (cIf (decide ((cL rw (0 + i.toNat * 1)).length = cN rw (0 + i.toNat * 1) * 1)) (tokW (cT rw (0 + i.toNat * 1)) False (cIf (decide (cN rw (0 + i.toNat * 1) = 0)) (cIf (decide ((0 : Int) ≤ i)) (cIf (decide (i.toNat < 120)) (cIf (decide (0 + i.toNat * 1 + 1 ≤ rw.length)) (cIf (noHL 3 ([X, AV.ptr 0 0, X, X, X, X, AV.vs od on Tok.none, AV.vs pl 120 Tok.none, AV.row 1 0 120 120, I i, AV.ptr 2 0, X, X, X, X, X, X, X, X, X, X, X, X, X, X, X, X, AV.vs pl 120 Tok.none, I (120 : Int), I i, X, X, X, X, AV.vs pl 120 Tok.none, I (120 : Int), I (IntKind.i64.wrap (j + (1 : Int)))] ++ List.replicate 77 X)) (cIf ([some (HB.cells [AV.vs l len Tok.none] 25), some (HB.cells (putL rw (0 + i.toNat * 1) [AV.vs [AV.bool (kindV (dvP l od (encP a) (elP (el (List.drop (j.toNat * 7) pl) 0 7))).fst (dvP l od (encP a) (elP (el (List.drop (j.toNat * 7) pl) 0 7))).snd == (1 : Int))] 1 (Tok.own T.length)]) 118), some (HB.cells (encP a) 40)].all (okBlk 3)) (WLoop (Tryz.X35 pl) (cd PP 35 [1, 1, 1, 1, 1, 0, 1, 0, 0, 1, 1, 0, 0, 1, 1, 0, 0]) ([X, AV.ptr 0 0, X, X, X, X, AV.vs od on Tok.none, AV.vs pl 120 Tok.none, AV.row 1 0 120 120, I i, AV.ptr 2 0, X, X, X, X, X, X, X, X, X, X, X, X, X, X, X, X, AV.vs pl 120 Tok.none, I (120 : Int), I i, X, X, X, X, AV.vs pl 120 Tok.none, I (120 : Int), I (IntKind.i64.wrap (j + (1 : Int)))] ++ List.replicate 77 X) (St.mk [some (HB.cells [AV.vs l len Tok.none] 25), some (HB.cells (putL rw (0 + i.toNat * 1) [AV.vs [AV.bool (kindV (dvP l od (encP a) (elP (el (List.drop (j.toNat * 7) pl) 0 7))).fst (dvP l od (encP a) (elP (el (List.drop (j.toNat * 7) pl) 0 7))).snd == (1 : Int))] 1 (Tok.own T.length)]) 118), some (HB.cells (encP a) 40)] (T ++ [(1, 1, 4)]) []) (kBlock 2 (kBlock 1 (kSeq (Tryz.X35 pl) (cd PP 35 [1, 1, 1, 1, 1, 0, 1, 0, 0, 1, 1, 1]) (kLoop (Tryz.X35 pl) (cd PP 35 [1, 1, 1, 1, 1, 0, 1, 0, 0]) (kBlock 0 (kSeq (Tryz.X35 pl) (cd PP 35 [1, 1, 1, 1, 1, 1]) (kRet (Tryz.X35 pl) 35 Q)))))))) False) False) False) False) False) False) fun (k : Nat) => cIf (decide (T[k]? = some (cN rw (0 + i.toNat * 1), 1, 4))) (cIf (decide ((0 : Int) ≤ i)) (cIf (decide (i.toNat < 120)) (cIf (decide (0 + i.toNat * 1 + 1 ≤ rw.length)) (cIf (noHL 3 ([X, AV.ptr 0 0, X, X, X, X, AV.vs od on Tok.none, AV.vs pl 120 Tok.none, AV.row 1 0 120 120, I i, AV.ptr 2 0, X, X, X, X, X, X, X, X, X, X, X, X, X, X, X, X, AV.vs pl 120 Tok.none, I (120 : Int), I i, X, X, X, X, AV.vs pl 120 Tok.none, I (120 : Int), I (IntKind.i64.wrap (j + (1 : Int)))] ++ List.replicate 77 X)) (cIf ([some (HB.cells [AV.vs l len Tok.none] 25), some (HB.cells (putL rw (0 + i.toNat * 1) [AV.vs (cL rw (0 + i.toNat * 1) ++ [AV.bool (kindV (dvP l od (encP a) (elP (el (List.drop (j.toNat * 7) pl) 0 7))).fst (dvP l od (encP a) (elP (el (List.drop (j.toNat * 7) pl) 0 7))).snd == (1 : Int))]) (cN rw (0 + i.toNat * 1) + 1) (Tok.own k)]) 118), some (HB.cells (encP a) 40)].all (okBlk 3)) (WLoop (Tryz.X35 pl) (cd PP 35 [1, 1, 1, 1, 1, 0, 1, 0, 0, 1, 1, 0, 0, 1, 1, 0, 0]) ([X, AV.ptr 0 0, X, X, X, X, AV.vs od on Tok.none, AV.vs pl 120 Tok.none, AV.row 1 0 120 120, I i, AV.ptr 2 0, X, X, X, X, X, X, X, X, X, X, X, X, X, X, X, X, AV.vs pl 120 Tok.none, I (120 : Int), I i, X, X, X, X, AV.vs pl 120 Tok.none, I (120 : Int), I (IntKind.i64.wrap (j + (1 : Int)))] ++ List.replicate 77 X) (St.mk [some (HB.cells [AV.vs l len Tok.none] 25), some (HB.cells (putL rw (0 + i.toNat * 1) [AV.vs (cL rw (0 + i.toNat * 1) ++ [AV.bool (kindV (dvP l od (encP a) (elP (el (List.drop (j.toNat * 7) pl) 0 7))).fst (dvP l od (encP a) (elP (el (List.drop (j.toNat * 7) pl) 0 7))).snd == (1 : Int))]) (cN rw (0 + i.toNat * 1) + 1) (Tok.own k)]) 118), some (HB.cells (encP a) 40)] (T.set k (cN rw (0 + i.toNat * 1) + 1, 1, 4)) []) (kBlock 2 (kBlock 1 (kSeq (Tryz.X35 pl) (cd PP 35 [1, 1, 1, 1, 1, 0, 1, 0, 0, 1, 1, 1]) (kLoop (Tryz.X35 pl) (cd PP 35 [1, 1, 1, 1, 1, 0, 1, 0, 0]) (kBlock 0 (kSeq (Tryz.X35 pl) (cd PP 35 [1, 1, 1, 1, 1, 1]) (kRet (Tryz.X35 pl) 35 Q)))))))) False) False) False) False) False) False) False) False) False) False) False) False) False) False) False) False) False) False) False) (cIf (noHL 2 ([X, AV.ptr 0 0, X, X, X, X, AV.vs od on Tok.none, AV.vs pl 120 Tok.none, AV.row 1 0 120 120, X, X, X, X, X, X, X, X, X, X, X, X, X, X, X, X, X, X, AV.vs pl 120 Tok.none, I (120 : Int), I (IntKind.i64.wrap (i + (1 : Int)))] ++ List.replicate 84 X)) (cIf ([some (HB.cells [AV.vs l len Tok.none] 25), some (HB.cells rw 118)].all (okBlk 2)) (WLoop (Tryz.X35 pl) (cd PP 35 [1, 1, 1, 1, 1, 0, 1, 0, 0]) ([X, AV.ptr 0 0, X, X, X, X, AV.vs od on Tok.none, AV.vs pl 120 Tok.none, AV.row 1 0 120 120, X, X, X, X, X, X, X, X, X, X, X, X, X, X, X, X, X, X, AV.vs pl 120 Tok.none, I (120 : Int), I (IntKind.i64.wrap (i + (1 : Int)))] ++ List.replicate 84 X) (St.mk [some (HB.cells [AV.vs l len Tok.none] 25), some (HB.cells rw 118)] T []) (kBlock 0 (kSeq (Tryz.X35 pl) (cd PP 35 [1, 1, 1, 1, 1, 1]) (kRet (Tryz.X35 pl) 35 Q)))) False) False)) := by kernel_rfl
theorem v35c (pl l rw : List AV) (len : Nat) (T : List (Nat × (Nat × Nat))) (i : Int) (Q : CR → Prop) : wpC (Tryz.X35 pl) (cd PP 35 [1, 1, 1, 1, 1, 1, 0, 1, 0, 0]) ([X, X, X, X, X, X, X, .vs pl 120 .none, .row 1 0 120 120, X, X, X, X, X, X, X, X, X, X, X, X, X, X, X, X, X, X, X, X, X, X, X, X, X, X, X, X, X, X, X, X, X, X, X, X, X, X, X, X, X, X, X, X, X, X, X, X, X, X, I 120, I i] ++ List.replicate 53 X) ⟨[some (.cells [.vs l len .none] 25), some (.cells rw 118)], T, []⟩ (kLoop (Tryz.X35 pl) (cd PP 35 [1, 1, 1, 1, 1, 1, 0, 1, 0, 0]) (kBlock 4 (kSeq (Tryz.X35 pl) (cd PP 35 [1, 1, 1, 1, 1, 1, 1]) (kRet (Tryz.X35 pl) 35 Q)))) =
  (cIf (decide (i < (120 : Int))) (WLoop (Tryz.X35 pl) (cd PP 35 [1, 1, 1, 1, 1, 1, 0, 1, 0, 0, 1, 1, 0, 0, 1, 1, 0, 0]) ([X, X, X, X, X, X, X, AV.vs pl 120 Tok.none, AV.row 1 0 120 120, X, X, X, X, I i, X, X, X, X, X, X, X, X, X, X, X, X, X, X, X, X, X, X, X, X, X, X, X, X, X, X, X, X, X, X, X, X, X, X, X, X, X, X, X, X, X, X, X, X, X, I (120 : Int), I i, X, X, X, I (120 : Int), I (0 : Int)] ++ List.replicate 48 X) (St.mk [some (HB.cells [AV.vs l len Tok.none] 25), some (HB.cells rw 118)] T []) (kBlock 6 (kBlock 5 (kSeq (Tryz.X35 pl) (cd PP 35 [1, 1, 1, 1, 1, 1, 0, 1, 0, 0, 1, 1, 1]) (kLoop (Tryz.X35 pl) (cd PP 35 [1, 1, 1, 1, 1, 1, 0, 1, 0, 0]) (kBlock 4 (kSeq (Tryz.X35 pl) (cd PP 35 [1, 1, 1, 1, 1, 1, 1]) (kRet (Tryz.X35 pl) 35 Q)))))))) (Q (CR.ret (AV.tup [AV.vs [] 0 Tok.zero, Bo false, I (0 : Int)])))) := by kernel_rfl
theorem v35d (pl l rw : List AV) (len : Nat) (T : List (Nat × (Nat × Nat))) (i j : Int) (Q : CR → Prop) : wpC (Tryz.X35 pl) (cd PP 35 [1, 1, 1, 1, 1, 1, 0, 1, 0, 0, 1, 1, 0, 0, 1, 1, 0, 0]) ([X, X, X, X, X, X, X, .vs pl 120 .none, .row 1 0 120 120, X, X, X, X, I i, X, X, X, X, X, X, X, X, X, X, X, X, X, X, X, X, X, X, X, X, X, X, X, X, X, X, X, X, X, X, X, X, X, X, X, X, X, X, X, X, X, X, X, X, X, I 120, I i, X, X, X, I 120, I j] ++ List.replicate 48 X) ⟨[some (.cells [.vs l len .none] 25), some (.cells rw 118)], T, []⟩ (kLoop (Tryz.X35 pl) (cd PP 35 [1, 1, 1, 1, 1, 1, 0, 1, 0, 0, 1, 1, 0, 0, 1, 1, 0, 0]) (kBlock 6 (kBlock 5 (kSeq (Tryz.X35 pl) (cd PP 35 [1, 1, 1, 1, 1, 1, 0, 1, 0, 0, 1, 1, 1]) (kLoop (Tryz.X35 pl) (cd PP 35 [1, 1, 1, 1, 1, 1, 0, 1, 0, 0]) (kBlock 4 (kSeq (Tryz.X35 pl) (cd PP 35 [1, 1, 1, 1, 1, 1, 1]) (kRet (Tryz.X35 pl) 35 Q)))))))) =
  (cIf (decide (j < (120 : Int))) (WLoop (Tryz.X35 pl) (cd PP 35 [1, 1, 1, 1, 1, 1, 0, 1, 0, 0, 1, 1, 0, 0, 1, 1, 0, 0, 1, 1, 0, 0, 1, 1, 0, 0]) ([X, X, X, X, X, X, X, AV.vs pl 120 Tok.none, AV.row 1 0 120 120, X, X, X, X, I i, I j, X, X, X, X, X, X, X, X, X, X, X, X, X, X, X, X, X, X, X, X, X, X, X, X, X, X, X, X, X, X, X, X, X, X, X, X, X, X, X, X, X, X, X, X, I (120 : Int), I i, X, X, X, I (120 : Int), I j, X, X, X, I (120 : Int), I (0 : Int)] ++ List.replicate 43 X) (St.mk [some (HB.cells [AV.vs l len Tok.none] 25), some (HB.cells rw 118)] T []) (kBlock 8 (kBlock 7 (kSeq (Tryz.X35 pl) (cd PP 35 [1, 1, 1, 1, 1, 1, 0, 1, 0, 0, 1, 1, 0, 0, 1, 1, 0, 0, 1, 1, 1]) (kLoop (Tryz.X35 pl) (cd PP 35 [1, 1, 1, 1, 1, 1, 0, 1, 0, 0, 1, 1, 0, 0, 1, 1, 0, 0]) (kBlock 6 (kBlock 5 (kSeq (Tryz.X35 pl) (cd PP 35 [1, 1, 1, 1, 1, 1, 0, 1, 0, 0, 1, 1, 1]) (kLoop (Tryz.X35 pl) (cd PP 35 [1, 1, 1, 1, 1, 1, 0, 1, 0, 0]) (kBlock 4 (kSeq (Tryz.X35 pl) (cd PP 35 [1, 1, 1, 1, 1, 1, 1]) (kRet (Tryz.X35 pl) 35 Q)))))))))))) (WLoop (Tryz.X35 pl) (cd PP 35 [1, 1, 1, 1, 1, 1, 0, 1, 0, 0]) ([X, X, X, X, X, X, X, AV.vs pl 120 Tok.none, AV.row 1 0 120 120, X, X, X, X, X, X, X, X, X, X, X, X, X, X, X, X, X, X, X, X, X, X, X, X, X, X, X, X, X, X, X, X, X, X, X, X, X, X, X, X, X, X, X, X, X, X, X, X, X, X, I (120 : Int), I (IntKind.i64.wrap (i + (1 : Int)))] ++ List.replicate 53 X) (St.mk [some (HB.cells [AV.vs l len Tok.none] 25), some (HB.cells rw 118)] T []) (kBlock 4 (kSeq (Tryz.X35 pl) (cd PP 35 [1, 1, 1, 1, 1, 1, 1]) (kRet (Tryz.X35 pl) 35 Q))))) := by kernel_rfl
theorem v35e (pl l rw : List AV) (len : Nat) (T : List (Nat × (Nat × Nat))) (i j k : Int) (Q : CR → Prop) : wpC (Tryz.X35 pl) (cd PP 35 [1, 1, 1, 1, 1, 1, 0, 1, 0, 0, 1, 1, 0, 0, 1, 1, 0, 0, 1, 1, 0, 0, 1, 1, 0, 0]) ([X, X, X, X, X, X, X, .vs pl 120 .none, .row 1 0 120 120, X, X, X, X, I i, I j, X, X, X, X, X, X, X, X, X, X, X, X, X, X, X, X, X, X, X, X, X, X, X, X, X, X, X, X, X, X, X, X, X, X, X, X, X, X, X, X, X, X, X, X, I 120, I i, X, X, X, I 120, I j, X, X, X, I 120, I k] ++ List.replicate 43 X) ⟨[some (.cells [.vs l len .none] 25), some (.cells rw 118)], T, []⟩ (kLoop (Tryz.X35 pl) (cd PP 35 [1, 1, 1, 1, 1, 1, 0, 1, 0, 0, 1, 1, 0, 0, 1, 1, 0, 0, 1, 1, 0, 0, 1, 1, 0, 0]) (kBlock 8 (kBlock 7 (kSeq (Tryz.X35 pl) (cd PP 35 [1, 1, 1, 1, 1, 1, 0, 1, 0, 0, 1, 1, 0, 0, 1, 1, 0, 0, 1, 1, 1]) (kLoop (Tryz.X35 pl) (cd PP 35 [1, 1, 1, 1, 1, 1, 0, 1, 0, 0, 1, 1, 0, 0, 1, 1, 0, 0]) (kBlock 6 (kBlock 5 (kSeq (Tryz.X35 pl) (cd PP 35 [1, 1, 1, 1, 1, 1, 0, 1, 0, 0, 1, 1, 1]) (kLoop (Tryz.X35 pl) (cd PP 35 [1, 1, 1, 1, 1, 1, 0, 1, 0, 0]) (kBlock 4 (kSeq (Tryz.X35 pl) (cd PP 35 [1, 1, 1, 1, 1, 1, 1]) (kRet (Tryz.X35 pl) 35 Q)))))))))))) =
  (cIf (decide (k < (120 : Int))) (cIf (decide ((0 : Int) ≤ i)) (cIf (decide (i.toNat < 120)) (cIf (decide (0 + i.toNat * 1 < rw.length)) (cIf (likeOk (AV.ofVal (Value.slice none 0 0)) (rw.getD (0 + i.toNat * 1) X)) (cIf (decide ((0 : Int) ≤ j)) (cIf (decide (j.toNat < cN rw (0 + i.toNat * 1))) (cIf (decide (cN rw (0 + i.toNat * 1) * 1 = (cL rw (0 + i.toNat * 1)).length)) (cIf (decide (0 < (List.drop (j.toNat * 1) (cL rw (0 + i.toNat * 1))).length)) (cIf (likeOk (AV.ofVal (Value.bool false)) ((List.drop (j.toNat * 1) (cL rw (0 + i.toNat * 1))).getD 0 X)) (cIf (cB (List.drop (j.toNat * 1) (cL rw (0 + i.toNat * 1))) 0) (cIf (decide ((0 : Int) ≤ j)) (cIf (decide (j.toNat < 120)) (cIf (decide (0 + j.toNat * 1 < rw.length)) (cIf (likeOk (AV.ofVal (Value.slice none 0 0)) (rw.getD (0 + j.toNat * 1) X)) (cIf (decide ((0 : Int) ≤ k)) (cIf (decide (k.toNat < cN rw (0 + j.toNat * 1))) (cIf (decide (cN rw (0 + j.toNat * 1) * 1 = (cL rw (0 + j.toNat * 1)).length)) (cIf (decide (0 < (List.drop (k.toNat * 1) (cL rw (0 + j.toNat * 1))).length)) (cIf (likeOk (AV.ofVal (Value.bool false)) ((List.drop (k.toNat * 1) (cL rw (0 + j.toNat * 1))).getD 0 X)) (cIf (cB (List.drop (k.toNat * 1) (cL rw (0 + j.toNat * 1))) 0) (cIf (decide ((0 : Int) ≤ k)) (cIf (decide (k.toNat < 120)) (cIf (decide (0 + k.toNat * 1 < rw.length)) (cIf (likeOk (AV.ofVal (Value.slice none 0 0)) (rw.getD (0 + k.toNat * 1) X)) (cIf (decide ((0 : Int) ≤ i)) (cIf (decide (i.toNat < cN rw (0 + k.toNat * 1))) (cIf (decide (cN rw (0 + k.toNat * 1) * 1 = (cL rw (0 + k.toNat * 1)).length)) (cIf (decide (0 < (List.drop (i.toNat * 1) (cL rw (0 + k.toNat * 1))).length)) (cIf (likeOk (AV.ofVal (Value.bool false)) ((List.drop (i.toNat * 1) (cL rw (0 + k.toNat * 1))).getD 0 X)) (cIf (cB (List.drop (i.toNat * 1) (cL rw (0 + k.toNat * 1))) 0) (cIf (decide ((0 : Int) ≤ i)) (cIf (decide (i.toNat < 120)) (cIf (decide (840 = pl.length)) (cIf (decide (7 ≤ (List.drop (i.toNat * 7) pl).length)) (cIf (like zP (el (List.drop (i.toNat * 7) pl) 0 7)) (cIf (decide ((0 : Int) ≤ j)) (cIf (decide (j.toNat < 120)) (cIf (decide (840 = pl.length)) (cIf (decide (7 ≤ (List.drop (j.toNat * 7) pl).length)) (cIf (like zP (el (List.drop (j.toNat * 7) pl) 0 7)) (cIf (decide ((0 : Int) ≤ k)) (cIf (decide (k.toNat < 120)) (cIf (decide (840 = pl.length)) (cIf (decide (7 ≤ (List.drop (k.toNat * 7) pl).length)) (cIf (like zP (el (List.drop (k.toNat * 7) pl) 0 7)) (Q (CR.ret (AV.tup [AV.vs [I (cI (el (List.drop (i.toNat * 7) pl) 0 7) 0), I (cI (el (List.drop (i.toNat * 7) pl) 0 7) 1), Bo (cB (el (List.drop (i.toNat * 7) pl) 0 7) 2), Bo (cB (el (List.drop (i.toNat * 7) pl) 0 7) 3), Bo (cB (el (List.drop (i.toNat * 7) pl) 0 7) 4), I (cI (el (List.drop (i.toNat * 7) pl) 0 7) 5), I (cI (el (List.drop (i.toNat * 7) pl) 0 7) 6), I (cI (el (List.drop (j.toNat * 7) pl) 0 7) 0), I (cI (el (List.drop (j.toNat * 7) pl) 0 7) 1), Bo (cB (el (List.drop (j.toNat * 7) pl) 0 7) 2), Bo (cB (el (List.drop (j.toNat * 7) pl) 0 7) 3), Bo (cB (el (List.drop (j.toNat * 7) pl) 0 7) 4), I (cI (el (List.drop (j.toNat * 7) pl) 0 7) 5), I (cI (el (List.drop (j.toNat * 7) pl) 0 7) 6), I (cI (el (List.drop (k.toNat * 7) pl) 0 7) 0), I (cI (el (List.drop (k.toNat * 7) pl) 0 7) 1), Bo (cB (el (List.drop (k.toNat * 7) pl) 0 7) 2), Bo (cB (el (List.drop (k.toNat * 7) pl) 0 7) 3), Bo (cB (el (List.drop (k.toNat * 7) pl) 0 7) 4), I (cI (el (List.drop (k.toNat * 7) pl) 0 7) 5), I (cI (el (List.drop (k.toNat * 7) pl) 0 7) 6)] 3 Tok.none, Bo true, I (0 : Int)]))) False) False) False) False) False) False) False) False) False) False) False) False) False) False) False) (WLoop (Tryz.X35 pl) (cd PP 35 [1, 1, 1, 1, 1, 1, 0, 1, 0, 0, 1, 1, 0, 0, 1, 1, 0, 0, 1, 1, 0, 0, 1, 1, 0, 0]) ([X, X, X, X, X, X, X, AV.vs pl 120 Tok.none, AV.row 1 0 120 120, X, X, X, X, I i, I j, X, X, X, X, X, X, X, X, X, X, X, X, X, X, X, X, X, X, X, X, X, X, X, X, X, X, X, X, X, X, X, X, X, X, X, X, X, X, X, X, X, X, X, X, I (120 : Int), I i, X, X, X, I (120 : Int), I j, X, X, X, I (120 : Int), I (IntKind.i64.wrap (k + (1 : Int)))] ++ List.replicate 43 X) (St.mk [some (HB.cells [AV.vs l len Tok.none] 25), some (HB.cells rw 118)] T []) (kBlock 8 (kBlock 7 (kSeq (Tryz.X35 pl) (cd PP 35 [1, 1, 1, 1, 1, 1, 0, 1, 0, 0, 1, 1, 0, 0, 1, 1, 0, 0, 1, 1, 1]) (kLoop (Tryz.X35 pl) (cd PP 35 [1, 1, 1, 1, 1, 1, 0, 1, 0, 0, 1, 1, 0, 0, 1, 1, 0, 0]) (kBlock 6 (kBlock 5 (kSeq (Tryz.X35 pl) (cd PP 35 [1, 1, 1, 1, 1, 1, 0, 1, 0, 0, 1, 1, 1]) (kLoop (Tryz.X35 pl) (cd PP 35 [1, 1, 1, 1, 1, 1, 0, 1, 0, 0]) (kBlock 4 (kSeq (Tryz.X35 pl) (cd PP 35 [1, 1, 1, 1, 1, 1, 1]) (kRet (Tryz.X35 pl) 35 Q))))))))))))) False) False) False) False) False) False) False) False) False) (WLoop (Tryz.X35 pl) (cd PP 35 [1, 1, 1, 1, 1, 1, 0, 1, 0, 0, 1, 1, 0, 0, 1, 1, 0, 0, 1, 1, 0, 0, 1, 1, 0, 0]) ([X, X, X, X, X, X, X, AV.vs pl 120 Tok.none, AV.row 1 0 120 120, X, X, X, X, I i, I j, X, X, X, X, X, X, X, X, X, X, X, X, X, X, X, X, X, X, X, X, X, X, X, X, X, X, X, X, X, X, X, X, X, X, X, X, X, X, X, X, X, X, X, X, I (120 : Int), I i, X, X, X, I (120 : Int), I j, X, X, X, I (120 : Int), I (IntKind.i64.wrap (k + (1 : Int)))] ++ List.replicate 43 X) (St.mk [some (HB.cells [AV.vs l len Tok.none] 25), some (HB.cells rw 118)] T []) (kBlock 8 (kBlock 7 (kSeq (Tryz.X35 pl) (cd PP 35 [1, 1, 1, 1, 1, 1, 0, 1, 0, 0, 1, 1, 0, 0, 1, 1, 0, 0, 1, 1, 1]) (kLoop (Tryz.X35 pl) (cd PP 35 [1, 1, 1, 1, 1, 1, 0, 1, 0, 0, 1, 1, 0, 0, 1, 1, 0, 0]) (kBlock 6 (kBlock 5 (kSeq (Tryz.X35 pl) (cd PP 35 [1, 1, 1, 1, 1, 1, 0, 1, 0, 0, 1, 1, 1]) (kLoop (Tryz.X35 pl) (cd PP 35 [1, 1, 1, 1, 1, 1, 0, 1, 0, 0]) (kBlock 4 (kSeq (Tryz.X35 pl) (cd PP 35 [1, 1, 1, 1, 1, 1, 1]) (kRet (Tryz.X35 pl) 35 Q))))))))))))) False) False) False) False) False) False) False) False) False) (WLoop (Tryz.X35 pl) (cd PP 35 [1, 1, 1, 1, 1, 1, 0, 1, 0, 0, 1, 1, 0, 0, 1, 1, 0, 0, 1, 1, 0, 0, 1, 1, 0, 0]) ([X, X, X, X, X, X, X, AV.vs pl 120 Tok.none, AV.row 1 0 120 120, X, X, X, X, I i, I j, X, X, X, X, X, X, X, X, X, X, X, X, X, X, X, X, X, X, X, X, X, X, X, X, X, X, X, X, X, X, X, X, X, X, X, X, X, X, X, X, X, X, X, X, I (120 : Int), I i, X, X, X, I (120 : Int), I j, X, X, X, I (120 : Int), I (IntKind.i64.wrap (k + (1 : Int)))] ++ List.replicate 43 X) (St.mk [some (HB.cells [AV.vs l len Tok.none] 25), some (HB.cells rw 118)] T []) (kBlock 8 (kBlock 7 (kSeq (Tryz.X35 pl) (cd PP 35 [1, 1, 1, 1, 1, 1, 0, 1, 0, 0, 1, 1, 0, 0, 1, 1, 0, 0, 1, 1, 1]) (kLoop (Tryz.X35 pl) (cd PP 35 [1, 1, 1, 1, 1, 1, 0, 1, 0, 0, 1, 1, 0, 0, 1, 1, 0, 0]) (kBlock 6 (kBlock 5 (kSeq (Tryz.X35 pl) (cd PP 35 [1, 1, 1, 1, 1, 1, 0, 1, 0, 0, 1, 1, 1]) (kLoop (Tryz.X35 pl) (cd PP 35 [1, 1, 1, 1, 1, 1, 0, 1, 0, 0]) (kBlock 4 (kSeq (Tryz.X35 pl) (cd PP 35 [1, 1, 1, 1, 1, 1, 1]) (kRet (Tryz.X35 pl) 35 Q))))))))))))) False) False) False) False) False) False) False) False) False) (WLoop (Tryz.X35 pl) (cd PP 35 [1, 1, 1, 1, 1, 1, 0, 1, 0, 0, 1, 1, 0, 0, 1, 1, 0, 0]) ([X, X, X, X, X, X, X, AV.vs pl 120 Tok.none, AV.row 1 0 120 120, X, X, X, X, I i, X, X, X, X, X, X, X, X, X, X, X, X, X, X, X, X, X, X, X, X, X, X, X, X, X, X, X, X, X, X, X, X, X, X, X, X, X, X, X, X, X, X, X, X, X, I (120 : Int), I i, X, X, X, I (120 : Int), I (IntKind.i64.wrap (j + (1 : Int)))] ++ List.replicate 48 X) (St.mk [some (HB.cells [AV.vs l len Tok.none] 25), some (HB.cells rw 118)] T []) (kBlock 6 (kBlock 5 (kSeq (Tryz.X35 pl) (cd PP 35 [1, 1, 1, 1, 1, 1, 0, 1, 0, 0, 1, 1, 1]) (kLoop (Tryz.X35 pl) (cd PP 35 [1, 1, 1, 1, 1, 1, 0, 1, 0, 0]) (kBlock 4 (kSeq (Tryz.X35 pl) (cd PP 35 [1, 1, 1, 1, 1, 1, 1]) (kRet (Tryz.X35 pl) 35 Q))))))))) := by kernel_rfl
theorem v36 (pl : List AV) (l : List AV) (len : Nat) (Q : CR → Prop) : wpF (Tryz.X36 pl) 36 [.agg [.vs l len .none]] Q =
  ((∃ (rs : List Rul), l = encRs rs ∧ len = rs.length ∧ wfRs rs) ∧ cIf (onEnc encRs chk (0 : Int) l != (0 : Int)) (Q (CR.ret (AV.tup [AV.vs [] 0 Tok.zero, Bo false, I (onEnc encRs chk (0 : Int) l)]))) (True ∧ cIf (noHL 2 ([X, AV.ptr 0 0, X, X, X, X, AV.vs pl 120 Tok.none, I (120 : Int), AV.row 1 0 14400 14400, I (0 : Int)] ++ List.replicate 103 X)) (cIf ([some (HB.cells [AV.vs l len Tok.none] 25), some (HB.cells (zerosA [Bo false] 14400) 4)].all (okBlk 2)) (WLoop (Tryz.X36 pl) (cd (Tryz.X36 pl).P 36 [1, 1, 1, 1, 1, 1, 0, 1, 0, 0]) ([X, AV.ptr 0 0, X, X, X, X, AV.vs pl 120 Tok.none, I (120 : Int), AV.row 1 0 14400 14400, I (0 : Int)] ++ List.replicate 103 X) (St.mk [some (HB.cells [AV.vs l len Tok.none] 25), some (HB.cells (zerosA [Bo false] 14400) 4)] [] []) (kBlock 0 (kSeq (Tryz.X36 pl) (cd (Tryz.X36 pl).P 36 [1, 1, 1, 1, 1, 1, 1]) (kRet (Tryz.X36 pl) 36 Q)))) False) False)) := by kernel_rfl
theorem v36a (pl l bs : List AV) (len : Nat) (T : List (Nat × (Nat × Nat))) (i : Int) (Q : CR → Prop) : wpC (Tryz.X36 pl) (cd PP 36 [1, 1, 1, 1, 1, 1, 0, 1, 0, 0]) ([X, .ptr 0 0, X, X, X, X, .vs pl 120 .none, I 120, .row 1 0 14400 14400, I i] ++ List.replicate 103 X) ⟨[some (.cells [.vs l len .none] 25), some (.cells bs 4)], T, []⟩ (kLoop (Tryz.X36 pl) (cd PP 36 [1, 1, 1, 1, 1, 1, 0, 1, 0, 0]) (kBlock 0 (kSeq (Tryz.X36 pl) (cd PP 36 [1, 1, 1, 1, 1, 1, 1]) (kRet (Tryz.X36 pl) 36 Q)))) =
  (cIf (decide (i < (120 : Int))) (cIf (noHL 2 ([X, AV.ptr 0 0, X, X, X, X, AV.vs pl 120 Tok.none, I (120 : Int), AV.row 1 0 14400 14400, I i, I (0 : Int)] ++ List.replicate 102 X)) (cIf ([some (HB.cells [AV.vs l len Tok.none] 25), some (HB.cells bs 4)].all (okBlk 2)) (WLoop (Tryz.X36 pl) (cd PP 36 [1, 1, 1, 1, 1, 1, 0, 1, 0, 0, 1, 0, 0, 1, 0, 0]) ([X, AV.ptr 0 0, X, X, X, X, AV.vs pl 120 Tok.none, I (120 : Int), AV.row 1 0 14400 14400, I i, I (0 : Int)] ++ List.replicate 102 X) (St.mk [some (HB.cells [AV.vs l len Tok.none] 25), some (HB.cells bs 4)] T []) (kBlock 2 (kBlock 1 (kSeq (Tryz.X36 pl) (cd PP 36 [1, 1, 1, 1, 1, 1, 0, 1, 0, 0, 1, 1]) (kLoop (Tryz.X36 pl) (cd PP 36 [1, 1, 1, 1, 1, 1, 0, 1, 0, 0]) (kBlock 0 (kSeq (Tryz.X36 pl) (cd PP 36 [1, 1, 1, 1, 1, 1, 1]) (kRet (Tryz.X36 pl) 36 Q)))))))) False) False) (WLoop (Tryz.X36 pl) (cd PP 36 [1, 1, 1, 1, 1, 1, 1, 0, 1, 0, 0]) ([X, X, X, X, X, X, AV.vs pl 120 Tok.none, I (120 : Int), AV.row 1 0 14400 14400, X, X, X, I (0 : Int)] ++ List.replicate 100 X) (St.mk [some (HB.cells [AV.vs l len Tok.none] 25), some (HB.cells bs 4)] T []) (kBlock 4 (kSeq (Tryz.X36 pl) (cd PP 36 [1, 1, 1, 1, 1, 1, 1, 1]) (kRet (Tryz.X36 pl) 36 Q))))) := by kernel_rfl
theorem v36b (pl l bs : List AV) (len : Nat) (T : List (Nat × (Nat × Nat))) (i j : Int) (Q : CR → Prop) : wpC (Tryz.X36 pl) (cd PP 36 [1, 1, 1, 1, 1, 1, 0, 1, 0, 0, 1, 0, 0, 1, 0, 0]) ([X, .ptr 0 0, X, X, X, X, .vs pl 120 .none, I 120, .row 1 0 14400 14400, I i, I j] ++ List.replicate 102 X) ⟨[some (.cells [.vs l len .none] 25), some (.cells bs 4)], T, []⟩ (kLoop (Tryz.X36 pl) (cd PP 36 [1, 1, 1, 1, 1, 1, 0, 1, 0, 0, 1, 0, 0, 1, 0, 0]) (kBlock 2 (kBlock 1 (kSeq (Tryz.X36 pl) (cd PP 36 [1, 1, 1, 1, 1, 1, 0, 1, 0, 0, 1, 1]) (kLoop (Tryz.X36 pl) (cd PP 36 [1, 1, 1, 1, 1, 1, 0, 1, 0, 0]) (kBlock 0 (kSeq (Tryz.X36 pl) (cd PP 36 [1, 1, 1, 1, 1, 1, 1]) (kRet (Tryz.X36 pl) 36 Q)))))))) =
  (cIf (decide (j < (120 : Int))) (cIf (decide ((0 : Int) ≤ i)) (cIf (decide (i.toNat < 120)) (cIf (decide (840 = pl.length)) (cIf (decide (7 ≤ (List.drop (i.toNat * 7) pl).length)) (cIf (like zP (el (List.drop (i.toNat * 7) pl) 0 7)) (cIf (decide ((0 : Int) ≤ j)) (cIf (decide (j.toNat < 120)) (cIf (decide (840 = pl.length)) (cIf (decide (7 ≤ (List.drop (j.toNat * 7) pl).length)) (cIf (like zP (el (List.drop (j.toNat * 7) pl) 0 7)) (cIf (noHL [some (HB.cells [AV.vs l len Tok.none] 25), some (HB.cells bs 4)].length ([] ++ [AV.agg [AV.vs l len Tok.none], AV.agg (elP (el (List.drop (i.toNat * 7) pl) 0 7)), AV.agg (elP (el (List.drop (j.toNat * 7) pl) 0 7))] ++ [])) (((∃ (rs : List Rul), l = encRs rs ∧ len = rs.length ∧ okRs rs) ∧ (∃ (p : Prf), (elP (el (List.drop (i.toNat * 7) pl) 0 7)) = encP p) ∧ ∃ (q : Prf), (elP (el (List.drop (j.toNat * 7) pl) 0 7)) = encP q) ∧ St.mk [some (HB.cells [AV.vs l len Tok.none] 25), some (HB.cells bs 4)] T [] = St.mk [some (HB.cells [AV.vs l len Tok.none] 25), some (HB.cells bs 4)] T [] ∧ cIf (decide ((0 : Int) ≤ IntKind.i64.wrap (IntKind.i64.wrap (i * (120 : Int)) + j))) (cIf (decide ((IntKind.i64.wrap (IntKind.i64.wrap (i * (120 : Int)) + j)).toNat < 14400)) (cIf (decide (0 + (IntKind.i64.wrap (IntKind.i64.wrap (i * (120 : Int)) + j)).toNat * 1 + 1 ≤ bs.length)) (cIf (noHL 2 ([X, AV.ptr 0 0, X, X, X, X, AV.vs pl 120 Tok.none, I (120 : Int), AV.row 1 0 14400 14400, I i, I (IntKind.i64.wrap (j + (1 : Int)))] ++ List.replicate 102 X)) (cIf ([some (HB.cells [AV.vs l len Tok.none] 25), some (HB.cells (putL bs (0 + (IntKind.i64.wrap (IntKind.i64.wrap (i * (120 : Int)) + j)).toNat * 1) [AV.bool (kindV (dvR l (elP (el (List.drop (i.toNat * 7) pl) 0 7)) (elP (el (List.drop (j.toNat * 7) pl) 0 7))).fst (dvR l (elP (el (List.drop (i.toNat * 7) pl) 0 7)) (elP (el (List.drop (j.toNat * 7) pl) 0 7))).snd.fst == (1 : Int))]) 4)].all (okBlk 2)) (WLoop (Tryz.X36 pl) (cd PP 36 [1, 1, 1, 1, 1, 1, 0, 1, 0, 0, 1, 0, 0, 1, 0, 0]) ([X, AV.ptr 0 0, X, X, X, X, AV.vs pl 120 Tok.none, I (120 : Int), AV.row 1 0 14400 14400, I i, I (IntKind.i64.wrap (j + (1 : Int)))] ++ List.replicate 102 X) (St.mk [some (HB.cells [AV.vs l len Tok.none] 25), some (HB.cells (putL bs (0 + (IntKind.i64.wrap (IntKind.i64.wrap (i * (120 : Int)) + j)).toNat * 1) [AV.bool (kindV (dvR l (elP (el (List.drop (i.toNat * 7) pl) 0 7)) (elP (el (List.drop (j.toNat * 7) pl) 0 7))).fst (dvR l (elP (el (List.drop (i.toNat * 7) pl) 0 7)) (elP (el (List.drop (j.toNat * 7) pl) 0 7))).snd.fst == (1 : Int))]) 4)] T []) (kBlock 2 (kBlock 1 (kSeq (Tryz.X36 pl) (cd PP 36 [1, 1, 1, 1, 1, 1, 0, 1, 0, 0, 1, 1]) (kLoop (Tryz.X36 pl) (cd PP 36 [1, 1, 1, 1, 1, 1, 0, 1, 0, 0]) (kBlock 0 (kSeq (Tryz.X36 pl) (cd PP 36 [1, 1, 1, 1, 1, 1, 1]) (kRet (Tryz.X36 pl) 36 Q)))))))) False) False) False) False) False) False) False) False) False) False) False) False) False) False) False) False) (cIf (noHL 2 ([X, AV.ptr 0 0, X, X, X, X, AV.vs pl 120 Tok.none, I (120 : Int), AV.row 1 0 14400 14400, I (IntKind.i64.wrap (i + (1 : Int)))] ++ List.replicate 103 X)) (cIf ([some (HB.cells [AV.vs l len Tok.none] 25), some (HB.cells bs 4)].all (okBlk 2)) (WLoop (Tryz.X36 pl) (cd PP 36 [1, 1, 1, 1, 1, 1, 0, 1, 0, 0]) ([X, AV.ptr 0 0, X, X, X, X, AV.vs pl 120 Tok.none, I (120 : Int), AV.row 1 0 14400 14400, I (IntKind.i64.wrap (i + (1 : Int)))] ++ List.replicate 103 X) (St.mk [some (HB.cells [AV.vs l len Tok.none] 25), some (HB.cells bs 4)] T []) (kBlock 0 (kSeq (Tryz.X36 pl) (cd PP 36 [1, 1, 1, 1, 1, 1, 1]) (kRet (Tryz.X36 pl) 36 Q)))) False) False)) := by kernel_rfl
theorem v36c (pl l bs : List AV) (len : Nat) (T : List (Nat × (Nat × Nat))) (i : Int) (Q : CR → Prop) : wpC (Tryz.X36 pl) (cd PP 36 [1, 1, 1, 1, 1, 1, 1, 0, 1, 0, 0]) ([X, X, X, X, X, X, .vs pl 120 .none, I 120, .row 1 0 14400 14400, X, X, X, I i] ++ List.replicate 100 X) ⟨[some (.cells [.vs l len .none] 25), some (.cells bs 4)], T, []⟩ (kLoop (Tryz.X36 pl) (cd PP 36 [1, 1, 1, 1, 1, 1, 1, 0, 1, 0, 0]) (kBlock 4 (kSeq (Tryz.X36 pl) (cd PP 36 [1, 1, 1, 1, 1, 1, 1, 1]) (kRet (Tryz.X36 pl) 36 Q)))) =
  (cIf (decide (i < (120 : Int))) (WLoop (Tryz.X36 pl) (cd PP 36 [1, 1, 1, 1, 1, 1, 1, 0, 1, 0, 0, 1, 0, 0, 1, 0, 0]) ([X, X, X, X, X, X, AV.vs pl 120 Tok.none, I (120 : Int), AV.row 1 0 14400 14400, X, X, X, I i, I (0 : Int)] ++ List.replicate 99 X) (St.mk [some (HB.cells [AV.vs l len Tok.none] 25), some (HB.cells bs 4)] T []) (kBlock 6 (kBlock 5 (kSeq (Tryz.X36 pl) (cd PP 36 [1, 1, 1, 1, 1, 1, 1, 0, 1, 0, 0, 1, 1]) (kLoop (Tryz.X36 pl) (cd PP 36 [1, 1, 1, 1, 1, 1, 1, 0, 1, 0, 0]) (kBlock 4 (kSeq (Tryz.X36 pl) (cd PP 36 [1, 1, 1, 1, 1, 1, 1, 1]) (kRet (Tryz.X36 pl) 36 Q)))))))) (Q (CR.ret (AV.tup [AV.vs [] 0 Tok.zero, Bo false, I (0 : Int)])))) := by kernel_rfl
theorem v36d (pl l bs : List AV) (len : Nat) (T : List (Nat × (Nat × Nat))) (i j : Int) (Q : CR → Prop) : wpC (Tryz.X36 pl) (cd PP 36 [1, 1, 1, 1, 1, 1, 1, 0, 1, 0, 0, 1, 0, 0, 1, 0, 0]) ([X, X, X, X, X, X, .vs pl 120 .none, I 120, .row 1 0 14400 14400, X, X, X, I i, I j] ++ List.replicate 99 X) ⟨[some (.cells [.vs l len .none] 25), some (.cells bs 4)], T, []⟩ (kLoop (Tryz.X36 pl) (cd PP 36 [1, 1, 1, 1, 1, 1, 1, 0, 1, 0, 0, 1, 0, 0, 1, 0, 0]) (kBlock 6 (kBlock 5 (kSeq (Tryz.X36 pl) (cd PP 36 [1, 1, 1, 1, 1, 1, 1, 0, 1, 0, 0, 1, 1]) (kLoop (Tryz.X36 pl) (cd PP 36 [1, 1, 1, 1, 1, 1, 1, 0, 1, 0, 0]) (kBlock 4 (kSeq (Tryz.X36 pl) (cd PP 36 [1, 1, 1, 1, 1, 1, 1, 1]) (kRet (Tryz.X36 pl) 36 Q)))))))) =
  (cIf (decide (j < (120 : Int))) (cIf (decide ((0 : Int) ≤ IntKind.i64.wrap (IntKind.i64.wrap (i * (120 : Int)) + j))) (cIf (decide ((IntKind.i64.wrap (IntKind.i64.wrap (i * (120 : Int)) + j)).toNat < 14400)) (cIf (decide (0 + (IntKind.i64.wrap (IntKind.i64.wrap (i * (120 : Int)) + j)).toNat * 1 < bs.length)) (cIf (likeOk (AV.ofVal (Value.bool false)) (bs.getD (0 + (IntKind.i64.wrap (IntKind.i64.wrap (i * (120 : Int)) + j)).toNat * 1) X)) (cIf (!cB bs (0 + (IntKind.i64.wrap (IntKind.i64.wrap (i * (120 : Int)) + j)).toNat * 1)) (WLoop (Tryz.X36 pl) (cd PP 36 [1, 1, 1, 1, 1, 1, 1, 0, 1, 0, 0, 1, 0, 0, 1, 0, 0]) ([X, X, X, X, X, X, AV.vs pl 120 Tok.none, I (120 : Int), AV.row 1 0 14400 14400, X, X, X, I i, I (IntKind.i64.wrap (j + (1 : Int)))] ++ List.replicate 99 X) (St.mk [some (HB.cells [AV.vs l len Tok.none] 25), some (HB.cells bs 4)] T []) (kBlock 6 (kBlock 5 (kSeq (Tryz.X36 pl) (cd PP 36 [1, 1, 1, 1, 1, 1, 1, 0, 1, 0, 0, 1, 1]) (kLoop (Tryz.X36 pl) (cd PP 36 [1, 1, 1, 1, 1, 1, 1, 0, 1, 0, 0]) (kBlock 4 (kSeq (Tryz.X36 pl) (cd PP 36 [1, 1, 1, 1, 1, 1, 1, 1]) (kRet (Tryz.X36 pl) 36 Q)))))))) (WLoop (Tryz.X36 pl) (cd PP 36 [1, 1, 1, 1, 1, 1, 1, 0, 1, 0, 0, 1, 0, 0, 1, 0, 0, 1, 0, 0, 1, 1, 0, 0]) ([X, X, X, X, X, X, AV.vs pl 120 Tok.none, I (120 : Int), AV.row 1 0 14400 14400, X, X, X, I i, I j, I (0 : Int)] ++ List.replicate 98 X) (St.mk [some (HB.cells [AV.vs l len Tok.none] 25), some (HB.cells bs 4)] T []) (kBlock 8 (kBlock 7 (kSeq (Tryz.X36 pl) (cd PP 36 [1, 1, 1, 1, 1, 1, 1, 0, 1, 0, 0, 1, 0, 0, 1, 0, 0, 1, 1]) (kLoop (Tryz.X36 pl) (cd PP 36 [1, 1, 1, 1, 1, 1, 1, 0, 1, 0, 0, 1, 0, 0, 1, 0, 0]) (kBlock 6 (kBlock 5 (kSeq (Tryz.X36 pl) (cd PP 36 [1, 1, 1, 1, 1, 1, 1, 0, 1, 0, 0, 1, 1]) (kLoop (Tryz.X36 pl) (cd PP 36 [1, 1, 1, 1, 1, 1, 1, 0, 1, 0, 0]) (kBlock 4 (kSeq (Tryz.X36 pl) (cd PP 36 [1, 1, 1, 1, 1, 1, 1, 1]) (kRet (Tryz.X36 pl) 36 Q))))))))))))) False) False) False) False) (WLoop (Tryz.X36 pl) (cd PP 36 [1, 1, 1, 1, 1, 1, 1, 0, 1, 0, 0]) ([X, X, X, X, X, X, AV.vs pl 120 Tok.none, I (120 : Int), AV.row 1 0 14400 14400, X, X, X, I (IntKind.i64.wrap (i + (1 : Int)))] ++ List.replicate 100 X) (St.mk [some (HB.cells [AV.vs l len Tok.none] 25), some (HB.cells bs 4)] T []) (kBlock 4 (kSeq (Tryz.X36 pl) (cd PP 36 [1, 1, 1, 1, 1, 1, 1, 1]) (kRet (Tryz.X36 pl) 36 Q))))) := by kernel_rfl
theorem v36e (pl l bs : List AV) (len : Nat) (T : List (Nat × (Nat × Nat))) (i j k : Int) (Q : CR → Prop) : wpC (Tryz.X36 pl) (cd PP 36 [1, 1, 1, 1, 1, 1, 1, 0, 1, 0, 0, 1, 0, 0, 1, 0, 0, 1, 0, 0, 1, 1, 0, 0]) ([X, X, X, X, X, X, .vs pl 120 .none, I 120, .row 1 0 14400 14400, X, X, X, I i, I j, I k] ++ List.replicate 98 X) ⟨[some (.cells [.vs l len .none] 25), some (.cells bs 4)], T, []⟩ (kLoop (Tryz.X36 pl) (cd PP 36 [1, 1, 1, 1, 1, 1, 1, 0, 1, 0, 0, 1, 0, 0, 1, 0, 0, 1, 0, 0, 1, 1, 0, 0]) (kBlock 8 (kBlock 7 (kSeq (Tryz.X36 pl) (cd PP 36 [1, 1, 1, 1, 1, 1, 1, 0, 1, 0, 0, 1, 0, 0, 1, 0, 0, 1, 1]) (kLoop (Tryz.X36 pl) (cd PP 36 [1, 1, 1, 1, 1, 1, 1, 0, 1, 0, 0, 1, 0, 0, 1, 0, 0]) (kBlock 6 (kBlock 5 (kSeq (Tryz.X36 pl) (cd PP 36 [1, 1, 1, 1, 1, 1, 1, 0, 1, 0, 0, 1, 1]) (kLoop (Tryz.X36 pl) (cd PP 36 [1, 1, 1, 1, 1, 1, 1, 0, 1, 0, 0]) (kBlock 4 (kSeq (Tryz.X36 pl) (cd PP 36 [1, 1, 1, 1, 1, 1, 1, 1]) (kRet (Tryz.X36 pl) 36 Q)))))))))))) =
  (cIf (decide (k < (120 : Int))) (cIf (decide ((0 : Int) ≤ IntKind.i64.wrap (IntKind.i64.wrap (j * (120 : Int)) + k))) (cIf (decide ((IntKind.i64.wrap (IntKind.i64.wrap (j * (120 : Int)) + k)).toNat < 14400)) (cIf (decide (0 + (IntKind.i64.wrap (IntKind.i64.wrap (j * (120 : Int)) + k)).toNat * 1 < bs.length)) (cIf (likeOk (AV.ofVal (Value.bool false)) (bs.getD (0 + (IntKind.i64.wrap (IntKind.i64.wrap (j * (120 : Int)) + k)).toNat * 1) X)) (cIf (cB bs (0 + (IntKind.i64.wrap (IntKind.i64.wrap (j * (120 : Int)) + k)).toNat * 1)) (cIf (decide ((0 : Int) ≤ IntKind.i64.wrap (IntKind.i64.wrap (k * (120 : Int)) + i))) (cIf (decide ((IntKind.i64.wrap (IntKind.i64.wrap (k * (120 : Int)) + i)).toNat < 14400)) (cIf (decide (0 + (IntKind.i64.wrap (IntKind.i64.wrap (k * (120 : Int)) + i)).toNat * 1 < bs.length)) (cIf (likeOk (AV.ofVal (Value.bool false)) (bs.getD (0 + (IntKind.i64.wrap (IntKind.i64.wrap (k * (120 : Int)) + i)).toNat * 1) X)) (cIf (cB bs (0 + (IntKind.i64.wrap (IntKind.i64.wrap (k * (120 : Int)) + i)).toNat * 1)) (cIf (decide ((0 : Int) ≤ i)) (cIf (decide (i.toNat < 120)) (cIf (decide (840 = pl.length)) (cIf (decide (7 ≤ (List.drop (i.toNat * 7) pl).length)) (cIf (like zP (el (List.drop (i.toNat * 7) pl) 0 7)) (cIf (decide ((0 : Int) ≤ j)) (cIf (decide (j.toNat < 120)) (cIf (decide (840 = pl.length)) (cIf (decide (7 ≤ (List.drop (j.toNat * 7) pl).length)) (cIf (like zP (el (List.drop (j.toNat * 7) pl) 0 7)) (cIf (decide ((0 : Int) ≤ k)) (cIf (decide (k.toNat < 120)) (cIf (decide (840 = pl.length)) (cIf (decide (7 ≤ (List.drop (k.toNat * 7) pl).length)) (cIf (like zP (el (List.drop (k.toNat * 7) pl) 0 7)) (Q (CR.ret (AV.tup [AV.vs [I (cI (el (List.drop (i.toNat * 7) pl) 0 7) 0), I (cI (el (List.drop (i.toNat * 7) pl) 0 7) 1), Bo (cB (el (List.drop (i.toNat * 7) pl) 0 7) 2), Bo (cB (el (List.drop (i.toNat * 7) pl) 0 7) 3), Bo (cB (el (List.drop (i.toNat * 7) pl) 0 7) 4), I (cI (el (List.drop (i.toNat * 7) pl) 0 7) 5), I (cI (el (List.drop (i.toNat * 7) pl) 0 7) 6), I (cI (el (List.drop (j.toNat * 7) pl) 0 7) 0), I (cI (el (List.drop (j.toNat * 7) pl) 0 7) 1), Bo (cB (el (List.drop (j.toNat * 7) pl) 0 7) 2), Bo (cB (el (List.drop (j.toNat * 7) pl) 0 7) 3), Bo (cB (el (List.drop (j.toNat * 7) pl) 0 7) 4), I (cI (el (List.drop (j.toNat * 7) pl) 0 7) 5), I (cI (el (List.drop (j.toNat * 7) pl) 0 7) 6), I (cI (el (List.drop (k.toNat * 7) pl) 0 7) 0), I (cI (el (List.drop (k.toNat * 7) pl) 0 7) 1), Bo (cB (el (List.drop (k.toNat * 7) pl) 0 7) 2), Bo (cB (el (List.drop (k.toNat * 7) pl) 0 7) 3), Bo (cB (el (List.drop (k.toNat * 7) pl) 0 7) 4), I (cI (el (List.drop (k.toNat * 7) pl) 0 7) 5), I (cI (el (List.drop (k.toNat * 7) pl) 0 7) 6)] 3 Tok.none, Bo true, I (0 : Int)]))) False) False) False) False) False) False) False) False) False) False) False) False) False) False) False) (WLoop (Tryz.X36 pl) (cd PP 36 [1, 1, 1, 1, 1, 1, 1, 0, 1, 0, 0, 1, 0, 0, 1, 0, 0, 1, 0, 0, 1, 1, 0, 0]) ([X, X, X, X, X, X, AV.vs pl 120 Tok.none, I (120 : Int), AV.row 1 0 14400 14400, X, X, X, I i, I j, I (IntKind.i64.wrap (k + (1 : Int)))] ++ List.replicate 98 X) (St.mk [some (HB.cells [AV.vs l len Tok.none] 25), some (HB.cells bs 4)] T []) (kBlock 8 (kBlock 7 (kSeq (Tryz.X36 pl) (cd PP 36 [1, 1, 1, 1, 1, 1, 1, 0, 1, 0, 0, 1, 0, 0, 1, 0, 0, 1, 1]) (kLoop (Tryz.X36 pl) (cd PP 36 [1, 1, 1, 1, 1, 1, 1, 0, 1, 0, 0, 1, 0, 0, 1, 0, 0]) (kBlock 6 (kBlock 5 (kSeq (Tryz.X36 pl) (cd PP 36 [1, 1, 1, 1, 1, 1, 1, 0, 1, 0, 0, 1, 1]) (kLoop (Tryz.X36 pl) (cd PP 36 [1, 1, 1, 1, 1, 1, 1, 0, 1, 0, 0]) (kBlock 4 (kSeq (Tryz.X36 pl) (cd PP 36 [1, 1, 1, 1, 1, 1, 1, 1]) (kRet (Tryz.X36 pl) 36 Q))))))))))))) False) False) False) False) (WLoop (Tryz.X36 pl) (cd PP 36 [1, 1, 1, 1, 1, 1, 1, 0, 1, 0, 0, 1, 0, 0, 1, 0, 0, 1, 0, 0, 1, 1, 0, 0]) ([X, X, X, X, X, X, AV.vs pl 120 Tok.none, I (120 : Int), AV.row 1 0 14400 14400, X, X, X, I i, I j, I (IntKind.i64.wrap (k + (1 : Int)))] ++ List.replicate 98 X) (St.mk [some (HB.cells [AV.vs l len Tok.none] 25), some (HB.cells bs 4)] T []) (kBlock 8 (kBlock 7 (kSeq (Tryz.X36 pl) (cd PP 36 [1, 1, 1, 1, 1, 1, 1, 0, 1, 0, 0, 1, 0, 0, 1, 0, 0, 1, 1]) (kLoop (Tryz.X36 pl) (cd PP 36 [1, 1, 1, 1, 1, 1, 1, 0, 1, 0, 0, 1, 0, 0, 1, 0, 0]) (kBlock 6 (kBlock 5 (kSeq (Tryz.X36 pl) (cd PP 36 [1, 1, 1, 1, 1, 1, 1, 0, 1, 0, 0, 1, 1]) (kLoop (Tryz.X36 pl) (cd PP 36 [1, 1, 1, 1, 1, 1, 1, 0, 1, 0, 0]) (kBlock 4 (kSeq (Tryz.X36 pl) (cd PP 36 [1, 1, 1, 1, 1, 1, 1, 1]) (kRet (Tryz.X36 pl) 36 Q))))))))))))) False) False) False) False) (WLoop (Tryz.X36 pl) (cd PP 36 [1, 1, 1, 1, 1, 1, 1, 0, 1, 0, 0, 1, 0, 0, 1, 0, 0]) ([X, X, X, X, X, X, AV.vs pl 120 Tok.none, I (120 : Int), AV.row 1 0 14400 14400, X, X, X, I i, I (IntKind.i64.wrap (j + (1 : Int)))] ++ List.replicate 99 X) (St.mk [some (HB.cells [AV.vs l len Tok.none] 25), some (HB.cells bs 4)] T []) (kBlock 6 (kBlock 5 (kSeq (Tryz.X36 pl) (cd PP 36 [1, 1, 1, 1, 1, 1, 1, 0, 1, 0, 0, 1, 1]) (kLoop (Tryz.X36 pl) (cd PP 36 [1, 1, 1, 1, 1, 1, 1, 0, 1, 0, 0]) (kBlock 4 (kSeq (Tryz.X36 pl) (cd PP 36 [1, 1, 1, 1, 1, 1, 1, 1]) (kRet (Tryz.X36 pl) 36 Q))))))))) := by kernel_rfl
theorem v37 (a b : List AV) (n m : Nat) (ta tb : Tok) (Q : CR → Prop) : wpF Tryz.X37 37 [.vs a n ta, .vs b m tb] Q =
  (cIf ((↑n : Int) != (↑m : Int)) (Q (CR.ret (Bo false))) (WLoop Tryz.X37 (cd Tryz.X37.P 37 [1, 1, 0, 1, 0, 0]) ([AV.vs a n ta, AV.vs b m tb, X, X, X, I (0 : Int)] ++ List.replicate 20 X) (St.mk [] [] []) (kBlock 0 (kSeq Tryz.X37 (cd Tryz.X37.P 37 [1, 1, 1]) (kRet Tryz.X37 37 Q))))) := by kernel_rfl
theorem v37l (a b : List AV) (n m : Nat) (ta tb : Tok) (i : Int) (Q : CR → Prop) : wpC Tryz.X37 (cd PP 37 [1, 1, 0, 1, 0, 0]) ([.vs a n ta, .vs b m tb, X, X, X, I i] ++ List.replicate 20 X) ⟨[], [], []⟩ (kLoop Tryz.X37 (cd PP 37 [1, 1, 0, 1, 0, 0]) (kBlock 0 (kSeq Tryz.X37 (cd PP 37 [1, 1, 1]) (kRet Tryz.X37 37 Q)))) =
  (cIf (decide (i < (↑n : Int))) (cIf (decide ((0 : Int) ≤ i)) (cIf (decide (i.toNat < n)) (cIf (decide (n * 7 = a.length)) (cIf (decide (7 ≤ (List.drop (i.toNat * 7) a).length)) (cIf (like zP (el (List.drop (i.toNat * 7) a) 0 7)) (cIf (decide ((0 : Int) ≤ i)) (cIf (decide (i.toNat < m)) (cIf (decide (m * 7 = b.length)) (cIf (decide (7 ≤ (List.drop (i.toNat * 7) b).length)) (cIf (like zP (el (List.drop (i.toNat * 7) b) 0 7)) (cIf (!(cI (el (List.drop (i.toNat * 7) a) 0 7) 0 == cI (el (List.drop (i.toNat * 7) b) 0 7) 0 && (cI (el (List.drop (i.toNat * 7) a) 0 7) 1 == cI (el (List.drop (i.toNat * 7) b) 0 7) 1 && (cB (el (List.drop (i.toNat * 7) a) 0 7) 2 == cB (el (List.drop (i.toNat * 7) b) 0 7) 2 && (cB (el (List.drop (i.toNat * 7) a) 0 7) 3 == cB (el (List.drop (i.toNat * 7) b) 0 7) 3 && (cB (el (List.drop (i.toNat * 7) a) 0 7) 4 == cB (el (List.drop (i.toNat * 7) b) 0 7) 4 && (cI (el (List.drop (i.toNat * 7) a) 0 7) 5 == cI (el (List.drop (i.toNat * 7) b) 0 7) 5 && (cI (el (List.drop (i.toNat * 7) a) 0 7) 6 == cI (el (List.drop (i.toNat * 7) b) 0 7) 6 && true)))))))) (Q (CR.ret (Bo false))) (WLoop Tryz.X37 (cd PP 37 [1, 1, 0, 1, 0, 0]) ([AV.vs a n ta, AV.vs b m tb, X, X, X, I (IntKind.i64.wrap (i + (1 : Int)))] ++ List.replicate 20 X) (St.mk [] [] []) (kBlock 0 (kSeq Tryz.X37 (cd PP 37 [1, 1, 1]) (kRet Tryz.X37 37 Q))))) False) False) False) False) False) False) False) False) False) False) (Q (CR.ret (Bo true)))) := by kernel_rfl
theorem v9 (l : List AV) (len : Nat) (Q : CR → Prop) : wpF Tryz.X9 9 [.agg [.vs l len .none]] Q =
  ((∃ (rs : List Rul), l = encRs rs ∧ len = rs.length ∧ wfRs rs ∧ (0 : Int) ≤ (40 : Int) ∧ (40 : Int) ≤ (1000 : Int)) ∧ cIf (!onEnc encRs (fewB (40 : Int)) false l) (True ∧ Q (CR.ret (Bo true))) ((∃ (rs : List Rul), l = encRs rs ∧ len = rs.length ∧ wfRs rs) ∧ (∃ (rs : List Rul), l = encRs rs ∧ len = rs.length ∧ wfRs rs) ∧ True ∧ cIf ((circE l).snd.fst == (circE l).snd.fst) (cIf ((circE l).snd.snd == (circE l).snd.snd) (((∃ (x : List Prf), encPs (circE l).fst = encPs x ∧ (circE l).fst.length = x.length ∧ x.length ≤ 1000) ∧ encPs (circE l).fst = encPs (circE l).fst ∧ (circE l).fst.length = (circE l).fst.length) ∧ Q (CR.ret (Bo true))) (Q (CR.ret (Bo false)))) (Q (CR.ret (Bo false))))) := by kernel_rfl
end Go.Proofs
/-! C24 -/
set_option maxRecDepth 100000
set_option linter.unusedVariables false
namespace Go.Ev
def encB (l : List Bool) : List AV := l.map AV.bool
theorem encB_len (l : List Bool) : (encB l).length = l.length := by simp [encB]
theorem encB_noH (n : Nat) : ∀ l : List Bool, noHL n (encB l) = true
  | [] => rfl
  | a :: l => by have := encB_noH n l; simp [encB, noHL, noH] at this ⊢; exact this
theorem encB_get (l : List Bool) (j : Nat) (h : j < l.length) : (encB l).getD j .bad = .bool (l.getD j false) := by
  simp [encB, List.getD_eq_getElem?_getD, List.getElem?_map, List.getElem?_eq_getElem h]
theorem encB_drop (l : List Bool) (k : Nat) : List.drop k (encB l) = encB (l.drop k) := by simp [encB, List.map_drop]
theorem bD_drop (l : List Bool) (i : Nat) : (l.drop i).getD 0 false = l.getD i false := by simp [List.getD_eq_getElem?_getD, List.getElem?_drop]
theorem encB_cB (l : List Bool) (j : Nat) (h : j < l.length) : cB (encB l) j = l.getD j false := by unfold cB; rw [encB_get l j h]; rfl
theorem encB_like (l : List Bool) (j : Nat) (h : j < l.length) : likeOk (AV.ofVal (Value.bool false)) ((encB l).getD j .bad) = true := by rw [encB_get l j h]; rfl
theorem encB_dc {l : List Bool} {i : Nat} (h : i < l.length) : cB (List.drop ((i : Int).toNat * 1) (encB l)) 0 = l.getD i false := by
  rw [Int.toNat_natCast, Nat.mul_one, encB_drop, encB_cB _ _ (by rw [List.length_drop]; omega), bD_drop]
theorem encB_dl {l : List Bool} {i : Nat} (h : i < l.length) : likeOk (AV.ofVal (Value.bool false)) ((List.drop ((i : Int).toNat * 1) (encB l)).getD 0 AV.bad) = true := by
  rw [Int.toNat_natCast, Nat.mul_one, encB_drop]; exact encB_like _ _ (by rw [List.length_drop]; omega)
theorem encB_dlen {l : List Bool} {i : Nat} (h : i < l.length) : decide (0 < (List.drop ((i : Int).toNat * 1) (encB l)).length) = true := by
  rw [Int.toNat_natCast, Nat.mul_one, encB_drop, encB_len, List.length_drop]; exact decide_eq_true (by omega)
theorem encB_put (l : List Bool) (j : Nat) (b : Bool) (h : j < l.length) : putL (encB l) j [AV.bool b] = encB (l.set j b) := by
  unfold putL encB
  rw [List.set_eq_take_append_cons_drop, if_pos h]
  simp
theorem tokW_zero {n z : Prop} {o : Nat → Prop} (h : z) : tokW .zero n z o := h
theorem tokW_own {n z : Prop} {o : Nat → Prop} {k : Nat} (h : o k) : tokW (.own k) n z o := h
theorem encB_app (l : List Bool) (b : Bool) : encB l ++ [AV.bool b] = encB (l ++ [b]) := by simp [encB]
theorem zeros_encB (n : Nat) : zerosA [AV.bool false] n = encB (List.replicate n false) := by
  simp [zerosA, encB, Nat.mod_one, List.map_const', List.map_replicate]
theorem zeros_rows (n x : Nat) (h : x < n) : (zerosA [AV.vs [] 0 Tok.zero] n)[x]? = some (AV.vs [] 0 Tok.zero) := by
  simp [zerosA, Nat.mod_one, h]
theorem zeros_rows_len (n : Nat) : (zerosA [AV.vs [] 0 Tok.zero] n).length = n := by simp [zerosA]
theorem noHL_mem {n : Nat} : ∀ {l : List AV}, noHL n l = true ↔ ∀ v ∈ l, noH n v = true
  | [] => by simp [noHL]
  | a :: l => by simp [noHL, noHL_mem (l := l)]
theorem putL_set (l : List AV) (j : Nat) (v : AV) (h : j < l.length) : putL l j [v] = l.set j v := by
  unfold putL
  rw [List.set_eq_take_append_cons_drop, if_pos h]
  simp
theorem cV_get {l c : List AV} {j n : Nat} {t : Tok} (h : l[j]? = some (.vs c n t)) : cL l j = c ∧ cN l j = n ∧ cT l j = t ∧ likeOk (AV.ofVal (Value.slice none 0 0)) (l.getD j .bad) = true := by
  have e : l.getD j .bad = .vs c n t := by simp [List.getD_eq_getElem?_getD, h]
  unfold cL cN cT
  rw [e]
  exact ⟨rfl, rfl, rfl, rfl⟩
end Go.Ev
namespace Go.Proofs
open Go Go.Ev
/-! Profiles. -/
theorem encP_len (p : Prf) : (encP p).length = 7 := rfl
theorem encPs_len : ∀ l : List Prf, (encPs l).length = l.length * 7
  | [] => rfl
  | t :: l => by simp only [encPs, List.length_append, encP_len, encPs_len l, List.length_cons]; omega
theorem encPs_el {l : List Prf} {k : Nat} {x : Prf} (h : l[k]? = some x) : el (List.drop (k * 7) (encPs l)) 0 7 = encP x := by
  rw [el_drop]
  exact (by rw [Nat.add_zero]; exact enc_get (enc := encP) (encs := encPs) rfl (fun _ _ => rfl) encP_len l k x h)
theorem encP_w (p : Prf) : elP (encP p) = encP p := rfl
theorem encP_like (p : Prf) : like zP (encP p) = true := rfl
theorem noH_encPs (n : Nat) : ∀ l : List Prf, noHL n (encPs l) = true
  | [] => rfl
  | t :: l => by simp [encPs, noHL_append, noH_encP n t, noH_encPs n l]
theorem sc_encPs : ∀ l : List Prf, scrubL 0 (encPs l) = encPs l
  | [] => rfl
  | t :: l => by simp [encPs, scrubL_append, sc_encP t, sc_encPs l]
theorem encPs_inj : ∀ (l m : List Prf), encPs l = encPs m → l = m
  | [], [], h => rfl
  | [], t :: m, h => by have := congrArg List.length h; simp [encPs, encP_len] at this; omega
  | t :: l, [], h => by have := congrArg List.length h; simp [encPs, encP_len] at this
  | s :: l, t :: m, h => by
    simp only [encPs] at h
    have := List.append_inj h (by rw [encP_len, encP_len])
    rw [encP_inj _ _ this.1, encPs_inj l m this.2]
theorem profL_len : profL.length = 120 := by simp [profL]
theorem prof_at {i : Nat} (h : i < 120) : ∃ p, profL[i]? = some p := ⟨_, List.getElem?_eq_getElem (by rw [profL_len]; exact h)⟩
theorem prof_len : (840 = (encPs profL).length) := by rw [encPs_len, profL_len]
theorem prof_dl {i : Nat} (h : i < 120) : 7 ≤ (List.drop ((i : Int).toNat * 7) (encPs profL)).length := by
  rw [Int.toNat_natCast]
  exact enc_drop_len (n := 120) (by rw [encPs_len, profL_len]) h
theorem prof_el {i : Nat} {p : Prf} (h : profL[i]? = some p) : el (List.drop ((i : Int).toNat * 7) (encPs profL)) 0 7 = encP p := by
  rw [Int.toNat_natCast]; exact encPs_el h
theorem lt120 {a : Nat} (h : a < 120) : decide ((a : Int) < (120 : Int)) = true := decide_eq_true (by omega)
theorem ge120 {a : Nat} (h : ¬ a < 120) : decide ((a : Int) < (120 : Int)) = false := decide_eq_false (by omega)
theorem befB_at {rs : List Rul} {i j : Nat} {p q : Prf} (h1 : profL[i]? = some p) (h2 : profL[j]? = some q) : befB rs i j = befP rs p q := by
  unfold befB; rw [h1, h2]
/-! The searches. -/
def fnd (x : Nat × Nat × Nat) : CR := .ret (.tup [.vs (encPs (circV (some x))) 3 .none, Bo true, I 0])
theorem fnd_at {i j k : Nat} {p q r : Prf} (h1 : profL[i]? = some p) (h2 : profL[j]? = some q) (h3 : profL[k]? = some r) : fnd (i, j, k) = .ret (.tup [.vs (encP p ++ encP q ++ encP r) 3 .none, Bo true, I 0]) := by
  show CR.ret (.tup [.vs (encPs ((profL[i]?).toList ++ (profL[j]?).toList ++ (profL[k]?).toList)) 3 .none, Bo true, I 0]) = _
  rw [h1, h2, h3]
  rfl
theorem pK_false {B : Nat → Nat → Bool} {i j : Nat} (h : B i j = false) : ∀ l, pK B i j l = none
  | [] => rfl
  | k :: l => by rw [pK, h]; simpa using pK_false h l
/-! The program's rows. -/
def brow (rs : List Rul) (i : Nat) (n : Nat) : List Bool := (List.range n).map (befB rs i)
theorem brow_len (rs : List Rul) (i n : Nat) : (brow rs i n).length = n := by simp [brow]
theorem brow_get (rs : List Rul) (i : Nat) {n j : Nat} (h : j < n) : (brow rs i n).getD j false = befB rs i j := by
  simp [brow, List.getD_eq_getElem?_getD, List.getElem?_map, List.getElem?_range h]
theorem brow_succ (rs : List Rul) (i n : Nat) : brow rs i (n + 1) = brow rs i n ++ [befB rs i n] := by simp [brow, List.range_succ]
structure RowsI (rs : List Rul) (rw : List AV) (i : Nat) : Prop where
  len : rw.length = 120
  nh : ∀ n, noHL n rw = true
  done : ∀ x, x < i → ∃ t, rw[x]? = some (.vs (encB (brow rs x 120)) 120 t)
  rest : ∀ x, i ≤ x → x < 120 → rw[x]? = some (.vs [] 0 .zero)
structure RowsJ (rs : List Rul) (rw : List AV) (T : List (Nat × (Nat × Nat))) (i j : Nat) : Prop where
  len : rw.length = 120
  nh : ∀ n, noHL n rw = true
  done : ∀ x, x < i → ∃ t, rw[x]? = some (.vs (encB (brow rs x 120)) 120 t)
  cur : ∃ t, rw[i]? = some (.vs (encB (brow rs i j)) j t) ∧ (t = .zero ∧ j = 0 ∨ ∃ k, t = .own k ∧ T[k]? = some (j, 1, 4))
  rest : ∀ x, i < x → x < 120 → rw[x]? = some (.vs [] 0 .zero)
theorem RowsI.toJ {rs : List Rul} {rw : List AV} {T : List (Nat × (Nat × Nat))} {i : Nat} (h : RowsI rs rw i) (hi : i < 120) : RowsJ rs rw T i 0 :=
  ⟨h.len, h.nh, h.done, ⟨.zero, h.rest i (Nat.le_refl _) hi, .inl ⟨rfl, rfl⟩⟩, fun x h1 h2 => h.rest x (by omega) h2⟩
theorem RowsJ.toI {rs : List Rul} {rw : List AV} {T : List (Nat × (Nat × Nat))} {i : Nat} (h : RowsJ rs rw T i 120) : RowsI rs rw (i + 1) :=
  ⟨h.len, h.nh, fun x hx => by
    rcases Nat.lt_or_ge x i with h1 | h1
    · exact h.done x h1
    · have : x = i := by omega
      subst this
      obtain ⟨t, ht, _⟩ := h.cur
      exact ⟨t, ht⟩, fun x h1 h2 => h.rest x (by omega) h2⟩
theorem RowsJ.put {rs : List Rul} {rw : List AV} {T T' : List (Nat × (Nat × Nat))} {i j k : Nat} (h : RowsJ rs rw T i j) (hi : i < 120) (hT : T'[k]? = some (j + 1, 1, 4)) : RowsJ rs (rw.set i (.vs (encB (brow rs i (j + 1))) (j + 1) (.own k))) T' i (j + 1) := by
  have hl := h.len
  refine ⟨by simp [hl], fun n => ?_, fun x hx => ?_, ⟨.own k, ?_, .inr ⟨k, rfl, hT⟩⟩, fun x h1 h2 => ?_⟩
  · rw [noHL_mem]
    intro v hv
    rcases List.mem_or_eq_of_mem_set hv with h1 | h1
    · exact noHL_mem.1 (h.nh n) v h1
    · subst h1
      simp [noH, encB_noH]
  · rw [List.getElem?_set_ne (by omega)]; exact h.done x hx
  · rw [List.getElem?_set_self (by omega)]
  · rw [List.getElem?_set_ne (by omega)]; exact h.rest x h1 h2
theorem c35 (hp : Ct Tryz.B.c0 38 (RPl (encPs profL))) : Cts Tryz.B [(27, R27), (38, RPl (encPs profL)), (78, R78), (79, R79)] := ((((Cts.nil _).cons ct79).cons ct78).cons hp).cons ct27'
theorem dvP_dec (rs : List Rul) (p q : Prf) : dvP (encRs rs) (encD (rankL rs)) (encP p) (encP q) = decV rs p q := by
  unfold dvP on3
  rw [onEnc_eq encRs_inj, onEnc_eq encP_inj, onEnc_eq encP_inj]
  dsimp only
  rw [onEnc_eq encD_inj]
  rfl
noncomputable abbrev Xp : WCx := Tryz.X35 (encPs profL)
section
variable (hp : Ct Tryz.B.c0 38 (RPl (encPs profL))) {rs : List Rul} (hrs : okRs rs) (hsh : ∀ x ∈ rs, shT x.t = true) {Q : CR → Prop}
theorem blk2 (l rw : List AV) (len n : Nat) (h : ∀ n, noHL n rw = true) (hl : noHL n l = true) : [some (HB.cells [AV.vs l len Tok.none] 25), some (HB.cells rw 118)].all (okBlk n) = true := by
  simp [okBlk, noHB, noHL, noH, h n, hl]
theorem blk3 (l rw : List AV) (len n : Nat) (p : Prf) (h : ∀ n, noHL n rw = true) (hl : noHL n l = true) : [some (HB.cells [AV.vs l len Tok.none] 25), some (HB.cells rw 118), some (HB.cells (encP p) 40)].all (okBlk n) = true := by
  simp [okBlk, noHB, noHL, noH, h n, hl, noH_encP]
theorem env35a (od : List Nat) (on : Nat) (i : Int) : noHL 2 ([X, .ptr 0 0, X, X, X, X, .vs (encD od) on .none, .vs (encPs profL) 120 .none, .row 1 0 120 120, X, X, X, X, X, X, X, X, X, X, X, X, X, X, X, X, X, X, .vs (encPs profL) 120 .none, I 120, I i] ++ List.replicate 84 X) = true := by
  refine noHL_app ?_ (noHL_rep 2 84)
  simp [noHL, noH, encD_noH, noH_encPs]
theorem env35b (od : List Nat) (on : Nat) (i j : Int) : noHL 3 ([X, .ptr 0 0, X, X, X, X, .vs (encD od) on .none, .vs (encPs profL) 120 .none, .row 1 0 120 120, I i, .ptr 2 0, X, X, X, X, X, X, X, X, X, X, X, X, X, X, X, X, .vs (encPs profL) 120 .none, I 120, I i, X, X, X, X, .vs (encPs profL) 120 .none, I 120, I j] ++ List.replicate 77 X) = true := by
  refine noHL_app ?_ (noHL_rep 3 77)
  simp [noHL, noH, encD_noH, noH_encPs]
include hp hrs hsh
theorem l35b {i : Nat} (hi : i < 120) {a : Prf} (ha : profL[i]? = some a)
    (next : ∀ rw T, RowsI rs rw (i + 1) → WLoop Xp (cd PP 35 [1, 1, 1, 1, 1, 0, 1, 0, 0]) ([X, .ptr 0 0, X, X, X, X, .vs (encD (rankL rs)) (rankL rs).length .none, .vs (encPs profL) 120 .none, .row 1 0 120 120, X, X, X, X, X, X, X, X, X, X, X, X, X, X, X, X, X, X, .vs (encPs profL) 120 .none, I 120, I (i + 1 : Nat)] ++ List.replicate 84 X) ⟨[some (.cells [.vs (encRs rs) rs.length .none] 25), some (.cells rw 118)], T, []⟩ (kBlock 0 (kSeq Xp (cd PP 35 [1, 1, 1, 1, 1, 1]) (kRet Xp 35 Q)))) :
    ∀ (d j : Nat) (rw : List AV) (T : List (Nat × (Nat × Nat))), 120 - j = d → j ≤ 120 → RowsJ rs rw T i j →
    WLoop Xp (cd PP 35 [1, 1, 1, 1, 1, 0, 1, 0, 0, 1, 1, 0, 0, 1, 1, 0, 0]) ([X, .ptr 0 0, X, X, X, X, .vs (encD (rankL rs)) (rankL rs).length .none, .vs (encPs profL) 120 .none, .row 1 0 120 120, I i, .ptr 2 0, X, X, X, X, X, X, X, X, X, X, X, X, X, X, X, X, .vs (encPs profL) 120 .none, I 120, I i, X, X, X, X, .vs (encPs profL) 120 .none, I 120, I j] ++ List.replicate 77 X) ⟨[some (.cells [.vs (encRs rs) rs.length .none] 25), some (.cells rw 118), some (.cells (encP a) 40)], T, []⟩ (kBlock 2 (kBlock 1 (kSeq Xp (cd PP 35 [1, 1, 1, 1, 1, 0, 1, 0, 0, 1, 1, 1]) (kLoop Xp (cd PP 35 [1, 1, 1, 1, 1, 0, 1, 0, 0]) (kBlock 0 (kSeq Xp (cd PP 35 [1, 1, 1, 1, 1, 1]) (kRet Xp 35 Q))))))) := by
  intro d
  induction d with
  | zero =>
    intro j rw T hd hj h
    have hj' : j = 120 := by omega
    subst hj'
    refine WLoop_unroll (C := Xp) (wcx_ones Tryz.bok (c35 hp)) (wcx_ok Tryz.bok (c35 hp)) ?_
    rw [v35b, wA1 (a := i) (by omega)]
    exact cIf_neg (ge120 (by omega)) (cIf_pos (env35a _ _ _) (cIf_pos (blk2 _ _ _ _ h.nh (noH_encRs 2 rs)) (next rw T h.toI)))
  | succ d ih =>
    intro j rw T hd hj h
    have hlt : j < 120 := by omega
    obtain ⟨q, hq⟩ := prof_at hlt
    obtain ⟨t, hcur, htok⟩ := h.cur
    obtain ⟨e1, e2, e3, e4⟩ := cV_get hcur
    have hbef : (kindV (decV rs a q).1 (decV rs a q).2 == 1) = befB rs i j := (befB_at ha hq).symm
    refine WLoop_unroll (C := Xp) (wcx_ones Tryz.bok (c35 hp)) (wcx_ok Tryz.bok (c35 hp)) ?_
    rw [v35b, wA1 (a := j) (by omega), prof_el hq, encP_w, dvP_dec, hbef, row_at, e1, e2, e3]
    refine cIf_pos (lt120 hlt) (cIf_pos (row_nn _) (cIf_pos (row_in hlt) (cIf_pos (decide_eq_true prof_len) (cIf_pos (decide_eq_true (prof_dl hlt)) (cIf_pos (encP_like q) (cIf_pos (row_nn _) (cIf_pos (row_in hi) (cIf_pos (decide_eq_true (by rw [h.len]; exact hi)) (cIf_pos e4 (cIf_pos ?_ ⟨?_, rfl, cIf_pos (decide_eq_true (by omega)) (cIf_pos (decide_eq_true (by omega)) (cIf_pos (decide_eq_true (by rw [encB_len, brow_len]; omega)) ?_))⟩))))))))))
    · simp [noHL, noH, noH_encRs, encD_noH, noH_encP]
    · exact ⟨⟨rs, rankL rs, rfl, rfl, hrs, hsh, rfl, rfl, by rw [rankL_len]; exact hrs.2.1, rankL_mem rs⟩, ⟨a, rfl⟩, q, rfl⟩
    · rcases htok with ⟨rfl, rfl⟩ | ⟨k, rfl, hk⟩
      · have hn := h.put (T' := T ++ [(1, 1, 4)]) (k := T.length) hi (by simp)
        refine tokW_zero ?_
        rw [putL_set _ _ _ (by rw [h.len]; exact hi)]
        exact cIf_pos rfl (cIf_pos (row_nn _) (cIf_pos (row_in hi) (cIf_pos (decide_eq_true (by rw [h.len]; omega)) (cIf_pos (env35b _ _ _ _) (cIf_pos (blk3 _ _ _ _ _ hn.nh (noH_encRs 3 rs)) (ih 1 _ _ (by omega) (by omega) hn))))))
      · have hn := h.put (T' := T.set k (j + 1, 1, 4)) (k := k) hi (by rw [List.getElem?_set_self (List.getElem?_eq_some_iff.1 hk).1])
        refine tokW_own ?_
        rw [encB_app, ← brow_succ, putL_set _ _ _ (by rw [h.len]; exact hi)]
        exact cIf_pos (decide_eq_true hk) (cIf_pos (row_nn _) (cIf_pos (row_in hi) (cIf_pos (decide_eq_true (by rw [h.len]; omega)) (cIf_pos (env35b _ _ _ _) (cIf_pos (blk3 _ _ _ _ _ hn.nh (noH_encRs 3 rs)) (ih (j + 1) _ _ (by omega) (by omega) hn))))))
omit hrs hsh in
theorem l35e {rw : List AV} {T : List (Nat × (Nat × Nat))} (h : RowsI rs rw 120) {i j : Nat} (hi : i < 120) (hj : j < 120)
    (hf : ∀ x, pK (befB rs) i j (List.range 120) = some x → Q (fnd x)) :
    ∀ (d k : Nat), 120 - k = d → k ≤ 120 → pK (befB rs) i j (List.range 120) = pK (befB rs) i j ((List.range 120).drop k) →
    (pK (befB rs) i j (List.range 120) = none → WLoop Xp (cd PP 35 [1, 1, 1, 1, 1, 1, 0, 1, 0, 0, 1, 1, 0, 0, 1, 1, 0, 0]) ([X, X, X, X, X, X, X, .vs (encPs profL) 120 .none, .row 1 0 120 120, X, X, X, X, I i, X, X, X, X, X, X, X, X, X, X, X, X, X, X, X, X, X, X, X, X, X, X, X, X, X, X, X, X, X, X, X, X, X, X, X, X, X, X, X, X, X, X, X, X, X, I 120, I i, X, X, X, I 120, I (j + 1 : Nat)] ++ List.replicate 48 X) ⟨[some (.cells [.vs (encRs rs) rs.length .none] 25), some (.cells rw 118)], T, []⟩ (kBlock 6 (kBlock 5 (kSeq Xp (cd PP 35 [1, 1, 1, 1, 1, 1, 0, 1, 0, 0, 1, 1, 1]) (kLoop Xp (cd PP 35 [1, 1, 1, 1, 1, 1, 0, 1, 0, 0]) (kBlock 4 (kSeq Xp (cd PP 35 [1, 1, 1, 1, 1, 1, 1]) (kRet Xp 35 Q)))))))) →
    WLoop Xp (cd PP 35 [1, 1, 1, 1, 1, 1, 0, 1, 0, 0, 1, 1, 0, 0, 1, 1, 0, 0, 1, 1, 0, 0, 1, 1, 0, 0]) ([X, X, X, X, X, X, X, .vs (encPs profL) 120 .none, .row 1 0 120 120, X, X, X, X, I i, I j, X, X, X, X, X, X, X, X, X, X, X, X, X, X, X, X, X, X, X, X, X, X, X, X, X, X, X, X, X, X, X, X, X, X, X, X, X, X, X, X, X, X, X, X, I 120, I i, X, X, X, I 120, I j, X, X, X, I 120, I k] ++ List.replicate 43 X) ⟨[some (.cells [.vs (encRs rs) rs.length .none] 25), some (.cells rw 118)], T, []⟩ (kBlock 8 (kBlock 7 (kSeq Xp (cd PP 35 [1, 1, 1, 1, 1, 1, 0, 1, 0, 0, 1, 1, 0, 0, 1, 1, 0, 0, 1, 1, 1]) (kLoop Xp (cd PP 35 [1, 1, 1, 1, 1, 1, 0, 1, 0, 0, 1, 1, 0, 0, 1, 1, 0, 0]) (kBlock 6 (kBlock 5 (kSeq Xp (cd PP 35 [1, 1, 1, 1, 1, 1, 0, 1, 0, 0, 1, 1, 1]) (kLoop Xp (cd PP 35 [1, 1, 1, 1, 1, 1, 0, 1, 0, 0]) (kBlock 4 (kSeq Xp (cd PP 35 [1, 1, 1, 1, 1, 1, 1]) (kRet Xp 35 Q))))))))))) := by
  intro d
  induction d with
  | zero =>
    intro k hd hk hw next
    have hk' : k = 120 := by omega
    subst hk'
    rw [List.drop_of_length_le (by simp)] at hw
    refine WLoop_unroll (C := Xp) (wcx_ones Tryz.bok (c35 hp)) (wcx_ok Tryz.bok (c35 hp)) ?_
    rw [v35e, wA1 (a := j) (by omega)]
    exact cIf_neg (ge120 (by omega)) (next hw)
  | succ d ih =>
    intro k hd hk hw next
    have hlt : k < 120 := by omega
    obtain ⟨p, hp1⟩ := prof_at hi
    obtain ⟨q, hq1⟩ := prof_at hj
    obtain ⟨r, hr1⟩ := prof_at hlt
    obtain ⟨ti, hi1⟩ := h.done i hi
    obtain ⟨tj, hj1⟩ := h.done j hj
    obtain ⟨tk, hk1⟩ := h.done k hlt
    obtain ⟨a1, a2, _, a4⟩ := cV_get hi1
    obtain ⟨b1, b2, _, b4⟩ := cV_get hj1
    obtain ⟨c1, c2, _, c4⟩ := cV_get hk1
    rw [range_drop hlt, pK] at hw
    refine WLoop_unroll (C := Xp) (wcx_ones Tryz.bok (c35 hp)) (wcx_ok Tryz.bok (c35 hp)) ?_
    rw [v35e, wA1 (a := k) (by omega), row_at, row_at, row_at, a1, a2, b1, b2, c1, c2, encB_dc (by rw [brow_len]; exact hj), encB_dc (by rw [brow_len]; exact hlt), encB_dc (by rw [brow_len]; exact hi), brow_get _ _ hj, brow_get _ _ hlt, brow_get _ _ hi, prof_el hp1, prof_el hq1, prof_el hr1]
    refine cIf_pos (lt120 hlt) (cIf_pos (row_nn _) (cIf_pos (row_in hi) (cIf_pos (decide_eq_true (by rw [h.len]; exact hi)) (cIf_pos a4 (cIf_pos (row_nn _) (cIf_pos (row_in hj) (cIf_pos (decide_eq_true (by rw [encB_len, brow_len])) (cIf_pos (encB_dlen (by rw [brow_len]; exact hj)) (cIf_pos (encB_dl (by rw [brow_len]; exact hj)) ?_)))))))))
    refine cIf_intro (fun h1 => cIf_pos (row_nn _) (cIf_pos (row_in hj) (cIf_pos (decide_eq_true (by rw [h.len]; exact hj)) (cIf_pos b4 (cIf_pos (row_nn _) (cIf_pos (row_in hlt) (cIf_pos (decide_eq_true (by rw [encB_len, brow_len])) (cIf_pos (encB_dlen (by rw [brow_len]; exact hlt)) (cIf_pos (encB_dl (by rw [brow_len]; exact hlt)) ?_))))))))) (fun h1 => ?_)
    · refine cIf_intro (fun h2 => cIf_pos (row_nn _) (cIf_pos (row_in hlt) (cIf_pos (decide_eq_true (by rw [h.len]; exact hlt)) (cIf_pos c4 (cIf_pos (row_nn _) (cIf_pos (row_in hi) (cIf_pos (decide_eq_true (by rw [encB_len, brow_len])) (cIf_pos (encB_dlen (by rw [brow_len]; exact hi)) (cIf_pos (encB_dl (by rw [brow_len]; exact hi)) ?_))))))))) (fun h2 => ?_)
      · refine cIf_intro (fun h3 => ?_) (fun h3 => ?_)
        · rw [if_pos (by rw [h1, h2, h3]; rfl)] at hw
          have hq := hf _ hw
          rw [fnd_at hp1 hq1 hr1] at hq
          exact cIf_pos (row_nn _) (cIf_pos (row_in hi) (cIf_pos (decide_eq_true prof_len) (cIf_pos (decide_eq_true (prof_dl hi)) (cIf_pos (encP_like p) (cIf_pos (row_nn _) (cIf_pos (row_in hj) (cIf_pos (decide_eq_true prof_len) (cIf_pos (decide_eq_true (prof_dl hj)) (cIf_pos (encP_like q) (cIf_pos (row_nn _) (cIf_pos (row_in hlt) (cIf_pos (decide_eq_true prof_len) (cIf_pos (decide_eq_true (prof_dl hlt)) (cIf_pos (encP_like r) hq))))))))))))))
        · rw [if_neg (by rw [h3]; simp)] at hw
          exact ih (k + 1) (by omega) (by omega) hw next
      · rw [if_neg (by rw [h2]; simp)] at hw
        exact ih (k + 1) (by omega) (by omega) hw next
    · rw [if_neg (by rw [h1]; simp)] at hw
      exact ih (k + 1) (by omega) (by omega) hw next
omit hrs hsh in
theorem l35d {rw : List AV} {T : List (Nat × (Nat × Nat))} (h : RowsI rs rw 120) {i : Nat} (hi : i < 120)
    (hf : ∀ x, pJ (befB rs) 120 i (List.range 120) = some x → Q (fnd x)) :
    ∀ (d j : Nat), 120 - j = d → j ≤ 120 → pJ (befB rs) 120 i (List.range 120) = pJ (befB rs) 120 i ((List.range 120).drop j) →
    (pJ (befB rs) 120 i (List.range 120) = none → WLoop Xp (cd PP 35 [1, 1, 1, 1, 1, 1, 0, 1, 0, 0]) ([X, X, X, X, X, X, X, .vs (encPs profL) 120 .none, .row 1 0 120 120, X, X, X, X, X, X, X, X, X, X, X, X, X, X, X, X, X, X, X, X, X, X, X, X, X, X, X, X, X, X, X, X, X, X, X, X, X, X, X, X, X, X, X, X, X, X, X, X, X, X, I 120, I (i + 1 : Nat)] ++ List.replicate 53 X) ⟨[some (.cells [.vs (encRs rs) rs.length .none] 25), some (.cells rw 118)], T, []⟩ (kBlock 4 (kSeq Xp (cd PP 35 [1, 1, 1, 1, 1, 1, 1]) (kRet Xp 35 Q)))) →
    WLoop Xp (cd PP 35 [1, 1, 1, 1, 1, 1, 0, 1, 0, 0, 1, 1, 0, 0, 1, 1, 0, 0]) ([X, X, X, X, X, X, X, .vs (encPs profL) 120 .none, .row 1 0 120 120, X, X, X, X, I i, X, X, X, X, X, X, X, X, X, X, X, X, X, X, X, X, X, X, X, X, X, X, X, X, X, X, X, X, X, X, X, X, X, X, X, X, X, X, X, X, X, X, X, X, X, I 120, I i, X, X, X, I 120, I j] ++ List.replicate 48 X) ⟨[some (.cells [.vs (encRs rs) rs.length .none] 25), some (.cells rw 118)], T, []⟩ (kBlock 6 (kBlock 5 (kSeq Xp (cd PP 35 [1, 1, 1, 1, 1, 1, 0, 1, 0, 0, 1, 1, 1]) (kLoop Xp (cd PP 35 [1, 1, 1, 1, 1, 1, 0, 1, 0, 0]) (kBlock 4 (kSeq Xp (cd PP 35 [1, 1, 1, 1, 1, 1, 1]) (kRet Xp 35 Q))))))) := by
  intro d
  induction d with
  | zero =>
    intro j hd hj hw next
    have hj' : j = 120 := by omega
    subst hj'
    rw [List.drop_of_length_le (by simp)] at hw
    refine WLoop_unroll (C := Xp) (wcx_ones Tryz.bok (c35 hp)) (wcx_ok Tryz.bok (c35 hp)) ?_
    rw [v35d, wA1 (a := i) (by omega)]
    exact cIf_neg (ge120 (by omega)) (next hw)
  | succ d ih =>
    intro j hd hj hw next
    have hlt : j < 120 := by omega
    rw [range_drop hlt, pJ] at hw
    refine WLoop_unroll (C := Xp) (wcx_ones Tryz.bok (c35 hp)) (wcx_ok Tryz.bok (c35 hp)) ?_
    rw [v35d]
    refine cIf_pos (lt120 hlt) (l35e hp h hi hlt (fun x hx => ?_) 120 0 (by omega) (by omega) rfl (fun hx => ?_))
    · rw [hx] at hw
      exact hf x hw
    · rw [hx] at hw
      exact ih (j + 1) (by omega) (by omega) hw next
omit hrs hsh in
theorem l35c {rw : List AV} {T : List (Nat × (Nat × Nat))} (h : RowsI rs rw 120)
    (hf : ∀ x, pI (befB rs) 120 (List.range 120) = some x → Q (fnd x)) (hn : pI (befB rs) 120 (List.range 120) = none → Q (.ret (.tup [.vs [] 0 .zero, Bo false, I 0]))) :
    ∀ (d i : Nat), 120 - i = d → i ≤ 120 → pI (befB rs) 120 (List.range 120) = pI (befB rs) 120 ((List.range 120).drop i) →
    WLoop Xp (cd PP 35 [1, 1, 1, 1, 1, 1, 0, 1, 0, 0]) ([X, X, X, X, X, X, X, .vs (encPs profL) 120 .none, .row 1 0 120 120, X, X, X, X, X, X, X, X, X, X, X, X, X, X, X, X, X, X, X, X, X, X, X, X, X, X, X, X, X, X, X, X, X, X, X, X, X, X, X, X, X, X, X, X, X, X, X, X, X, X, I 120, I i] ++ List.replicate 53 X) ⟨[some (.cells [.vs (encRs rs) rs.length .none] 25), some (.cells rw 118)], T, []⟩ (kBlock 4 (kSeq Xp (cd PP 35 [1, 1, 1, 1, 1, 1, 1]) (kRet Xp 35 Q))) := by
  intro d
  induction d with
  | zero =>
    intro i hd hi hw
    have hi' : i = 120 := by omega
    subst hi'
    rw [List.drop_of_length_le (by simp)] at hw
    refine WLoop_unroll (C := Xp) (wcx_ones Tryz.bok (c35 hp)) (wcx_ok Tryz.bok (c35 hp)) ?_
    rw [v35c]
    exact cIf_neg (ge120 (by omega)) (hn hw)
  | succ d ih =>
    intro i hd hi hw
    have hlt : i < 120 := by omega
    rw [range_drop hlt, pI] at hw
    refine WLoop_unroll (C := Xp) (wcx_ones Tryz.bok (c35 hp)) (wcx_ok Tryz.bok (c35 hp)) ?_
    rw [v35c]
    refine cIf_pos (lt120 hlt) (l35d hp h hlt (fun x hx => ?_) 120 0 (by omega) (by omega) rfl (fun hx => ?_))
    · rw [hx] at hw
      exact hf x hw
    · rw [hx] at hw
      exact ih (i + 1) (by omega) (by omega) hw
theorem l35a (hf : ∀ x, pI (befB rs) 120 (List.range 120) = some x → Q (fnd x)) (hn : pI (befB rs) 120 (List.range 120) = none → Q (.ret (.tup [.vs [] 0 .zero, Bo false, I 0]))) :
    ∀ (d i : Nat) (rw : List AV) (T : List (Nat × (Nat × Nat))), 120 - i = d → i ≤ 120 → RowsI rs rw i →
    WLoop Xp (cd PP 35 [1, 1, 1, 1, 1, 0, 1, 0, 0]) ([X, .ptr 0 0, X, X, X, X, .vs (encD (rankL rs)) (rankL rs).length .none, .vs (encPs profL) 120 .none, .row 1 0 120 120, X, X, X, X, X, X, X, X, X, X, X, X, X, X, X, X, X, X, .vs (encPs profL) 120 .none, I 120, I i] ++ List.replicate 84 X) ⟨[some (.cells [.vs (encRs rs) rs.length .none] 25), some (.cells rw 118)], T, []⟩ (kBlock 0 (kSeq Xp (cd PP 35 [1, 1, 1, 1, 1, 1]) (kRet Xp 35 Q))) := by
  intro d
  induction d with
  | zero =>
    intro i rw T hd hi h
    have hi' : i = 120 := by omega
    subst hi'
    refine WLoop_unroll (C := Xp) (wcx_ones Tryz.bok (c35 hp)) (wcx_ok Tryz.bok (c35 hp)) ?_
    rw [v35a]
    exact cIf_neg (ge120 (by omega)) (l35c hp h hf hn 120 0 (by omega) (by omega) rfl)
  | succ d ih =>
    intro i rw T hd hi h
    have hlt : i < 120 := by omega
    obtain ⟨p, hp1⟩ := prof_at hlt
    refine WLoop_unroll (C := Xp) (wcx_ones Tryz.bok (c35 hp)) (wcx_ok Tryz.bok (c35 hp)) ?_
    rw [v35a, prof_el hp1, encP_w]
    refine cIf_pos (lt120 hlt) (cIf_pos (row_nn _) (cIf_pos (row_in hlt) (cIf_pos (decide_eq_true prof_len) (cIf_pos (decide_eq_true (prof_dl hlt)) (cIf_pos (encP_like p) (cIf_pos (env35b _ _ _ _) (cIf_pos (blk3 _ _ _ _ _ h.nh (noH_encRs 3 rs)) ?_)))))))
    exact l35b hp hrs hsh hlt hp1 (fun rw' T' h' => ih (i + 1) rw' T' (by omega) (by omega) h') 120 0 rw T (by omega) (by omega) (h.toJ hlt)
end
end Go.Proofs
/-! C25 -/
set_option maxRecDepth 100000
set_option linter.unusedVariables false
namespace Go.Proofs
open Go Go.Ev
theorem zeros_one (x : AV) (n : Nat) : zerosA [x] n = List.replicate n x := by
  simp [zerosA, Nat.mod_one, List.map_const']
theorem rows0 (rs : List Rul) : RowsI rs (zerosA [.vs [] 0 .zero] 120) 0 where
  len := zeros_rows_len 120
  nh := fun n => by
    rw [noHL_mem, zeros_one]
    intro v hv
    rw [List.eq_of_mem_replicate hv]; rfl
  done := fun x hx => by omega
  rest := fun x h1 h2 => zeros_rows 120 x h2
theorem pK_mem {B : Nat → Nat → Bool} {i j : Nat} {x : Nat × Nat × Nat} : ∀ {l : List Nat}, pK B i j l = some x → x.1 = i ∧ x.2.1 = j ∧ x.2.2 ∈ l
  | [], h => by simp [pK] at h
  | k :: l, h => by
    rw [pK] at h
    split at h
    · cases h; exact ⟨rfl, rfl, List.mem_cons_self⟩
    · obtain ⟨h1, h2, h3⟩ := pK_mem h; exact ⟨h1, h2, List.mem_cons_of_mem _ h3⟩
theorem pJ_mem {B : Nat → Nat → Bool} {n i : Nat} {x : Nat × Nat × Nat} : ∀ {l : List Nat}, pJ B n i l = some x → x.1 = i ∧ x.2.1 ∈ l ∧ x.2.2 < n
  | [], h => by simp [pJ] at h
  | j :: l, h => by
    rw [pJ] at h
    split at h
    · rename_i y hy
      cases h
      obtain ⟨h1, h2, h3⟩ := pK_mem hy
      exact ⟨h1, by rw [h2]; exact List.mem_cons_self, List.mem_range.1 h3⟩
    · obtain ⟨h1, h2, h3⟩ := pJ_mem h; exact ⟨h1, List.mem_cons_of_mem _ h2, h3⟩
theorem pI_mem {B : Nat → Nat → Bool} {n : Nat} {x : Nat × Nat × Nat} : ∀ {l : List Nat}, pI B n l = some x → x.1 ∈ l ∧ x.2.1 < n ∧ x.2.2 < n
  | [], h => by simp [pI] at h
  | i :: l, h => by
    rw [pI] at h
    split at h
    · rename_i y hy
      cases h
      obtain ⟨h1, h2, h3⟩ := pJ_mem hy
      exact ⟨by rw [h1]; exact List.mem_cons_self, List.mem_range.1 h2, h3⟩
    · obtain ⟨h1, h2, h3⟩ := pI_mem h; exact ⟨List.mem_cons_of_mem _ h1, h2, h3⟩
theorem circV_len {rs : List Rul} {x : Nat × Nat × Nat} (h : pI (befB rs) 120 (List.range 120) = some x) : (circV (some x)).length = 3 := by
  obtain ⟨i, j, k⟩ := x
  obtain ⟨h1, h2, h3⟩ := pI_mem h
  obtain ⟨p, hp⟩ := prof_at (List.mem_range.1 h1)
  obtain ⟨q, hq⟩ := prof_at h2
  obtain ⟨r, hr⟩ := prof_at h3
  show ((profL[i]?).toList ++ (profL[j]?).toList ++ (profL[k]?).toList).length = 3
  rw [hp, hq, hr]
  rfl
theorem circE_eq (rs : List Rul) : circE (encRs rs) = circR rs := by unfold circE; rw [onEnc_eq encRs_inj]
/-- What a search gives, as the functions hand it back. -/
theorem circ_res (rs : List Rul) (h : chk rs = 0) {Q : CR → Prop} (hQ : Q (.ret (.tup [.vs (encPs (circR rs).1) (circR rs).1.length (tkP (circR rs).1), Bo (circR rs).2.1, I (circR rs).2.2]))) :
    (∀ x, pI (befB rs) 120 (List.range 120) = some x → Q (fnd x)) ∧ (pI (befB rs) 120 (List.range 120) = none → Q (.ret (.tup [.vs [] 0 .zero, Bo false, I 0]))) := by
  unfold circR at hQ
  rw [if_pos h] at hQ
  dsimp only at hQ
  refine ⟨fun x hx => ?_, fun hx => ?_⟩
  · have hl := circV_len hx
    rw [hx, hl] at hQ
    have ht : tkP (circV (some x)) = .none := by unfold tkP; rw [hl]; rfl
    rw [ht] at hQ
    exact hQ
  · rw [hx] at hQ
    exact hQ
theorem circ_err (rs : List Rul) (h : ¬ chk rs = 0) {Q : CR → Prop} (hQ : Q (.ret (.tup [.vs (encPs (circR rs).1) (circR rs).1.length (tkP (circR rs).1), Bo (circR rs).2.1, I (circR rs).2.2]))) : Q (.ret (.tup [.vs [] 0 .zero, Bo false, I (chk rs)])) := by
  unfold circR at hQ
  rw [if_neg h] at hQ
  exact hQ
theorem w35 (hp : Ct Tryz.B.c0 38 (RPl (encPs profL))) {rs : List Rul} (hw : wfRs rs) {Q : CR → Prop} (hQ : Q (.ret (.tup [.vs (encPs (circR rs).1) (circR rs).1.length (tkP (circR rs).1), Bo (circR rs).2.1, I (circR rs).2.2]))) : wpF Xp 35 [.agg [.vs (encRs rs) rs.length .none]] Q := by
  rw [v35, onEnc_eq encRs_inj, onEnc_eq encRs_inj]
  refine ⟨⟨rs, rfl, rfl, hw⟩, cIf_intro (fun h => ?_) (fun h => ?_)⟩
  · exact circ_err rs (by simpa using h) hQ
  · have h : chk rs = 0 := by simpa using h
    obtain ⟨h1, h2, _⟩ := chk_ok hw h
    obtain ⟨q1, q2⟩ := circ_res rs h hQ
    refine ⟨⟨rs, rfl, rfl, h1⟩, trivial, cIf_pos (env35a _ _ _) (cIf_pos (blk2 _ _ _ _ (rows0 rs).nh (noH_encRs 2 rs)) ?_)⟩
    have := l35a hp h1 h2 q1 q2 120 0 (zerosA [.vs [] 0 .zero] 120) [] (by omega) (by omega) (rows0 rs)
    rw [rankL_len] at this
    exact this
theorem ct35 (hp : Ct Tryz.B.c0 38 (RPl (encPs profL))) : Ct Tryz.B.c0 35 R35 := Ct.of_wp (l := [(27, R27), (38, RPl (encPs profL)), (78, R78), (79, R79)]) (lm := lm35) (tp := [1]) (ct := []) (sm := [(8, 2), (11, 3)]) Tryz.bok (c35 hp) ⟨_, _, Tryz.func35, rfl⟩ fun args D r hR hD => by
  unfold R35 at hR
  split at hR <;> cases hR
  obtain ⟨rs, rfl, rfl, hw⟩ := hD
  refine ⟨by simp [noHL, noH, noH_encRs], ?_⟩
  rw [show scrubL 0 [AV.agg [.vs (encRs rs) rs.length .none]] = [AV.agg [.vs (encRs rs) rs.length .none]] by simp [scrubL, scrub, sc_encRs, Tok.scrub], circE_eq]
  exact w35 hp hw rfl
/-! The reference. -/
noncomputable abbrev Xr : WCx := Tryz.X36 (encPs profL)
theorem c36 (hp : Ct Tryz.B.c0 54 (RPl (encPs profL))) : Cts Tryz.B [(54, RPl (encPs profL)), (70, R70), (83, R83)] := (((Cts.nil _).cons ct83).cons ct70).cons hp
theorem wM {a b : Nat} (ha : a < 120) (hb : b < 120) : IntKind.i64.wrap (IntKind.i64.wrap ((a : Int) * (120 : Int)) + (b : Int)) = ((a * 120 + b : Nat) : Int) := by
  rw [wrap_id (x := (a : Int) * 120) (by omega) (by omega), wrap_id (by omega) (by omega)]; omega
structure BitsI (rs : List Rul) (b : List Bool) (i j : Nat) : Prop where
  len : b.length = 14400
  done : ∀ x y, (x < i ∨ x = i ∧ y < j) → x < 120 → y < 120 → b.getD (x * 120 + y) false = befB rs x y
theorem BitsI.put {rs : List Rul} {b : List Bool} {i j : Nat} (h : BitsI rs b i j) (hi : i < 120) (hj : j < 120) : BitsI rs (b.set (i * 120 + j) (befB rs i j)) i (j + 1) := by
  have hl := h.len
  refine ⟨by simp [hl], fun x y hxy hx hy => ?_⟩
  by_cases he : x * 120 + y = i * 120 + j
  · have h1 : x = i := by omega
    have h2 : y = j := by omega
    subst h1; subst h2
    rw [List.getD_eq_getElem?_getD, List.getElem?_set_self (by omega)]; rfl
  · rw [List.getD_eq_getElem?_getD, List.getElem?_set_ne (by omega), ← List.getD_eq_getElem?_getD]
    exact h.done x y (by omega) hx hy
theorem BitsI.next {rs : List Rul} {b : List Bool} {i : Nat} (h : BitsI rs b i 120) : BitsI rs b (i + 1) 0 :=
  ⟨h.len, fun x y hxy hx hy => h.done x y (by omega) hx hy⟩
theorem befR (rs : List Rul) (hrs : okRs rs) (p q : Prf) : (kindV (decR (rkR rs) (thR rs p q) (thR rs q p) (List.range rs.length) (-1) (-1) 0).1 (decR (rkR rs) (thR rs p q) (thR rs q p) (List.range rs.length) (-1) (-1) 0).2.1 == 1) = befP rs p q := by
  unfold befP
  rw [dec_same hrs p q]
theorem blkb (l : List AV) (b : List Bool) (len n : Nat) (hl : noHL n l = true) : [some (HB.cells [AV.vs l len Tok.none] 25), some (HB.cells (encB b) 4)].all (okBlk n) = true := by
  simp [okBlk, noHB, noHL, noH, encB_noH, hl]
theorem env36a (i : Int) : noHL 2 ([X, .ptr 0 0, X, X, X, X, .vs (encPs profL) 120 .none, I 120, .row 1 0 14400 14400, I i] ++ List.replicate 103 X) = true := by
  refine noHL_app ?_ (noHL_rep 2 103)
  simp [noHL, noH, noH_encPs]
theorem env36b (i j : Int) : noHL 2 ([X, .ptr 0 0, X, X, X, X, .vs (encPs profL) 120 .none, I 120, .row 1 0 14400 14400, I i, I j] ++ List.replicate 102 X) = true := by
  refine noHL_app ?_ (noHL_rep 2 102)
  simp [noHL, noH, noH_encPs]
theorem bit_in {a b : Nat} (ha : a < 120) (hb : b < 120) : a * 120 + b < 14400 := by omega
section
variable (hp : Ct Tryz.B.c0 54 (RPl (encPs profL))) {rs : List Rul} {Q : CR → Prop}
include hp
theorem l36e {b : List Bool} {T : List (Nat × (Nat × Nat))} (h : BitsI rs b 120 0) {i j : Nat} (hi : i < 120) (hj : j < 120) (hB : befB rs i j = true)
    (hf : ∀ x, pK (befB rs) i j (List.range 120) = some x → Q (fnd x)) :
    ∀ (d k : Nat), 120 - k = d → k ≤ 120 → pK (befB rs) i j (List.range 120) = pK (befB rs) i j ((List.range 120).drop k) →
    (pK (befB rs) i j (List.range 120) = none → WLoop Xr (cd PP 36 [1, 1, 1, 1, 1, 1, 1, 0, 1, 0, 0, 1, 0, 0, 1, 0, 0]) ([X, X, X, X, X, X, .vs (encPs profL) 120 .none, I 120, .row 1 0 14400 14400, X, X, X, I i, I (j + 1 : Nat)] ++ List.replicate 99 X) ⟨[some (.cells [.vs (encRs rs) rs.length .none] 25), some (.cells (encB b) 4)], T, []⟩ (kBlock 6 (kBlock 5 (kSeq Xr (cd PP 36 [1, 1, 1, 1, 1, 1, 1, 0, 1, 0, 0, 1, 1]) (kLoop Xr (cd PP 36 [1, 1, 1, 1, 1, 1, 1, 0, 1, 0, 0]) (kBlock 4 (kSeq Xr (cd PP 36 [1, 1, 1, 1, 1, 1, 1, 1]) (kRet Xr 36 Q)))))))) →
    WLoop Xr (cd PP 36 [1, 1, 1, 1, 1, 1, 1, 0, 1, 0, 0, 1, 0, 0, 1, 0, 0, 1, 0, 0, 1, 1, 0, 0]) ([X, X, X, X, X, X, .vs (encPs profL) 120 .none, I 120, .row 1 0 14400 14400, X, X, X, I i, I j, I k] ++ List.replicate 98 X) ⟨[some (.cells [.vs (encRs rs) rs.length .none] 25), some (.cells (encB b) 4)], T, []⟩ (kBlock 8 (kBlock 7 (kSeq Xr (cd PP 36 [1, 1, 1, 1, 1, 1, 1, 0, 1, 0, 0, 1, 0, 0, 1, 0, 0, 1, 1]) (kLoop Xr (cd PP 36 [1, 1, 1, 1, 1, 1, 1, 0, 1, 0, 0, 1, 0, 0, 1, 0, 0]) (kBlock 6 (kBlock 5 (kSeq Xr (cd PP 36 [1, 1, 1, 1, 1, 1, 1, 0, 1, 0, 0, 1, 1]) (kLoop Xr (cd PP 36 [1, 1, 1, 1, 1, 1, 1, 0, 1, 0, 0]) (kBlock 4 (kSeq Xr (cd PP 36 [1, 1, 1, 1, 1, 1, 1, 1]) (kRet Xr 36 Q))))))))))) := by
  intro d
  induction d with
  | zero =>
    intro k hd hk hw next
    have hk' : k = 120 := by omega
    subst hk'
    rw [List.drop_of_length_le (by simp)] at hw
    refine WLoop_unroll (C := Xr) (wcx_ones Tryz.bok (c36 hp)) (wcx_ok Tryz.bok (c36 hp)) ?_
    rw [v36e, wA1 (a := j) (by omega)]
    exact cIf_neg (ge120 (by omega)) (next hw)
  | succ d ih =>
    intro k hd hk hw next
    have hlt : k < 120 := by omega
    obtain ⟨p, hp1⟩ := prof_at hi
    obtain ⟨q, hq1⟩ := prof_at hj
    obtain ⟨r, hr1⟩ := prof_at hlt
    have m1 := bit_in hj hlt
    have m2 := bit_in hlt hi
    have l1 : j * 120 + k < b.length := by rw [h.len]; exact m1
    have l2 : k * 120 + i < b.length := by rw [h.len]; exact m2
    rw [range_drop hlt, pK, hB] at hw
    refine WLoop_unroll (C := Xr) (wcx_ones Tryz.bok (c36 hp)) (wcx_ok Tryz.bok (c36 hp)) ?_
    rw [v36e, wM hj hlt, wM hlt hi, wA1 (a := k) (by omega), row_at, row_at, encB_cB _ _ l1, encB_cB _ _ l2, h.done j k (.inl hj) hj hlt, h.done k i (.inl hlt) hlt hi, prof_el hp1, prof_el hq1, prof_el hr1]
    refine cIf_pos (lt120 hlt) (cIf_pos (row_nn _) (cIf_pos (row_in m1) (cIf_pos (decide_eq_true (by rw [encB_len]; exact l1)) (cIf_pos (encB_like _ _ l1) ?_))))
    refine cIf_intro (fun h2 => cIf_pos (row_nn _) (cIf_pos (row_in m2) (cIf_pos (decide_eq_true (by rw [encB_len]; exact l2)) (cIf_pos (encB_like _ _ l2) ?_)))) (fun h2 => ?_)
    · refine cIf_intro (fun h3 => ?_) (fun h3 => ?_)
      · rw [if_pos (by rw [h2, h3]; rfl)] at hw
        have hq := hf _ hw
        rw [fnd_at hp1 hq1 hr1] at hq
        exact cIf_pos (row_nn _) (cIf_pos (row_in hi) (cIf_pos (decide_eq_true prof_len) (cIf_pos (decide_eq_true (prof_dl hi)) (cIf_pos (encP_like p) (cIf_pos (row_nn _) (cIf_pos (row_in hj) (cIf_pos (decide_eq_true prof_len) (cIf_pos (decide_eq_true (prof_dl hj)) (cIf_pos (encP_like q) (cIf_pos (row_nn _) (cIf_pos (row_in hlt) (cIf_pos (decide_eq_true prof_len) (cIf_pos (decide_eq_true (prof_dl hlt)) (cIf_pos (encP_like r) hq))))))))))))))
      · rw [if_neg (by rw [h3]; simp)] at hw
        exact ih (k + 1) (by omega) (by omega) hw next
    · rw [if_neg (by rw [h2]; simp)] at hw
      exact ih (k + 1) (by omega) (by omega) hw next
theorem l36d {b : List Bool} {T : List (Nat × (Nat × Nat))} (h : BitsI rs b 120 0) {i : Nat} (hi : i < 120)
    (hf : ∀ x, pJ (befB rs) 120 i (List.range 120) = some x → Q (fnd x)) :
    ∀ (d j : Nat), 120 - j = d → j ≤ 120 → pJ (befB rs) 120 i (List.range 120) = pJ (befB rs) 120 i ((List.range 120).drop j) →
    (pJ (befB rs) 120 i (List.range 120) = none → WLoop Xr (cd PP 36 [1, 1, 1, 1, 1, 1, 1, 0, 1, 0, 0]) ([X, X, X, X, X, X, .vs (encPs profL) 120 .none, I 120, .row 1 0 14400 14400, X, X, X, I (i + 1 : Nat)] ++ List.replicate 100 X) ⟨[some (.cells [.vs (encRs rs) rs.length .none] 25), some (.cells (encB b) 4)], T, []⟩ (kBlock 4 (kSeq Xr (cd PP 36 [1, 1, 1, 1, 1, 1, 1, 1]) (kRet Xr 36 Q)))) →
    WLoop Xr (cd PP 36 [1, 1, 1, 1, 1, 1, 1, 0, 1, 0, 0, 1, 0, 0, 1, 0, 0]) ([X, X, X, X, X, X, .vs (encPs profL) 120 .none, I 120, .row 1 0 14400 14400, X, X, X, I i, I j] ++ List.replicate 99 X) ⟨[some (.cells [.vs (encRs rs) rs.length .none] 25), some (.cells (encB b) 4)], T, []⟩ (kBlock 6 (kBlock 5 (kSeq Xr (cd PP 36 [1, 1, 1, 1, 1, 1, 1, 0, 1, 0, 0, 1, 1]) (kLoop Xr (cd PP 36 [1, 1, 1, 1, 1, 1, 1, 0, 1, 0, 0]) (kBlock 4 (kSeq Xr (cd PP 36 [1, 1, 1, 1, 1, 1, 1, 1]) (kRet Xr 36 Q))))))) := by
  intro d
  induction d with
  | zero =>
    intro j hd hj hw next
    have hj' : j = 120 := by omega
    subst hj'
    rw [List.drop_of_length_le (by simp)] at hw
    refine WLoop_unroll (C := Xr) (wcx_ones Tryz.bok (c36 hp)) (wcx_ok Tryz.bok (c36 hp)) ?_
    rw [v36d, wA1 (a := i) (by omega)]
    exact cIf_neg (ge120 (by omega)) (next hw)
  | succ d ih =>
    intro j hd hj hw next
    have hlt : j < 120 := by omega
    have m1 := bit_in hi hlt
    have l1 : i * 120 + j < b.length := by rw [h.len]; exact m1
    rw [range_drop hlt, pJ] at hw
    refine WLoop_unroll (C := Xr) (wcx_ones Tryz.bok (c36 hp)) (wcx_ok Tryz.bok (c36 hp)) ?_
    rw [v36d, wM hi hlt, wA1 (a := j) (by omega), row_at, encB_cB _ _ l1, h.done i j (.inl hi) hi hlt]
    refine cIf_pos (lt120 hlt) (cIf_pos (row_nn _) (cIf_pos (row_in m1) (cIf_pos (decide_eq_true (by rw [encB_len]; exact l1)) (cIf_pos (encB_like _ _ l1) ?_))))
    refine cIf_intro (fun h1 => ?_) (fun h1 => ?_)
    · rw [pK_false (by simpa using h1)] at hw
      exact ih (j + 1) (by omega) (by omega) hw next
    · refine l36e hp h hi hlt (by simpa using h1) (fun x hx => ?_) 120 0 (by omega) (by omega) rfl (fun hx => ?_)
      · rw [hx] at hw
        exact hf x hw
      · rw [hx] at hw
        exact ih (j + 1) (by omega) (by omega) hw next
theorem l36c {b : List Bool} {T : List (Nat × (Nat × Nat))} (h : BitsI rs b 120 0)
    (hf : ∀ x, pI (befB rs) 120 (List.range 120) = some x → Q (fnd x)) (hn : pI (befB rs) 120 (List.range 120) = none → Q (.ret (.tup [.vs [] 0 .zero, Bo false, I 0]))) :
    ∀ (d i : Nat), 120 - i = d → i ≤ 120 → pI (befB rs) 120 (List.range 120) = pI (befB rs) 120 ((List.range 120).drop i) →
    WLoop Xr (cd PP 36 [1, 1, 1, 1, 1, 1, 1, 0, 1, 0, 0]) ([X, X, X, X, X, X, .vs (encPs profL) 120 .none, I 120, .row 1 0 14400 14400, X, X, X, I i] ++ List.replicate 100 X) ⟨[some (.cells [.vs (encRs rs) rs.length .none] 25), some (.cells (encB b) 4)], T, []⟩ (kBlock 4 (kSeq Xr (cd PP 36 [1, 1, 1, 1, 1, 1, 1, 1]) (kRet Xr 36 Q))) := by
  intro d
  induction d with
  | zero =>
    intro i hd hi hw
    have hi' : i = 120 := by omega
    subst hi'
    rw [List.drop_of_length_le (by simp)] at hw
    refine WLoop_unroll (C := Xr) (wcx_ones Tryz.bok (c36 hp)) (wcx_ok Tryz.bok (c36 hp)) ?_
    rw [v36c]
    exact cIf_neg (ge120 (by omega)) (hn hw)
  | succ d ih =>
    intro i hd hi hw
    have hlt : i < 120 := by omega
    rw [range_drop hlt, pI] at hw
    refine WLoop_unroll (C := Xr) (wcx_ones Tryz.bok (c36 hp)) (wcx_ok Tryz.bok (c36 hp)) ?_
    rw [v36c]
    refine cIf_pos (lt120 hlt) (l36d hp h hlt (fun x hx => ?_) 120 0 (by omega) (by omega) rfl (fun hx => ?_))
    · rw [hx] at hw
      exact hf x hw
    · rw [hx] at hw
      exact ih (i + 1) (by omega) (by omega) hw
variable (hrs : okRs rs)
include hrs
theorem l36b {T : List (Nat × (Nat × Nat))} {i : Nat} (hi : i < 120)
    (next : ∀ b, BitsI rs b (i + 1) 0 → WLoop Xr (cd PP 36 [1, 1, 1, 1, 1, 1, 0, 1, 0, 0]) ([X, .ptr 0 0, X, X, X, X, .vs (encPs profL) 120 .none, I 120, .row 1 0 14400 14400, I (i + 1 : Nat)] ++ List.replicate 103 X) ⟨[some (.cells [.vs (encRs rs) rs.length .none] 25), some (.cells (encB b) 4)], T, []⟩ (kBlock 0 (kSeq Xr (cd PP 36 [1, 1, 1, 1, 1, 1, 1]) (kRet Xr 36 Q)))) :
    ∀ (d j : Nat) (b : List Bool), 120 - j = d → j ≤ 120 → BitsI rs b i j →
    WLoop Xr (cd PP 36 [1, 1, 1, 1, 1, 1, 0, 1, 0, 0, 1, 0, 0, 1, 0, 0]) ([X, .ptr 0 0, X, X, X, X, .vs (encPs profL) 120 .none, I 120, .row 1 0 14400 14400, I i, I j] ++ List.replicate 102 X) ⟨[some (.cells [.vs (encRs rs) rs.length .none] 25), some (.cells (encB b) 4)], T, []⟩ (kBlock 2 (kBlock 1 (kSeq Xr (cd PP 36 [1, 1, 1, 1, 1, 1, 0, 1, 0, 0, 1, 1]) (kLoop Xr (cd PP 36 [1, 1, 1, 1, 1, 1, 0, 1, 0, 0]) (kBlock 0 (kSeq Xr (cd PP 36 [1, 1, 1, 1, 1, 1, 1]) (kRet Xr 36 Q))))))) := by
  intro d
  induction d with
  | zero =>
    intro j b hd hj h
    have hj' : j = 120 := by omega
    subst hj'
    refine WLoop_unroll (C := Xr) (wcx_ones Tryz.bok (c36 hp)) (wcx_ok Tryz.bok (c36 hp)) ?_
    rw [v36b, wA1 (a := i) (by omega)]
    exact cIf_neg (ge120 (by omega)) (cIf_pos (env36a _) (cIf_pos (blkb _ _ _ _ (noH_encRs 2 rs)) (next b h.next)))
  | succ d ih =>
    intro j b hd hj h
    have hlt : j < 120 := by omega
    obtain ⟨p, hp1⟩ := prof_at hi
    obtain ⟨q, hq1⟩ := prof_at hlt
    have m1 := bit_in hi hlt
    have l1 : i * 120 + j < b.length := by rw [h.len]; exact m1
    have hn := h.put hi hlt
    refine WLoop_unroll (C := Xr) (wcx_ones Tryz.bok (c36 hp)) (wcx_ok Tryz.bok (c36 hp)) ?_
    rw [v36b, wM hi hlt, wA1 (a := j) (by omega), prof_el hp1, prof_el hq1, encP_w, encP_w, dvR_eq, befR rs hrs, ← befB_at hp1 hq1, row_at, encB_put _ _ _ l1]
    refine cIf_pos (lt120 hlt) (cIf_pos (row_nn _) (cIf_pos (row_in hi) (cIf_pos (decide_eq_true prof_len) (cIf_pos (decide_eq_true (prof_dl hi)) (cIf_pos (encP_like p) (cIf_pos (row_nn _) (cIf_pos (row_in hlt) (cIf_pos (decide_eq_true prof_len) (cIf_pos (decide_eq_true (prof_dl hlt)) (cIf_pos (encP_like q) (cIf_pos ?_ ⟨⟨⟨rs, rfl, rfl, hrs⟩, ⟨p, rfl⟩, q, rfl⟩, rfl, cIf_pos (row_nn _) (cIf_pos (row_in m1) (cIf_pos (decide_eq_true (by rw [encB_len]; omega)) (cIf_pos (env36b _ _) (cIf_pos (blkb _ _ _ _ (noH_encRs 2 rs)) (ih (j + 1) _ (by omega) (by omega) hn)))))⟩)))))))))))
    simp [noHL, noH, noH_encRs, noH_encP]
theorem l36a {T : List (Nat × (Nat × Nat))} (hf : ∀ x, pI (befB rs) 120 (List.range 120) = some x → Q (fnd x)) (hn : pI (befB rs) 120 (List.range 120) = none → Q (.ret (.tup [.vs [] 0 .zero, Bo false, I 0]))) :
    ∀ (d i : Nat) (b : List Bool), 120 - i = d → i ≤ 120 → BitsI rs b i 0 →
    WLoop Xr (cd PP 36 [1, 1, 1, 1, 1, 1, 0, 1, 0, 0]) ([X, .ptr 0 0, X, X, X, X, .vs (encPs profL) 120 .none, I 120, .row 1 0 14400 14400, I i] ++ List.replicate 103 X) ⟨[some (.cells [.vs (encRs rs) rs.length .none] 25), some (.cells (encB b) 4)], T, []⟩ (kBlock 0 (kSeq Xr (cd PP 36 [1, 1, 1, 1, 1, 1, 1]) (kRet Xr 36 Q))) := by
  intro d
  induction d with
  | zero =>
    intro i b hd hi h
    have hi' : i = 120 := by omega
    subst hi'
    refine WLoop_unroll (C := Xr) (wcx_ones Tryz.bok (c36 hp)) (wcx_ok Tryz.bok (c36 hp)) ?_
    rw [v36a]
    exact cIf_neg (ge120 (by omega)) (l36c hp h hf hn 120 0 (by omega) (by omega) rfl)
  | succ d ih =>
    intro i b hd hi h
    have hlt : i < 120 := by omega
    refine WLoop_unroll (C := Xr) (wcx_ones Tryz.bok (c36 hp)) (wcx_ok Tryz.bok (c36 hp)) ?_
    rw [v36a]
    refine cIf_pos (lt120 hlt) (cIf_pos (env36b _ _) (cIf_pos (blkb _ _ _ _ (noH_encRs 2 rs)) ?_))
    exact l36b hp hrs hlt (fun b' h' => ih (i + 1) b' (by omega) (by omega) h') 120 0 b (by omega) (by omega) h
end
theorem bits0 (rs : List Rul) (n : Nat) (hn : n = 14400) : BitsI rs (List.replicate n false) 0 0 := ⟨by rw [List.length_replicate]; exact hn, fun x y h => by omega⟩
theorem w36 (hp : Ct Tryz.B.c0 54 (RPl (encPs profL))) {rs : List Rul} (hw : wfRs rs) {Q : CR → Prop} (hQ : Q (.ret (.tup [.vs (encPs (circR rs).1) (circR rs).1.length (tkP (circR rs).1), Bo (circR rs).2.1, I (circR rs).2.2]))) : wpF Xr 36 [.agg [.vs (encRs rs) rs.length .none]] Q := by
  rw [v36, onEnc_eq encRs_inj, zeros_encB]
  refine ⟨⟨rs, rfl, rfl, hw⟩, cIf_intro (fun h => ?_) (fun h => ?_)⟩
  · exact circ_err rs (by simpa using h) hQ
  · have h : chk rs = 0 := by simpa using h
    obtain ⟨q1, q2⟩ := circ_res rs h hQ
    exact ⟨trivial, cIf_pos (env36a _) (cIf_pos (blkb _ _ _ _ (noH_encRs 2 rs)) (l36a hp (chk_ok hw h).1 q1 q2 120 0 _ (by omega) (by omega) (bits0 rs 14400 rfl)))⟩
theorem ct36 (hp : Ct Tryz.B.c0 54 (RPl (encPs profL))) : Ct Tryz.B.c0 36 R35 := Ct.of_wp (l := [(54, RPl (encPs profL)), (70, R70), (83, R83)]) (lm := lm36) (tp := [1]) (ct := []) (sm := [(8, 2), (11, 2)]) Tryz.bok (c36 hp) ⟨_, _, Tryz.func36, rfl⟩ fun args D r hR hD => by
  unfold R35 at hR
  split at hR <;> cases hR
  obtain ⟨rs, rfl, rfl, hw⟩ := hD
  refine ⟨by simp [noHL, noH, noH_encRs], ?_⟩
  rw [show scrubL 0 [AV.agg [.vs (encRs rs) rs.length .none]] = [AV.agg [.vs (encRs rs) rs.length .none]] by simp [scrubL, scrub, sc_encRs, Tok.scrub], circE_eq]
  exact w36 hp hw rfl
end Go.Proofs
/-! C26 -/
set_option maxRecDepth 100000
set_option linter.unusedVariables false
namespace Go.Proofs
open Go Go.Ev
/-! Profiles: a run. -/
theorem Tryz.run38 : (levT Tryz.C0 400).call 38 [] St.nil = some (.ret (.vs (encPs profL) 120 .none), St.nil) := by kernel_rfl
theorem Tryz.run54 : (levT Tryz.C0 400).call 54 [] St.nil = some (.ret (.vs (encPs profL) 120 .none), St.nil) := by kernel_rfl
theorem ct38 : Ct Tryz.B.c0 38 (RPl (encPs profL)) where
  body := ⟨_, _, Tryz.func38, rfl⟩
  ok := fun args D r hR hD => by
    unfold RPl at hR
    split at hR <;> cases hR
    exact ⟨rfl, fun G w us h1 h2 h3 => call_of_run (C := Tryz.C0) Tryz.c0ok Tryz.c0w Tryz.run38 G w us h1 h2 h3⟩
theorem ct54 : Ct Tryz.B.c0 54 (RPl (encPs profL)) where
  body := ⟨_, _, Tryz.func54, rfl⟩
  ok := fun args D r hR hD => by
    unfold RPl at hR
    split at hR <;> cases hR
    exact ⟨rfl, fun G w us h1 h2 h3 => call_of_run (C := Tryz.C0) Tryz.c0ok Tryz.c0w Tryz.run54 G w us h1 h2 h3⟩
/-! The same profiles. -/
theorem sameP_loop {x : List Prf} (ta tb : Tok) (hx : x.length ≤ 1000) {Q : CR → Prop} (hQ : Q (.ret (Bo true))) : ∀ (d i : Nat), x.length - i = d → i ≤ x.length →
    WLoop Tryz.X37 (cd PP 37 [1, 1, 0, 1, 0, 0]) ([.vs (encPs x) x.length ta, .vs (encPs x) x.length tb, X, X, X, I i] ++ List.replicate 20 X) ⟨[], [], []⟩ (kBlock 0 (kSeq Tryz.X37 (cd PP 37 [1, 1, 1]) (kRet Tryz.X37 37 Q))) := by
  intro d
  induction d with
  | zero =>
    intro i hd hi
    refine WLoop_unroll (C := Tryz.X37) (wcx_ones Tryz.bok (Cts.nil _)) (wcx_ok Tryz.bok (Cts.nil _)) ?_
    rw [v37l]
    exact cIf_neg (decide_eq_false (by omega)) hQ
  | succ d ih =>
    intro i hd hi
    have h1 : i < x.length := by omega
    obtain ⟨p, hp⟩ : ∃ p, x[i]? = some p := ⟨_, List.getElem?_eq_getElem h1⟩
    have hl : 7 ≤ (List.drop ((i : Int).toNat * 7) (encPs x)).length := by
      rw [Int.toNat_natCast]
      exact enc_drop_len (encPs_len x) h1
    have he : el (List.drop ((i : Int).toNat * 7) (encPs x)) 0 7 = encP p := by rw [Int.toNat_natCast]; exact encPs_el hp
    refine WLoop_unroll (C := Tryz.X37) (wcx_ones Tryz.bok (Cts.nil _)) (wcx_ok Tryz.bok (Cts.nil _)) ?_
    rw [v37l, wA1 (a := i) (by omega), he]
    exact cIf_pos (decide_eq_true (by omega)) (cIf_pos (row_nn _) (cIf_pos (row_in h1) (cIf_pos (decide_eq_true (encPs_len x).symm) (cIf_pos (decide_eq_true hl) (cIf_pos (encP_like p) (cIf_pos (row_nn _) (cIf_pos (row_in h1) (cIf_pos (decide_eq_true (encPs_len x).symm) (cIf_pos (decide_eq_true hl) (cIf_pos (encP_like p) (cIf_neg (by simp) (ih (i + 1) (by omega) (by omega)))))))))))))
theorem ct37 : Ct Tryz.B.c0 37 R37 := Ct.of_wp (l := []) (lm := lm37) Tryz.bok (Cts.nil _) ⟨_, _, Tryz.func37, rfl⟩ fun args D r hR hD => by
  unfold R37 at hR
  split at hR <;> cases hR
  rename_i a n ta b m tb
  obtain ⟨⟨x, rfl, rfl, hx⟩, rfl, rfl⟩ := hD
  refine ⟨by simp [noHL, noH, noH_encPs], ?_⟩
  rw [show scrubL 0 [AV.vs (encPs x) x.length ta, AV.vs (encPs x) x.length tb] = [AV.vs (encPs x) x.length (ta.scrub 0), AV.vs (encPs x) x.length (tb.scrub 0)] by simp [scrubL, scrub, sc_encPs]]
  show wpF Tryz.X37 37 _ _
  rw [v37]
  exact cIf_neg (by simp) (sameP_loop (Q := fun r' => r' = rB true) _ _ hx rfl x.length 0 (by omega) (by omega))
theorem circ_len {rs : List Rul} : (circR rs).1.length ≤ 1000 := by
  unfold circR
  by_cases h : chk rs = 0
  · rw [if_pos h]
    show (circV (pI (befB rs) 120 (List.range 120))).length ≤ 1000
    cases hx : pI (befB rs) 120 (List.range 120) with
    | none => show ([] : List Prf).length ≤ 1000; decide
    | some x => rw [circV_len hx]; omega
  · rw [if_neg h]
    show ([] : List Prf).length ≤ 1000
    decide
theorem c9 : Cts Tryz.B l9 := (((((Cts.nil _).cons ct37).cons (ct36 ct54)).cons (ct35 ct38)).cons ct24).cons ct20
theorem ct9 : Ct Tryz.B.c0 9 R9 := Ct.of_wp (l := l9) (lm := []) (tp := []) (ct := []) (sm := []) Tryz.bok c9 ⟨_, _, Tryz.func9, rfl⟩ fun args D r hR hD => by
  unfold R9 at hR
  split at hR <;> cases hR
  obtain ⟨rs, rfl, rfl, hw⟩ := hD
  refine ⟨by simp [noHL, noH, noH_encRs], ?_⟩
  rw [show scrubL 0 [AV.agg [.vs (encRs rs) rs.length .none]] = [AV.agg [.vs (encRs rs) rs.length .none]] by simp [scrubL, scrub, sc_encRs, Tok.scrub]]
  show wpF Tryz.X9 9 _ _
  rw [v9, circE_eq]
  exact ⟨⟨rs, rfl, rfl, hw, by omega, by omega⟩, cIf_intro (fun h => ⟨trivial, rfl⟩) (fun h => ⟨⟨rs, rfl, rfl, hw⟩, ⟨rs, rfl, rfl, hw⟩, trivial, cIf_pos (by simp) (cIf_pos (by simp) ⟨⟨⟨_, rfl, rfl, circ_len⟩, rfl, rfl⟩, rfl⟩)⟩)⟩
end Go.Proofs
