/- Contracts of functions of the program and of the reference. -/
import Derived.Test.YtljjkomdibkjpaaGreatDoorK14
set_option linter.unusedVariables false
set_option linter.unusedSimpArgs false
/-! VC41 -/
set_option maxRecDepth 100000
set_option linter.unusedVariables false
-- elP
namespace Go.Proofs
open Go Go.Ev
def encW (p q : Prf) (a b : Int) : List AV := [I p.cl, I p.vi, Bo p.ho, Bo p.de, Bo p.mo, I p.cr, I p.le, I q.cl, I q.vi, Bo q.ho, Bo q.de, Bo q.mo, I q.cr, I q.le, I a, I b]
def R85 : Spc := fun args => match args with
  | [] => some (True, .ret (.fn (.func 127) [] []))
  | _ => none
def R86 : Spc := fun args => match args with
  | [.vs l n .none, .int .i64 i] => some (l = encPs profL ∧ n = 120 ∧ 0 ≤ i ∧ i < 129600, .ret (.tup [.agg (encP (caseAt i.toNat).1), .agg (encP (caseAt i.toNat).2)]))
  | _ => none
/-- What a search finds. -/
structure Wit where
  p : Prf
  q : Prf
  a : Int
  b : Int
  f : Bool
  e : Int
def zWit : Wit := ⟨zPr, zPr, 0, 0, false, 0⟩
def Wit.ret (w : Wit) : CR := .ret (.tup [.agg (encW w.p w.q w.a w.b), Bo w.f, I w.e])
def foundW (x : Option (Prf × Prf)) (a b : Prf × Prf → Int) : Wit := match x with
  | some x => ⟨x.1, x.2, a x, b x, true, 0⟩
  | none => zWit
def errW (e : Int) : Wit := ⟨zPr, zPr, 0, 0, false, e⟩
def isClash (rs : List Rul) (x : Prf × Prf) : Bool := kindV (decV rs x.1 x.2).1 (decV rs x.1 x.2).2 == 3
def clashR (rs : List Rul) : Wit := if chk rs = 0 then foundW (csL.find? (isClash rs)) (fun x => (decV rs x.1 x.2).1) (fun x => (decV rs x.1 x.2).2) else errW (chk rs)
noncomputable def Tryz.X85 : WCx := Tryz.B.wcx []
noncomputable def Tryz.X86 : WCx := Tryz.B.wcx []
def lm42 : List (Nat × List Nat) := [(6, [1, 2, 6, 7]), (7, [1, 2, 6, 7])]
theorem v85 (Q : CR → Prop) : wpF Tryz.X85 85 [] Q =
  (Q (CR.ret (AV.fn (Fn.func 127) [] []))) := by kernel_rfl
theorem v86 (l : List AV) (i : Int) (Q : CR → Prop) : wpF Tryz.X86 86 [.vs l 120 .none, I i] Q =
  (cIf (decide ((0 : Int) ≤ IntKind.i64.wrap (i.tdiv (1080 : Int)))) (cIf (decide ((IntKind.i64.wrap (i.tdiv (1080 : Int))).toNat < 120)) (cIf (decide (840 = l.length)) (cIf (decide (7 ≤ (List.drop ((IntKind.i64.wrap (i.tdiv (1080 : Int))).toNat * 7) l).length)) (cIf (like zP (el (List.drop ((IntKind.i64.wrap (i.tdiv (1080 : Int))).toNat * 7) l) 0 7)) (cIf (decide ((0 : Int) ≤ (IntKind.i64.wrap (i.tdiv (9 : Int))).tmod (120 : Int))) (cIf (decide (((IntKind.i64.wrap (i.tdiv (9 : Int))).tmod (120 : Int)).toNat < 120)) (cIf (decide (840 = l.length)) (cIf (decide (7 ≤ (List.drop (((IntKind.i64.wrap (i.tdiv (9 : Int))).tmod (120 : Int)).toNat * 7) l).length)) (cIf (like zP (el (List.drop (((IntKind.i64.wrap (i.tdiv (9 : Int))).tmod (120 : Int)).toNat * 7) l) 0 7)) (Q (CR.ret (AV.tup [AV.agg [I (cI (el (List.drop ((IntKind.i64.wrap (i.tdiv (1080 : Int))).toNat * 7) l) 0 7) 0), I (cI (el (List.drop ((IntKind.i64.wrap (i.tdiv (1080 : Int))).toNat * 7) l) 0 7) 1), Bo (cB (el (List.drop ((IntKind.i64.wrap (i.tdiv (1080 : Int))).toNat * 7) l) 0 7) 2), Bo (cB (el (List.drop ((IntKind.i64.wrap (i.tdiv (1080 : Int))).toNat * 7) l) 0 7) 3), Bo (cB (el (List.drop ((IntKind.i64.wrap (i.tdiv (1080 : Int))).toNat * 7) l) 0 7) 4), I (IntKind.i64.wrap (((IntKind.i64.wrap (i.tdiv (3 : Int))).tmod (3 : Int)).tdiv (2 : Int))), I (IntKind.i64.wrap ((i.tmod (3 : Int)).tdiv (2 : Int)))], AV.agg [I (cI (el (List.drop (((IntKind.i64.wrap (i.tdiv (9 : Int))).tmod (120 : Int)).toNat * 7) l) 0 7) 0), I (cI (el (List.drop (((IntKind.i64.wrap (i.tdiv (9 : Int))).tmod (120 : Int)).toNat * 7) l) 0 7) 1), Bo (cB (el (List.drop (((IntKind.i64.wrap (i.tdiv (9 : Int))).tmod (120 : Int)).toNat * 7) l) 0 7) 2), Bo (cB (el (List.drop (((IntKind.i64.wrap (i.tdiv (9 : Int))).tmod (120 : Int)).toNat * 7) l) 0 7) 3), Bo (cB (el (List.drop (((IntKind.i64.wrap (i.tdiv (9 : Int))).tmod (120 : Int)).toNat * 7) l) 0 7) 4), I (IntKind.i64.wrap ((IntKind.i64.wrap ((2 : Int) - (IntKind.i64.wrap (i.tdiv (3 : Int))).tmod (3 : Int))).tdiv (2 : Int))), I (IntKind.i64.wrap ((IntKind.i64.wrap ((2 : Int) - i.tmod (3 : Int))).tdiv (2 : Int)))]]))) False) False) False) False) False) False) False) False) False) False) := by kernel_rfl
end Go.Proofs
/-! C41 -/
set_option maxRecDepth 100000
set_option linter.unusedVariables false
namespace Go.Proofs
open Go Go.Ev
/-! The cases by their numbers, as the reference has them. -/
theorem ct85 : Ct Tryz.B.c0 85 R85 := Ct.of_wp (l := []) (lm := []) (tp := []) (ct := []) (sm := []) Tryz.bok (Cts.nil _) ⟨_, _, Tryz.func85, rfl⟩ fun args D r hR hD => by
  unfold R85 at hR
  split at hR <;> cases hR
  refine ⟨rfl, ?_⟩
  show wpF Tryz.X85 85 [] _
  rw [v85]
theorem tdN (n k : Nat) : ((n : Int)).tdiv (k : Int) = ((n / k : Nat) : Int) := rfl
theorem tmN (n k : Nat) : ((n : Int)).tmod (k : Int) = ((n % k : Nat) : Int) := rfl
theorem wyI (c : Nat) (hc : c < 3) : IntKind.i64.wrap (((c : Nat) : Int).tdiv 2) = (wy c).1 ∧ IntKind.i64.wrap ((IntKind.i64.wrap (2 - ((c : Nat) : Int))).tdiv 2) = (wy c).2 := by
  match c, hc with
  | 0, _ => exact ⟨by kernel_rfl, by kernel_rfl⟩
  | 1, _ => exact ⟨by kernel_rfl, by kernel_rfl⟩
  | 2, _ => exact ⟨by kernel_rfl, by kernel_rfl⟩
theorem w86 {n : Nat} (hn : n < 129600) {Q : CR → Prop} (hQ : Q (.ret (.tup [.agg (encP (caseAt n).1), .agg (encP (caseAt n).2)]))) : wpF Tryz.X86 86 [.vs (encPs profL) 120 .none, I n] Q := by
  rw [v86]
  have e1 : IntKind.i64.wrap ((n : Int).tdiv (1080 : Int)) = ((n / 1080 : Nat) : Int) := by rw [show (1080 : Int) = ((1080 : Nat) : Int) from rfl, tdN, wrap_id (by omega) (by omega)]
  have e2 : (IntKind.i64.wrap ((n : Int).tdiv (9 : Int))).tmod (120 : Int) = ((n / 9 % 120 : Nat) : Int) := by rw [show (9 : Int) = ((9 : Nat) : Int) from rfl, tdN, wrap_id (by omega) (by omega), show (120 : Int) = ((120 : Nat) : Int) from rfl, tmN]
  have e3 : (IntKind.i64.wrap ((n : Int).tdiv (3 : Int))).tmod (3 : Int) = ((n / 3 % 3 : Nat) : Int) := by rw [show (3 : Int) = ((3 : Nat) : Int) from rfl, tdN, wrap_id (by omega) (by omega), tmN]
  have e4 : (n : Int).tmod (3 : Int) = ((n % 3 : Nat) : Int) := by rw [show (3 : Int) = ((3 : Nat) : Int) from rfl, tmN]
  have h1 : n / 1080 < 120 := by omega
  have h2 : n / 9 % 120 < 120 := by omega
  rw [e1, e2, e3, e4, prof_el (profL_at h1), prof_el (profL_at h2), (wyI (n / 3 % 3) (by omega)).1, (wyI (n / 3 % 3) (by omega)).2, (wyI (n % 3) (by omega)).1, (wyI (n % 3) (by omega)).2]
  exact cIf_pos (row_nn _) (cIf_pos (row_in h1) (cIf_pos (decide_eq_true prof_len) (cIf_pos (decide_eq_true (prof_dl h1)) (cIf_pos (encP_like _) (cIf_pos (row_nn _) (cIf_pos (row_in h2) (cIf_pos (decide_eq_true prof_len) (cIf_pos (decide_eq_true (prof_dl h2)) (cIf_pos (encP_like _) hQ)))))))))
theorem ct86 : Ct Tryz.B.c0 86 R86 := Ct.of_wp (l := []) (lm := []) (tp := []) (ct := []) (sm := []) Tryz.bok (Cts.nil _) ⟨_, _, Tryz.func86, rfl⟩ fun args D r hR hD => by
  unfold R86 at hR
  split at hR <;> cases hR
  rename_i l n i
  obtain ⟨rfl, rfl, h1, h2⟩ := hD
  obtain ⟨m, rfl⟩ : ∃ m : Nat, i = m := ⟨i.toNat, by omega⟩
  refine ⟨by simp [noHL, noH, noH_encPs], ?_⟩
  rw [show scrubL 0 [AV.vs (encPs profL) 120 .none, I m] = [AV.vs (encPs profL) 120 .none, I m] by simp [scrubL, scrub, sc_encPs, Tok.scrub]]
  exact w86 (by omega) rfl
theorem decV_1 {rs : List Rul} (hrs : okRs rs) (p q : Prf) : (decV rs p q).1 = (decR (rkR rs) (thR rs p q) (thR rs q p) (List.range rs.length) (-1) (-1) 0).1 := by rw [dec_same hrs]
theorem decV_2 {rs : List Rul} (hrs : okRs rs) (p q : Prf) : (decV rs p q).2 = (decR (rkR rs) (thR rs p q) (thR rs q p) (List.range rs.length) (-1) (-1) 0).2.1 := by rw [dec_same hrs]
theorem csL_len : csL.length = 129600 := by simp [csL]
theorem csL_drop {i : Nat} (h : i < 129600) : csL.drop i = caseAt i :: csL.drop (i + 1) := by
  have h1 : i < csL.length := by rw [csL_len]; exact h
  rw [List.drop_eq_getElem_cons h1]
  simp [csL]
/-! The first clash. -/
theorem ret_wpC {C : WCx} {c : Code} (hc : c = .ret) {env : Env} {S : St} {k : Kont} (h : wpC C c env S k) : k .ret env S := by subst hc; exact h
section
attribute [local irreducible] wpC wpF
def hs41 (rs : List Rul) (p q : Prf) (a b : Int) (f : Bool) : List (Option HB) := [some (.cells [.vs (encRs rs) rs.length .none] 25), some (.cells (encW p q a b) 61), some (.cells [Bo f] 4), some (.cells [I 0] 26), some (.cells [.vs (encD (rankL rs)) rs.length .none] 49)]
theorem hs41_ok (rs : List Rul) (p q : Prf) (a b : Int) (f : Bool) : HsOk 5 (hs41 rs p q a b f) where
  len := rfl
  ok := by simp [hs41, okBlkS, noHB, noHL, noH, noH_encRs, encD_noH, encW]
  st := by simp [hs41, scrubHB, scrubL, scrub, Tok.scrub, sc_encRs, encD_sc, encW]
theorem rk_lt (rs : List Rul) : (rankL rs).length = rs.length ∧ ∀ x ∈ rankL rs, x < rs.length := ⟨rankL_len rs, fun x hx => rankL_mem rs x hx⟩
/-- What decide is asked. -/
theorem d78 {rs : List Rul} (hrs : okRs rs) (hsh : ∀ x ∈ rs, shT x.t = true) (p q : Prf) : ((∃ (rs_1 : List Rul), ∃ (ord : List Nat), encRs rs = encRs rs_1 ∧ rs.length = rs_1.length ∧ okRs rs_1 ∧ (∀ (x : Rul), x ∈ rs_1 → shT x.t = true) ∧ encD (rankL rs) = encD ord ∧ rs.length = ord.length ∧ ord.length ≤ 24 ∧ ∀ (x : Nat), x ∈ ord → x < rs_1.length) ∧ (∃ (p_1 : Prf), (encP p) = encP p_1) ∧ ∃ (q_1 : Prf), (encP q) = encP q_1) :=
  ⟨⟨rs, rankL rs, rfl, rfl, hrs, hsh, rfl, (rk_lt rs).1.symm, by rw [(rk_lt rs).1]; exact hrs.2.1, (rk_lt rs).2⟩, ⟨p, rfl⟩, q, rfl⟩
abbrev noY : Yk := fun _ _ _ _ => False
end
/-! The reference's first clash. -/
section
attribute [local irreducible] csL caseAt
variable {rs : List Rul} (hrs : okRs rs) {Q : CR → Prop}
include hrs
end
end Go.Proofs
/-! VC43 -/
set_option maxRecDepth 100000
set_option linter.unusedVariables false
-- elP
namespace Go.Proofs
open Go Go.Ev
def eqP (p q : Prf) : Bool := p.cl == q.cl && (p.vi == q.vi && (p.ho == q.ho && (p.de == q.de && (p.mo == q.mo && (p.cr == q.cr && (p.le == q.le && true))))))
def isGap (rs : List Rul) (x : Prf × Prf) : Bool := !(eqP x.1 x.2) && kindV (decV rs x.1 x.2).1 (decV rs x.1 x.2).2 == 0
def gapR (rs : List Rul) : Wit := if chk rs = 0 then foundW (csL.find? (isGap rs)) (fun _ => 0) (fun _ => 0) else errW (chk rs)
noncomputable def R43 : Spc := fun args => match args with
  | [.agg [.vs l len .none]] => some (∃ rs, l = encRs rs ∧ len = rs.length ∧ wfRs rs, (onEnc encRs gapR zWit l).ret)
  | _ => none
noncomputable def Tryz.X43 : WCx := Tryz.B.wcx [(27, R27), (79, R79), (85, R85)]
noncomputable def Tryz.X43r : WCx := Tryz.B.wcxP 5 [(78, R78)]
noncomputable def Tryz.X44 (pl : List AV) : WCx := Tryz.B.wcx [(54, RPl pl), (70, R70), (83, R83), (86, R86)] lm42 [] [] [(6, 2)]
theorem v43a (l : List AV) (len : Nat) (k : Kont) : wpC Tryz.X43 (cd PP 43 [0]) ([.agg [.vs l len .none]] ++ List.replicate 35 X) ⟨[], [], []⟩ k =
  (k EX.normal ([AV.agg [AV.vs l len Tok.none], AV.ptr 0 0, AV.ptr 1 0, AV.ptr 2 0, AV.ptr 3 0] ++ List.replicate 31 X) (St.mk [some (HB.cells [AV.vs l len Tok.none] 25), some (HB.cells [I (0 : Int), I (0 : Int), Bo false, Bo false, Bo false, I (0 : Int), I (0 : Int), I (0 : Int), I (0 : Int), Bo false, Bo false, Bo false, I (0 : Int), I (0 : Int), I (0 : Int), I (0 : Int)] 61), some (HB.cells [Bo false] 4), some (HB.cells [I (0 : Int)] 26)] [] [])) := by kernel_rfl
theorem v43b (l : List AV) (len : Nat) (k : Kont) : wpC Tryz.X43 (cd PP 43 [1, 0]) ([X, .ptr 0 0, .ptr 1 0, .ptr 2 0, .ptr 3 0] ++ List.replicate 31 X) ⟨[some (.cells [.vs l len .none] 25), some (.cells (encW zPr zPr 0 0) 61), some (.cells [Bo false] 4), some (.cells [I 0] 26)], [], []⟩ k =
  ((∃ (rs : List Rul), l = encRs rs ∧ len = rs.length ∧ wfRs rs) ∧ cIf (onEnc encRs chk (0 : Int) l != (0 : Int)) (k EX.ret ([X, AV.ptr 0 0, AV.ptr 1 0, AV.ptr 2 0, AV.ptr 3 0, I (onEnc encRs chk (0 : Int) l), X, X, X, AV.agg [AV.vs l len Tok.none], I (onEnc encRs chk (0 : Int) l), I (onEnc encRs chk (0 : Int) l), Bo (onEnc encRs chk (0 : Int) l != (0 : Int)), AV.agg [I (0 : Int), I (0 : Int), Bo false, Bo false, Bo false, I (0 : Int), I (0 : Int), I (0 : Int), I (0 : Int), Bo false, Bo false, Bo false, I (0 : Int), I (0 : Int), I (0 : Int), I (0 : Int)], I (onEnc encRs chk (0 : Int) l)] ++ List.replicate 21 X) (St.mk [some (HB.cells [AV.vs l len Tok.none] 25), some (HB.cells [I (0 : Int), I (0 : Int), Bo false, Bo false, Bo false, I (0 : Int), I (0 : Int), I (0 : Int), I (0 : Int), Bo false, Bo false, Bo false, I (0 : Int), I (0 : Int), I (0 : Int), I (0 : Int)] 61), some (HB.cells [Bo false] 4), some (HB.cells [I (onEnc encRs chk (0 : Int) l)] 26)] [] [3, 2, 1])) (k EX.normal ([X, AV.ptr 0 0, AV.ptr 1 0, AV.ptr 2 0, AV.ptr 3 0, I (onEnc encRs chk (0 : Int) l), X, X, X, AV.agg [AV.vs l len Tok.none], I (onEnc encRs chk (0 : Int) l), I (onEnc encRs chk (0 : Int) l), Bo (onEnc encRs chk (0 : Int) l != (0 : Int))] ++ List.replicate 23 X) (St.mk [some (HB.cells [AV.vs l len Tok.none] 25), some (HB.cells [I (0 : Int), I (0 : Int), Bo false, Bo false, Bo false, I (0 : Int), I (0 : Int), I (0 : Int), I (0 : Int), Bo false, Bo false, Bo false, I (0 : Int), I (0 : Int), I (0 : Int), I (0 : Int)] 61), some (HB.cells [Bo false] 4), some (HB.cells [I (0 : Int)] 26)] [] []))) := by kernel_rfl
theorem v43c (l : List AV) (len : Nat) (k : Kont) : wpC Tryz.X43 (cd PP 43 [1, 1, 0]) ([X, .ptr 0 0, .ptr 1 0, .ptr 2 0, .ptr 3 0] ++ List.replicate 31 X) ⟨[some (.cells [.vs l len .none] 25), some (.cells (encW zPr zPr 0 0) 61), some (.cells [Bo false] 4), some (.cells [I 0] 26)], [], []⟩ k =
  ((∃ (rs : List Rul), l = encRs rs ∧ len = rs.length ∧ okRs rs) ∧ k EX.normal ([X, AV.ptr 0 0, AV.ptr 1 0, AV.ptr 2 0, AV.ptr 3 0, X, AV.ptr 4 0, X, X, X, X, X, X, X, X, AV.agg [AV.vs l len Tok.none], AV.vs (encD (onEnc encRs rankL [] l)) len Tok.none] ++ List.replicate 19 X) (St.mk [some (HB.cells [AV.vs l len Tok.none] 25), some (HB.cells [I (0 : Int), I (0 : Int), Bo false, Bo false, Bo false, I (0 : Int), I (0 : Int), I (0 : Int), I (0 : Int), Bo false, Bo false, Bo false, I (0 : Int), I (0 : Int), I (0 : Int), I (0 : Int)] 61), some (HB.cells [Bo false] 4), some (HB.cells [I (0 : Int)] 26), some (HB.cells [AV.vs (encD (onEnc encRs rankL [] l)) len Tok.none] 49)] [] [4])) := by kernel_rfl
theorem v43d (l cs : List AV) (len n : Nat) (k : Kont) : wpC Tryz.X43 (cd PP 43 [1, 1, 1, 0, 0]) ([X, .ptr 0 0, .ptr 1 0, .ptr 2 0, .ptr 3 0, X, .ptr 4 0] ++ List.replicate 29 X) ⟨[some (.cells [.vs l len .none] 25), some (.cells (encW zPr zPr 0 0) 61), some (.cells [Bo false] 4), some (.cells [I 0] 26), some (.cells [.vs cs n .none] 49)], [], []⟩ k =
  (True ∧ k EX.normal ([X, AV.ptr 0 0, AV.ptr 1 0, AV.ptr 2 0, AV.ptr 3 0, X, AV.ptr 4 0, X, X, X, X, X, X, X, X, X, X, AV.fn (Fn.func 127) [] []] ++ List.replicate 18 X) (St.mk [some (HB.cells [AV.vs l len Tok.none] 25), some (HB.cells [I (0 : Int), I (0 : Int), Bo false, Bo false, Bo false, I (0 : Int), I (0 : Int), I (0 : Int), I (0 : Int), Bo false, Bo false, Bo false, I (0 : Int), I (0 : Int), I (0 : Int), I (0 : Int)] 61), some (HB.cells [Bo false] 4), some (HB.cells [I (0 : Int)] 26), some (HB.cells [AV.vs cs n Tok.none] 49)] [] [])) := by kernel_rfl
theorem v43g (l cs : List AV) (len n : Nat) (p q : Prf) (k : Kont) : wpC Tryz.X43r (cd PP 43 [1, 1, 1, 0, 1, 0, 0]) ([X, .ptr 0 0, .ptr 1 0, .ptr 2 0, .ptr 3 0, X, .ptr 4 0, X, X, X, X, X, X, X, X, X, X, .fn (.func 127) [] [], .agg (encP p), .agg (encP q)] ++ List.replicate 16 X) ⟨[some (.cells [.vs l len .none] 25), some (.cells (encW zPr zPr 0 0) 61), some (.cells [Bo false] 4), some (.cells [I 0] 26), some (.cells [.vs cs n .none] 49)], [], []⟩ k =
  (k EX.normal ([X, AV.ptr 0 0, AV.ptr 1 0, AV.ptr 2 0, AV.ptr 3 0, X, AV.ptr 4 0, AV.ptr 5 0, AV.ptr 6 0, X, X, X, X, X, X, X, X, AV.fn (Fn.func 127) [] [], AV.agg (encP p), AV.agg (encP q)] ++ List.replicate 16 X) (St.mk [some (HB.cells [AV.vs l len Tok.none] 25), some (HB.cells [I (0 : Int), I (0 : Int), Bo false, Bo false, Bo false, I (0 : Int), I (0 : Int), I (0 : Int), I (0 : Int), Bo false, Bo false, Bo false, I (0 : Int), I (0 : Int), I (0 : Int), I (0 : Int)] 61), some (HB.cells [Bo false] 4), some (HB.cells [I (0 : Int)] 26), some (HB.cells [AV.vs cs n Tok.none] 49), some (HB.cells (encP p) 40), some (HB.cells (encP q) 40)] [] [6, 5])) := by kernel_rfl
theorem v43h (l cs : List AV) (len n : Nat) (p q : Prf) (k : Kont) : wpC Tryz.X43r (cd PP 43 [1, 1, 1, 0, 1, 0, 1]) ([X, .ptr 0 0, .ptr 1 0, .ptr 2 0, .ptr 3 0, X, .ptr 4 0, .ptr 5 0, .ptr 6 0, X, X, X, X, X, X, X, X, .fn (.func 127) [] [], .agg (encP p), .agg (encP q)] ++ List.replicate 16 X) ⟨[some (.cells [.vs l len .none] 25), some (.cells (encW zPr zPr 0 0) 61), some (.cells [Bo false] 4), some (.cells [I 0] 26), some (.cells [.vs cs n .none] 49), some (.cells (encP p) 40), some (.cells (encP q) 40)], [], [6, 5]⟩ k =
  (cIf (!(p.cl == q.cl && (p.vi == q.vi && (p.ho == q.ho && (p.de == q.de && (p.mo == q.mo && (p.cr == q.cr && (p.le == q.le && true)))))))) (((∃ (rs : List Rul), ∃ (ord : List Nat), l = encRs rs ∧ len = rs.length ∧ okRs rs ∧ (∀ (x : Rul), x ∈ rs → shT x.t = true) ∧ cs = encD ord ∧ n = ord.length ∧ ord.length ≤ 24 ∧ ∀ (x : Nat), x ∈ ord → x < rs.length) ∧ (∃ (p_1 : Prf), (encP p) = encP p_1) ∧ ∃ (q_1 : Prf), (encP q) = encP q_1) ∧ cIf (kindV (dvP l cs (encP p) (encP q)).fst (dvP l cs (encP p) (encP q)).snd == (0 : Int)) (k EX.ret [X, AV.ptr 0 0, AV.ptr 1 0, AV.ptr 2 0, AV.ptr 3 0, X, AV.ptr 4 0, AV.ptr 5 0, AV.ptr 6 0, X, X, X, X, X, X, X, X, AV.fn (Fn.func 127) [] [], AV.agg (encP p), AV.agg (encP q), AV.agg (encP p), AV.agg (encP q), Bo !(p.cl == q.cl && (p.vi == q.vi && (p.ho == q.ho && (p.de == q.de && (p.mo == q.mo && (p.cr == q.cr && (p.le == q.le && true))))))), Bo true, AV.agg [AV.vs l len Tok.none], AV.vs cs n Tok.none, AV.agg (encP p), AV.agg (encP q), AV.agg [AV.int IntKind.u8 (kindV (dvP l cs (encP p) (encP q)).fst (dvP l cs (encP p) (encP q)).snd), AV.int IntKind.i64 (dvP l cs (encP p) (encP q)).fst, AV.int IntKind.i64 (dvP l cs (encP p) (encP q)).snd], AV.int IntKind.u8 (kindV (dvP l cs (encP p) (encP q)).fst (dvP l cs (encP p) (encP q)).snd), AV.bool (kindV (dvP l cs (encP p) (encP q)).fst (dvP l cs (encP p) (encP q)).snd == (0 : Int)), AV.bool (kindV (dvP l cs (encP p) (encP q)).fst (dvP l cs (encP p) (encP q)).snd == (0 : Int)), AV.agg (encP p), AV.agg (encP q), AV.agg [I p.cl, I p.vi, Bo p.ho, Bo p.de, Bo p.mo, I p.cr, I p.le, I q.cl, I q.vi, Bo q.ho, Bo q.de, Bo q.mo, I q.cr, I q.le, I (0 : Int), I (0 : Int)], X] (St.mk [some (HB.cells [AV.vs l len Tok.none] 25), some (HB.cells [I p.cl, I p.vi, Bo p.ho, Bo p.de, Bo p.mo, I p.cr, I p.le, I q.cl, I q.vi, Bo q.ho, Bo q.de, Bo q.mo, I q.cr, I q.le, I (0 : Int), I (0 : Int)] 61), some (HB.cells [Bo true] 4), some (HB.cells [I (0 : Int)] 26), some (HB.cells [AV.vs cs n Tok.none] 49), some (HB.cells (encP p) 40), some (HB.cells (encP q) 40)] [] [3, 2, 1, 6, 5])) (k EX.normal [X, AV.ptr 0 0, AV.ptr 1 0, AV.ptr 2 0, AV.ptr 3 0, X, AV.ptr 4 0, AV.ptr 5 0, AV.ptr 6 0, X, X, X, X, X, X, X, X, AV.fn (Fn.func 127) [] [], AV.agg (encP p), AV.agg (encP q), AV.agg (encP p), AV.agg (encP q), Bo !(p.cl == q.cl && (p.vi == q.vi && (p.ho == q.ho && (p.de == q.de && (p.mo == q.mo && (p.cr == q.cr && (p.le == q.le && true))))))), Bo true, AV.agg [AV.vs l len Tok.none], AV.vs cs n Tok.none, AV.agg (encP p), AV.agg (encP q), AV.agg [AV.int IntKind.u8 (kindV (dvP l cs (encP p) (encP q)).fst (dvP l cs (encP p) (encP q)).snd), AV.int IntKind.i64 (dvP l cs (encP p) (encP q)).fst, AV.int IntKind.i64 (dvP l cs (encP p) (encP q)).snd], AV.int IntKind.u8 (kindV (dvP l cs (encP p) (encP q)).fst (dvP l cs (encP p) (encP q)).snd), AV.bool (kindV (dvP l cs (encP p) (encP q)).fst (dvP l cs (encP p) (encP q)).snd == (0 : Int)), AV.bool (kindV (dvP l cs (encP p) (encP q)).fst (dvP l cs (encP p) (encP q)).snd == (0 : Int)), X, X, X, X] (St.mk [some (HB.cells [AV.vs l len Tok.none] 25), some (HB.cells [I (0 : Int), I (0 : Int), Bo false, Bo false, Bo false, I (0 : Int), I (0 : Int), I (0 : Int), I (0 : Int), Bo false, Bo false, Bo false, I (0 : Int), I (0 : Int), I (0 : Int), I (0 : Int)] 61), some (HB.cells [Bo false] 4), some (HB.cells [I (0 : Int)] 26), some (HB.cells [AV.vs cs n Tok.none] 49), some (HB.cells (encP p) 40), some (HB.cells (encP q) 40)] [] [6, 5]))) (k EX.normal [X, AV.ptr 0 0, AV.ptr 1 0, AV.ptr 2 0, AV.ptr 3 0, X, AV.ptr 4 0, AV.ptr 5 0, AV.ptr 6 0, X, X, X, X, X, X, X, X, AV.fn (Fn.func 127) [] [], AV.agg (encP p), AV.agg (encP q), AV.agg (encP p), AV.agg (encP q), Bo !(p.cl == q.cl && (p.vi == q.vi && (p.ho == q.ho && (p.de == q.de && (p.mo == q.mo && (p.cr == q.cr && (p.le == q.le && true))))))), Bo false, AV.tup [], AV.tup [], AV.tup [], AV.tup [], AV.tup [], AV.tup [], AV.tup [], Bo false, X, X, X, X] (St.mk [some (HB.cells [AV.vs l len Tok.none] 25), some (HB.cells [I (0 : Int), I (0 : Int), Bo false, Bo false, Bo false, I (0 : Int), I (0 : Int), I (0 : Int), I (0 : Int), Bo false, Bo false, Bo false, I (0 : Int), I (0 : Int), I (0 : Int), I (0 : Int)] 61), some (HB.cells [Bo false] 4), some (HB.cells [I (0 : Int)] 26), some (HB.cells [AV.vs cs n Tok.none] 49), some (HB.cells (encP p) 40), some (HB.cells (encP q) 40)] [] [6, 5]))) := by kernel_rfl
theorem v43z (l cs : List AV) (len n : Nat) (k : Kont) : wpC Tryz.X43 (cd PP 43 [1, 1, 1, 1, 0]) ([X, .ptr 0 0, .ptr 1 0, .ptr 2 0, .ptr 3 0, X, .ptr 4 0, X, X, X, X, X, X, X, X, X, X, .fn (.func 127) [] []] ++ List.replicate 18 X) ⟨[some (.cells [.vs l len .none] 25), some (.cells (encW zPr zPr 0 0) 61), some (.cells [Bo false] 4), some (.cells [I 0] 26), some (.cells [.vs cs n .none] 49)], [], []⟩ k =
  (k EX.normal [X, AV.ptr 0 0, AV.ptr 1 0, AV.ptr 2 0, AV.ptr 3 0, X, AV.ptr 4 0, X, X, X, X, X, X, X, X, X, X, AV.fn (Fn.func 127) [] [], X, X, X, X, X, X, X, X, X, X, X, X, X, X, X, X, X, AV.agg [I (0 : Int), I (0 : Int), Bo false, Bo false, Bo false, I (0 : Int), I (0 : Int), I (0 : Int), I (0 : Int), Bo false, Bo false, Bo false, I (0 : Int), I (0 : Int), I (0 : Int), I (0 : Int)]] (St.mk [some (HB.cells [AV.vs l len Tok.none] 25), some (HB.cells [I (0 : Int), I (0 : Int), Bo false, Bo false, Bo false, I (0 : Int), I (0 : Int), I (0 : Int), I (0 : Int), Bo false, Bo false, Bo false, I (0 : Int), I (0 : Int), I (0 : Int), I (0 : Int)] 61), some (HB.cells [Bo false] 4), some (HB.cells [I (0 : Int)] 26), some (HB.cells [AV.vs cs n Tok.none] 49)] [] [3, 2, 1])) := by kernel_rfl
theorem v43e (l cs : List AV) (len n : Nat) (p q : Prf) (a b e : Int) (f : Bool) (u : AV) (ws : List Nat) (Q : CR → Prop) : wpC Tryz.X43 (cd PP 43 [1, 1, 1, 1, 1]) ([X, .ptr 0 0, .ptr 1 0, .ptr 2 0, .ptr 3 0, X, .ptr 4 0, X, X, X, X, X, X, X, X, X, X, .fn (.func 127) [] []] ++ List.replicate 17 X ++ [u]) ⟨[some (.cells [.vs l len .none] 25), some (.cells (encW p q a b) 61), some (.cells [Bo f] 4), some (.cells [I e] 26), some (.cells [.vs cs n .none] 49)], [], ws⟩ (kRet Tryz.X43 43 Q) =
  (Q (CR.ret (AV.tup [AV.agg [I p.cl, I p.vi, Bo p.ho, Bo p.de, Bo p.mo, I p.cr, I p.le, I q.cl, I q.vi, Bo q.ho, Bo q.de, Bo q.mo, I q.cr, I q.le, I a, I b], Bo f, I e]))) := by kernel_rfl
theorem v44 (pl : List AV) (l : List AV) (len : Nat) (Q : CR → Prop) : wpF (Tryz.X44 pl) 44 [.agg [.vs l len .none]] Q =
  ((∃ (rs : List Rul), l = encRs rs ∧ len = rs.length ∧ wfRs rs) ∧ cIf (onEnc encRs chk (0 : Int) l != (0 : Int)) (Q (CR.ret (AV.tup [AV.agg [I (0 : Int), I (0 : Int), Bo false, Bo false, Bo false, I (0 : Int), I (0 : Int), I (0 : Int), I (0 : Int), Bo false, Bo false, Bo false, I (0 : Int), I (0 : Int), I (0 : Int), I (0 : Int)], Bo false, I (onEnc encRs chk (0 : Int) l)]))) (True ∧ cIf (noHL 2 ([X, AV.ptr 0 0, AV.ptr 1 0, X, X, X, AV.vs pl 120 Tok.none, I (0 : Int)] ++ List.replicate 37 X)) (cIf ([some (HB.cells [AV.vs l len Tok.none] 25), some (HB.cells [I (0 : Int), I (0 : Int), Bo false, Bo false, Bo false, I (0 : Int), I (0 : Int), I (0 : Int), I (0 : Int), Bo false, Bo false, Bo false, I (0 : Int), I (0 : Int), I (0 : Int), I (0 : Int)] 61)].all (okBlk 2)) (WLoop (Tryz.X44 pl) (cd (Tryz.X44 pl).P 44 [1, 1, 1, 1, 0, 1, 0, 0]) ([X, AV.ptr 0 0, AV.ptr 1 0, X, X, X, AV.vs pl 120 Tok.none, I (0 : Int)] ++ List.replicate 37 X) (St.mk [some (HB.cells [AV.vs l len Tok.none] 25), some (HB.cells [I (0 : Int), I (0 : Int), Bo false, Bo false, Bo false, I (0 : Int), I (0 : Int), I (0 : Int), I (0 : Int), Bo false, Bo false, Bo false, I (0 : Int), I (0 : Int), I (0 : Int), I (0 : Int)] 61)] [] []) (kBlock 0 (kSeq (Tryz.X44 pl) (cd (Tryz.X44 pl).P 44 [1, 1, 1, 1, 1]) (kRet (Tryz.X44 pl) 44 Q)))) False) False)) := by kernel_rfl
theorem v44l (pl : List AV) (l : List AV) (len : Nat) (i : Int) (Q : CR → Prop) : wpC (Tryz.X44 pl) (cd PP 44 [1, 1, 1, 1, 0, 1, 0, 0]) ([X, .ptr 0 0, .ptr 1 0, X, X, X, .vs pl 120 .none, I i] ++ List.replicate 37 X) ⟨[some (.cells [.vs l len .none] 25), some (.cells (encW zPr zPr 0 0) 61)], [], []⟩ (kLoop (Tryz.X44 pl) (cd PP 44 [1, 1, 1, 1, 0, 1, 0, 0]) (kBlock 0 (kSeq (Tryz.X44 pl) (cd PP 44 [1, 1, 1, 1, 1]) (kRet (Tryz.X44 pl) 44 Q)))) =
  (cIf (decide (i < (129600 : Int))) ((pl = encPs profL ∧ 120 = 120 ∧ (0 : Int) ≤ i ∧ i < (129600 : Int)) ∧ ((∃ (rs : List Rul), l = encRs rs ∧ len = rs.length ∧ okRs rs) ∧ (∃ (p : Prf), (encP (caseAt i.toNat).fst) = encP p) ∧ ∃ (q : Prf), (encP (caseAt i.toNat).snd) = encP q) ∧ cIf (!((caseAt i.toNat).fst.cl == (caseAt i.toNat).snd.cl && ((caseAt i.toNat).fst.vi == (caseAt i.toNat).snd.vi && ((caseAt i.toNat).fst.ho == (caseAt i.toNat).snd.ho && ((caseAt i.toNat).fst.de == (caseAt i.toNat).snd.de && ((caseAt i.toNat).fst.mo == (caseAt i.toNat).snd.mo && ((caseAt i.toNat).fst.cr == (caseAt i.toNat).snd.cr && ((caseAt i.toNat).fst.le == (caseAt i.toNat).snd.le && true)))))))) (cIf (kindV (dvR l (encP (caseAt i.toNat).fst) (encP (caseAt i.toNat).snd)).fst (dvR l (encP (caseAt i.toNat).fst) (encP (caseAt i.toNat).snd)).snd.fst == (0 : Int)) (Q (CR.ret (AV.tup [AV.agg [I (caseAt i.toNat).fst.cl, I (caseAt i.toNat).fst.vi, Bo (caseAt i.toNat).fst.ho, Bo (caseAt i.toNat).fst.de, Bo (caseAt i.toNat).fst.mo, I (caseAt i.toNat).fst.cr, I (caseAt i.toNat).fst.le, I (caseAt i.toNat).snd.cl, I (caseAt i.toNat).snd.vi, Bo (caseAt i.toNat).snd.ho, Bo (caseAt i.toNat).snd.de, Bo (caseAt i.toNat).snd.mo, I (caseAt i.toNat).snd.cr, I (caseAt i.toNat).snd.le, I (0 : Int), I (0 : Int)], Bo true, I (0 : Int)]))) (cIf (noHL 2 ([X, AV.ptr 0 0, AV.ptr 1 0, X, X, X, AV.vs pl 120 Tok.none, I (IntKind.i64.wrap (i + (1 : Int)))] ++ List.replicate 37 X)) (cIf ([some (HB.cells [AV.vs l len Tok.none] 25), some (HB.cells [I (0 : Int), I (0 : Int), Bo false, Bo false, Bo false, I (0 : Int), I (0 : Int), I (0 : Int), I (0 : Int), Bo false, Bo false, Bo false, I (0 : Int), I (0 : Int), I (0 : Int), I (0 : Int)] 61)].all (okBlk 2)) (WLoop (Tryz.X44 pl) (cd PP 44 [1, 1, 1, 1, 0, 1, 0, 0]) ([X, AV.ptr 0 0, AV.ptr 1 0, X, X, X, AV.vs pl 120 Tok.none, I (IntKind.i64.wrap (i + (1 : Int)))] ++ List.replicate 37 X) (St.mk [some (HB.cells [AV.vs l len Tok.none] 25), some (HB.cells [I (0 : Int), I (0 : Int), Bo false, Bo false, Bo false, I (0 : Int), I (0 : Int), I (0 : Int), I (0 : Int), Bo false, Bo false, Bo false, I (0 : Int), I (0 : Int), I (0 : Int), I (0 : Int)] 61)] [] []) (kBlock 0 (kSeq (Tryz.X44 pl) (cd PP 44 [1, 1, 1, 1, 1]) (kRet (Tryz.X44 pl) 44 Q)))) False) False)) (cIf (noHL 2 ([X, AV.ptr 0 0, AV.ptr 1 0, X, X, X, AV.vs pl 120 Tok.none, I (IntKind.i64.wrap (i + (1 : Int)))] ++ List.replicate 37 X)) (cIf ([some (HB.cells [AV.vs l len Tok.none] 25), some (HB.cells [I (0 : Int), I (0 : Int), Bo false, Bo false, Bo false, I (0 : Int), I (0 : Int), I (0 : Int), I (0 : Int), Bo false, Bo false, Bo false, I (0 : Int), I (0 : Int), I (0 : Int), I (0 : Int)] 61)].all (okBlk 2)) (WLoop (Tryz.X44 pl) (cd PP 44 [1, 1, 1, 1, 0, 1, 0, 0]) ([X, AV.ptr 0 0, AV.ptr 1 0, X, X, X, AV.vs pl 120 Tok.none, I (IntKind.i64.wrap (i + (1 : Int)))] ++ List.replicate 37 X) (St.mk [some (HB.cells [AV.vs l len Tok.none] 25), some (HB.cells [I (0 : Int), I (0 : Int), Bo false, Bo false, Bo false, I (0 : Int), I (0 : Int), I (0 : Int), I (0 : Int), Bo false, Bo false, Bo false, I (0 : Int), I (0 : Int), I (0 : Int), I (0 : Int)] 61)] [] []) (kBlock 0 (kSeq (Tryz.X44 pl) (cd PP 44 [1, 1, 1, 1, 1]) (kRet (Tryz.X44 pl) 44 Q)))) False) False)) (Q (CR.ret (AV.tup [AV.agg [I (0 : Int), I (0 : Int), Bo false, Bo false, Bo false, I (0 : Int), I (0 : Int), I (0 : Int), I (0 : Int), Bo false, Bo false, Bo false, I (0 : Int), I (0 : Int), I (0 : Int), I (0 : Int)], Bo false, I (0 : Int)])))) := by kernel_rfl
theorem v43f (l : List AV) (len : Nat) (e : Int) (b : Bool) (ws : List Nat) (Q : CR → Prop) : wpC Tryz.X43 (cd PP 43 [1, 1, 1, 1, 1]) ([X, .ptr 0 0, .ptr 1 0, .ptr 2 0, .ptr 3 0, I e, X, X, X, .agg [.vs l len .none], I e, I e, Bo b, .agg (encW zPr zPr 0 0), I e] ++ List.replicate 21 X) ⟨[some (.cells [.vs l len .none] 25), some (.cells (encW zPr zPr 0 0) 61), some (.cells [Bo false] 4), some (.cells [I e] 26)], [], ws⟩ (kRet Tryz.X43 43 Q) =
  (Q (CR.ret (AV.tup [AV.agg [I (0 : Int), I (0 : Int), Bo false, Bo false, Bo false, I (0 : Int), I (0 : Int), I (0 : Int), I (0 : Int), Bo false, Bo false, Bo false, I (0 : Int), I (0 : Int), I (0 : Int), I (0 : Int)], Bo false, I e]))) := by kernel_rfl
end Go.Proofs
/-! C43 -/
set_option maxRecDepth 100000
set_option linter.unusedVariables false
namespace Go.Proofs
open Go Go.Ev
theorem q43_111010 : cd PP 43 [1, 1, 1, 0, 1, 0] = .rangeFunc (.tmp 17) #[18, 19] (cd PP 43 [1, 1, 1, 0, 1, 0, 0]) (cd PP 43 [1, 1, 1, 0, 1, 0, 1]) := by kernel_rfl
theorem q43_11101 : cd PP 43 [1, 1, 1, 0, 1] = .block 0 (cd PP 43 [1, 1, 1, 0, 1, 0]) := by kernel_rfl
theorem q43_1110 : cd PP 43 [1, 1, 1, 0] = .seq (cd PP 43 [1, 1, 1, 0, 0]) (cd PP 43 [1, 1, 1, 0, 1]) := by kernel_rfl
theorem q43_11110 : cd PP 43 [1, 1, 1, 1, 0] = .region 10 (opsOf (cd PP 43 [1, 1, 1, 1, 0])) false := by kernel_rfl
theorem q43_11111 : cd PP 43 [1, 1, 1, 1, 1] = .ret := by kernel_rfl
theorem q43_1111 : cd PP 43 [1, 1, 1, 1] = .seq (cd PP 43 [1, 1, 1, 1, 0]) (cd PP 43 [1, 1, 1, 1, 1]) := by kernel_rfl
theorem q43_111 : cd PP 43 [1, 1, 1] = .seq (cd PP 43 [1, 1, 1, 0]) (cd PP 43 [1, 1, 1, 1]) := by kernel_rfl
theorem q43_11 : cd PP 43 [1, 1] = .seq (cd PP 43 [1, 1, 0]) (cd PP 43 [1, 1, 1]) := by kernel_rfl
theorem q43_1 : cd PP 43 [1] = .seq (cd PP 43 [1, 0]) (cd PP 43 [1, 1]) := by kernel_rfl
theorem q43_ : cd PP 43 [] = .seq (cd PP 43 [0]) (cd PP 43 [1]) := by kernel_rfl
/-! The first gap. -/
section
attribute [local irreducible] wpC wpF
def Rd43 (rs : List Rul) : Rnd := fun it hs j hs' => ∃ x : Prf × Prf, it = itmP x ∧ hs = hs41 rs zPr zPr 0 0 false ∧ ((isGap rs x = false ∧ j = none ∧ hs' = hs41 rs zPr zPr 0 0 false) ∨ (isGap rs x = true ∧ j = some .ret ∧ hs' = hs41 rs x.1 x.2 0 0 true))
noncomputable abbrev e43 : Env := [X, .ptr 0 0, .ptr 1 0, .ptr 2 0, .ptr 3 0, X, .ptr 4 0, X, X, X, X, X, X, X, X, X, X, .fn (.func 127) [] []] ++ List.replicate 18 X
theorem c43r : Cts Tryz.B [(78, R78)] := (Cts.nil _).cons ct78
theorem o43r : Tryz.X43r.Ones := wcxP_ones Tryz.bok c43r
theorem k43r : CxOk Tryz.X43r.cx := wcxP_ok Tryz.bok c43r
theorem rd43 {rs : List Rul} (hrs : okRs rs) (hsh : ∀ x ∈ rs, shT x.t = true) : RoundOk Tryz.X43r #[18, 19] (cd PP 43 [1, 1, 1, 0, 1, 0, 0]) (cd PP 43 [1, 1, 1, 0, 1, 0, 1]) e43 (Rd43 rs) := by
  rintro it hs j hs' ⟨x, rfl, rfl, h⟩ _
  refine ⟨rfl, ?_⟩
  rw [show setPs e43 (#[18, 19] : Array Tmp).toList (itmP x) = ([X, .ptr 0 0, .ptr 1 0, .ptr 2 0, .ptr 3 0, X, .ptr 4 0, X, X, X, X, X, X, X, X, X, X, .fn (.func 127) [] [], .agg (encP x.1), .agg (encP x.2)] ++ List.replicate 16 X) by kernel_rfl]
  refine (v43g (encRs rs) (encD (rankL rs)) rs.length rs.length x.1 x.2 _).mpr ⟨rfl, ?_⟩
  refine (v43h (encRs rs) (encD (rankL rs)) rs.length rs.length x.1 x.2 _).mpr ?_
  rw [dvP_dec]
  refine cIf_intro (fun hc => ⟨d78 hrs hsh _ _, cIf_intro (fun hk => ?_) (fun hk => ?_)⟩) (fun hc => ?_)
  · have hg : isGap rs x = true := by unfold isGap eqP; rw [hc, hk]; rfl
    rcases h with ⟨h1, _⟩ | ⟨_, rfl, rfl⟩
    · rw [hg] at h1; cases h1
    · exact ⟨fun v h => (by cases h), rfl, (hs41_ok rs x.1 x.2 0 0 true).okBlk, (hs41_ok rs x.1 x.2 0 0 true).st⟩
  · have hg : isGap rs x = false := by unfold isGap eqP; rw [hk, Bool.and_false]
    rcases h with ⟨_, rfl, rfl⟩ | ⟨h1, _⟩
    · exact ⟨fun v h => (by cases h), rfl, (hs41_ok rs zPr zPr 0 0 false).okBlk, (hs41_ok rs zPr zPr 0 0 false).st⟩
    · rw [hg] at h1; cases h1
  · have hg : isGap rs x = false := by unfold isGap eqP; rw [hc, Bool.false_and]
    rcases h with ⟨_, rfl, rfl⟩ | ⟨h1, _⟩
    · exact ⟨fun v h => (by cases h), rfl, (hs41_ok rs zPr zPr 0 0 false).okBlk, (hs41_ok rs zPr zPr 0 0 false).st⟩
    · rw [hg] at h1; cases h1
theorem run43 {rs : List Rul} : (∀ x, csL.find? (isGap rs) = some x → runI 5 (Rd43 rs) itsL (hs41 rs zPr zPr 0 0 false) (some .ret) (hs41 rs x.1 x.2 0 0 true)) ∧ (csL.find? (isGap rs) = none → runI 5 (Rd43 rs) itsL (hs41 rs zPr zPr 0 0 false) none (hs41 rs zPr zPr 0 0 false)) := by
  rw [itsL_eq]
  exact runI_find (isGap rs) (hs41_ok _ _ _ _ _ _) (fun x => hs41_ok _ _ _ _ _ _) (fun x hx => ⟨x, rfl, rfl, .inl ⟨hx, rfl, rfl⟩⟩) (fun x hx => ⟨x, rfl, rfl, .inr ⟨hx, rfl, rfl⟩⟩) csL
theorem c43 : Cts Tryz.B [(27, R27), (79, R79), (85, R85)] := (((Cts.nil _).cons ct85).cons ct79).cons ct27'
theorem o43 : Tryz.X43.Ones := wcx_ones Tryz.bok c43
theorem k43 : CxOk Tryz.X43.cx := wcx_ok Tryz.bok c43
theorem w43 {rs : List Rul} (hw : wfRs rs) : RW Tryz.X43.pc 0 none noY (cd PP 43 []) ([.agg [.vs (encRs rs) rs.length .none]] ++ List.replicate 35 X) St.nil ⟨none, 0⟩ (kRetZ Tryz.X43 43 (gapR rs).ret) := by
  rw [q43_]
  refine RW.seq (RW.of_wpC o43 k43 rfl ?_)
  refine (v43a (encRs rs) rs.length _).mpr ?_
  show RW _ _ _ _ (cd PP 43 [1]) _ _ _ _
  rw [q43_1]
  refine RW.seq (RW.mask' [1, 2, 3, 4] (env' := [X, .ptr 0 0, .ptr 1 0, .ptr 2 0, .ptr 3 0] ++ List.replicate 31 X) (by kernel_rfl) (RW.of_wpC o43 k43 rfl ?_))
  refine (v43b (encRs rs) rs.length _).mpr ⟨⟨rs, rfl, rfl, hw⟩, ?_⟩
  rw [onEnc_eq encRs_inj]
  refine cIf_intro (fun h => ?_) (fun h => ?_)
  · have h : ¬ chk rs = 0 := by simpa using h
    refine ⟨fun v h => (by cases h), ?_⟩
    refine ret_wpC q43_11111 ((v43f (encRs rs) rs.length (chk rs) (chk rs != 0) _ _).mpr ?_)
    unfold gapR
    rw [if_neg h]
    rfl
  · have h : chk rs = 0 := by simpa using h
    obtain ⟨hrs, hsh, _⟩ := chk_ok hw h
    show RW _ _ _ _ (cd PP 43 [1, 1]) _ _ _ _
    rw [q43_11]
    refine RW.seq (RW.mask' [1, 2, 3, 4] (env' := [X, .ptr 0 0, .ptr 1 0, .ptr 2 0, .ptr 3 0] ++ List.replicate 31 X) (by kernel_rfl) (RW.of_wpC o43 k43 rfl ?_))
    refine (v43c (encRs rs) rs.length _).mpr ⟨⟨rs, rfl, rfl, hrs⟩, ?_⟩
    rw [onEnc_eq encRs_inj]
    show RW _ _ _ _ (cd PP 43 [1, 1, 1]) _ _ _ _
    rw [q43_111, q43_1110]
    refine RW.seq (RW.seq (RW.mask' [1, 2, 3, 4, 6] (env' := [X, .ptr 0 0, .ptr 1 0, .ptr 2 0, .ptr 3 0, X, .ptr 4 0] ++ List.replicate 29 X) (by kernel_rfl) (RW.wl (RW.of_wpC o43 k43 rfl ?_))))
    refine (v43d (encRs rs) (encD (rankL rs)) rs.length rs.length _).mpr ⟨trivial, ?_⟩
    show RW _ _ _ _ (cd PP 43 [1, 1, 1, 0, 1]) _ _ _ _
    rw [q43_11101, q43_111010]
    refine RW.block ?_
    have hr := run43 (rs := rs)
    cases hx : csL.find? (isGap rs) with
    | none =>
      have hcl : (gapR rs).ret = zWit.ret := by unfold gapR; rw [if_pos h, hx]; rfl
      rw [hcl]
      refine RW.range (C := Tryz.X43r) (hs := hs41 rs zPr zPr 0 0 false) (m := 0) o43r k43r (fun g l h => Tryz.gtpB g l h) rfl rfl (by kernel_rfl) (by kernel_rfl) rfl (SeqOk.congr (C := (yX5).pc) (D := Tryz.X43r.cx) rfl rfl sq127_5) (rd43 hrs hsh) (hs41_ok _ _ _ _ _ _) (by kernel_rfl) (by kernel_rfl) (hr.2 hx) ?_
      show RW _ _ _ _ (cd PP 43 [1, 1, 1, 1]) _ _ _ _
      rw [q43_1111, q43_11110]
      refine RW.seq (RW.cxpc (RW.region o43 k43 ?_))
      rw [← q43_11110]
      refine (v43z (encRs rs) (encD (rankL rs)) rs.length rs.length _).mpr ?_
      show RW _ _ _ _ (cd PP 43 [1, 1, 1, 1, 1]) _ _ _ _
      rw [q43_11111]
      refine RW.ret ⟨fun v h => (by cases h), ?_⟩
      exact ret_wpC q43_11111 ((v43e (encRs rs) (encD (rankL rs)) rs.length rs.length zPr zPr 0 0 0 false (.agg (encW zPr zPr 0 0)) _ _).mpr rfl)
    | some x =>
      have hcl : (gapR rs).ret = (Wit.mk x.1 x.2 0 0 true 0).ret := by unfold gapR; rw [if_pos h, hx]; rfl
      rw [hcl]
      refine RW.range (C := Tryz.X43r) (hs := hs41 rs zPr zPr 0 0 false) (m := 0) o43r k43r (fun g l h => Tryz.gtpB g l h) rfl rfl (by kernel_rfl) (by kernel_rfl) rfl (SeqOk.congr (C := (yX5).pc) (D := Tryz.X43r.cx) rfl rfl sq127_5) (rd43 hrs hsh) (hs41_ok _ _ _ _ _ _) (by kernel_rfl) (by kernel_rfl) (hr.1 x hx) ?_
      exact ⟨fun v h => (by cases h), ret_wpC q43_11111 ((v43e (encRs rs) (encD (rankL rs)) rs.length rs.length x.1 x.2 0 0 0 true X _ _).mpr rfl)⟩
theorem ct43 : Ct Tryz.B.c0 43 R43 where
  body := ⟨_, _, Tryz.func43, rfl⟩
  ok := fun args D r hR hD => by
    unfold R43 at hR
    split at hR <;> cases hR
    obtain ⟨rs, rfl, rfl, hw⟩ := hD
    refine ⟨by simp [noHL, noH, noH_encRs], ?_⟩
    rw [show scrubL 0 [AV.agg [.vs (encRs rs) rs.length .none]] = [AV.agg [.vs (encRs rs) rs.length .none]] by simp [scrubL, scrub, sc_encRs, Tok.scrub], onEnc_eq encRs_inj]
    have := CallOk.of_RW (C := Tryz.X43) (g := 43) (args := [AV.agg [.vs (encRs rs) rs.length .none]]) (fn := Tryz.f43) (c := cd PP 43 []) k43 Tryz.func43 (by kernel_rfl) (RW.congr (C := Tryz.X43.pc) (D := Tryz.X43.cx) rfl rfl (w43 hw))
    exact fun G w us h1 h2 h3 => this G w us h1 h2 h3
end
/-! The reference's first clash. -/
theorem c44 : Cts Tryz.B [(54, RPl yP), (70, R70), (83, R83), (86, R86)] := ((((Cts.nil _).cons ct86).cons ct83).cons ct70).cons ct54
section
attribute [local irreducible] csL caseAt
variable {rs : List Rul} (hrs : okRs rs) {Q : CR → Prop}
include hrs
theorem l44 : ∀ (d i : Nat), 129600 - i = d → i ≤ 129600 → Q (foundW ((csL.drop i).find? (isGap rs)) (fun _ => 0) (fun _ => 0)).ret →
    WLoop (Tryz.X44 yP) (cd PP 44 [1, 1, 1, 1, 0, 1, 0, 0]) ([X, .ptr 0 0, .ptr 1 0, X, X, X, .vs yP 120 .none, I i] ++ List.replicate 37 X) ⟨[some (.cells [.vs (encRs rs) rs.length .none] 25), some (.cells (encW zPr zPr 0 0) 61)], [], []⟩ (kBlock 0 (kSeq (Tryz.X44 yP) (cd PP 44 [1, 1, 1, 1, 1]) (kRet (Tryz.X44 yP) 44 Q))) := by
  intro d
  induction d with
  | zero =>
    intro i hd hi hQ
    have hi' : i = 129600 := by omega
    subst hi'
    rw [List.drop_eq_nil_of_le (by rw [csL_len]; omega)] at hQ
    refine WLoop_unroll (C := Tryz.X44 yP) (wcx_ones Tryz.bok c44) (wcx_ok Tryz.bok c44) ?_
    rw [v44l]
    have hc1 : decide (((129600 : Nat) : Int) < (129600 : Int)) = false := decide_eq_false (by omega)
    rw [hc1, cIf_false]
    exact hQ
  | succ d ih =>
    intro i hd hi hQ
    have hlt : i < 129600 := by omega
    have hc := csL_drop hlt
    rw [hc, List.find?_cons] at hQ
    refine WLoop_unroll (C := Tryz.X44 yP) (wcx_ones Tryz.bok c44) (wcx_ok Tryz.bok c44) ?_
    rw [v44l, Int.toNat_natCast, dvR_eq, ← decV_1 hrs, ← decV_2 hrs]
    have hc1 : decide ((i : Int) < (129600 : Int)) = true := decide_eq_true (by omega)
    rw [hc1, cIf_true]
    have next : isGap rs (caseAt i) = false → cIf (noHL 2 ([X, AV.ptr 0 0, AV.ptr 1 0, X, X, X, AV.vs yP 120 Tok.none, I (IntKind.i64.wrap ((i : Int) + (1 : Int)))] ++ List.replicate 37 X)) (cIf ([some (HB.cells [AV.vs (encRs rs) rs.length Tok.none] 25), some (HB.cells (encW zPr zPr 0 0) 61)].all (okBlk 2)) (WLoop (Tryz.X44 yP) (cd PP 44 [1, 1, 1, 1, 0, 1, 0, 0]) ([X, AV.ptr 0 0, AV.ptr 1 0, X, X, X, AV.vs yP 120 Tok.none, I (IntKind.i64.wrap ((i : Int) + (1 : Int)))] ++ List.replicate 37 X) (St.mk [some (HB.cells [AV.vs (encRs rs) rs.length Tok.none] 25), some (HB.cells (encW zPr zPr 0 0) 61)] [] []) (kBlock 0 (kSeq (Tryz.X44 yP) (cd PP 44 [1, 1, 1, 1, 1]) (kRet (Tryz.X44 yP) 44 Q)))) False) False := by
      intro h
      rw [h] at hQ
      rw [wrap_id (x := (i : Int) + 1) (by omega) (by omega)]
      exact cIf_pos (by simp [noHL, noH, noHL_append, noHL_rep, noH_encPs]) (cIf_pos (by simp [okBlk, noHB, noHL, noH, noH_encRs, encW]) (ih (i + 1) (by omega) (by omega) hQ))
    refine ⟨⟨rfl, rfl, by omega, by omega⟩, ⟨⟨rs, rfl, rfl, hrs⟩, ⟨(caseAt i).1, rfl⟩, (caseAt i).2, rfl⟩, cIf_intro (fun hc => cIf_intro (fun hk => ?_) (fun hk => ?_)) (fun hc => ?_)⟩
    · have hg : isGap rs (caseAt i) = true := by unfold isGap eqP; rw [hc, hk]; rfl
      rw [hg] at hQ
      have hQ2 : Q (Wit.mk (caseAt i).1 (caseAt i).2 0 0 true 0).ret := hQ
      generalize caseAt i = x at hQ2 ⊢
      exact hQ2
    · exact next (by unfold isGap eqP; rw [hk, Bool.and_false])
    · exact next (by unfold isGap eqP; rw [hc, Bool.false_and])
end
theorem ct44 : Ct Tryz.B.c0 44 R43 := Ct.of_wp (l := [(54, RPl yP), (70, R70), (83, R83), (86, R86)]) (lm := lm42) (tp := []) (ct := []) (sm := [(6, 2)]) Tryz.bok c44 ⟨_, _, Tryz.func44, rfl⟩ fun args D r hR hD => by
  unfold R43 at hR
  split at hR <;> cases hR
  obtain ⟨rs, rfl, rfl, hw⟩ := hD
  refine ⟨by simp [noHL, noH, noH_encRs], ?_⟩
  rw [show scrubL 0 [AV.agg [.vs (encRs rs) rs.length .none]] = [AV.agg [.vs (encRs rs) rs.length .none]] by simp [scrubL, scrub, sc_encRs, Tok.scrub], onEnc_eq encRs_inj]
  show wpF (Tryz.X44 yP) 44 _ _
  rw [v44, onEnc_eq encRs_inj]
  refine ⟨⟨rs, rfl, rfl, hw⟩, cIf_intro (fun h => ?_) (fun h => ?_)⟩
  · have h : ¬ chk rs = 0 := by simpa using h
    unfold gapR
    rw [if_neg h]
    rfl
  · have h : chk rs = 0 := by simpa using h
    obtain ⟨hrs, _⟩ := chk_ok hw h
    refine ⟨trivial, cIf_pos (by simp [noHL, noH, noHL_append, noHL_rep, noH_encPs]) (cIf_pos (by simp [okBlk, noHB, noHL, noH, noH_encRs, encW]) (l44 hrs 129600 0 (by omega) (by omega) ?_))⟩
    unfold gapR
    rw [if_pos h]
    rfl
end Go.Proofs
