/- Contracts of functions of the program and of the reference. -/
import Derived.Test.YtdpfgjljehajbaaGreatDoorK4
import Derived.Test.YtdpfgjljehajbaaGreatDoorK5
set_option linter.unusedVariables false
set_option linter.unusedSimpArgs false
/-! VTS -/
set_option maxRecDepth 100000
set_option linter.unusedVariables false
set_option linter.unusedSimpArgs false
namespace Go.Proofs
open Go Go.Ev
noncomputable def joinR (a b : List AV) : List Trn := onEnc (encL encT) (fun x => onEnc (encL encT) (fun y => joinL x y) [] b) [] a
noncomputable def joinX (a b : List AV) : Int := onEnc (encL encT) (fun x => onEnc (encL encT) (fun y => joinE x y) 0 b) 0 a
noncomputable def R68 : Spc := fun args => match args with
  | [.vs a n .none, .vs b m .none] => some (∃ x y, a = encL encT x ∧ n = x.length ∧ b = encL encT y ∧ m = y.length ∧ x.length ≤ 1000000 ∧ y.length ≤ 1000000, .ret (.tup [.vs (encL encT (joinR a b)) (joinR a b).length .none, I (joinX a b)]))
  | _ => none
def lm68 : List (Nat × List Nat) := []
noncomputable def Tryz.X68 : WCx := Tryz.B.wcx [(125, R125), (135, R135)] lm68 [] [] []
theorem v68 (a b : List AV) (n m : Nat) (Q : CR → Prop) : wpF Tryz.X68 68 [.vs a n .none, .vs b m .none] Q =
  ((∃ (x : List Trn), a = encL encT x ∧ n = x.length ∧ x.length ≤ 1000000) ∧ cIf (!onEnc (encL encT) nrmB false a) (Q (CR.ret (AV.tup [AV.vs [] 0 Tok.zero, I (1 : Int)]))) ((∃ (x : List Trn), b = encL encT x ∧ m = x.length ∧ x.length ≤ 1000000) ∧ cIf (!onEnc (encL encT) nrmB false b) (Q (CR.ret (AV.tup [AV.vs [] 0 Tok.zero, I (1 : Int)]))) (cIf (decide ((0 : Int) ≤ IntKind.i64.wrap ((↑n : Int) - (1 : Int)))) (cIf (decide ((IntKind.i64.wrap ((↑n : Int) - (1 : Int))).toNat < n)) (cIf (decide (n * 3 = a.length)) (cIf (decide (0 < (List.drop ((IntKind.i64.wrap ((↑n : Int) - (1 : Int))).toNat * 3) a).length)) (cIf (likeOk (AV.ofVal (Value.int IntKind.i64 (0 : Int))) ((List.drop ((IntKind.i64.wrap ((↑n : Int) - (1 : Int))).toNat * 3) a).getD 0 X)) (cIf (decide (0 < m)) (cIf (decide (m * 3 = b.length)) (cIf (decide (0 < b.length)) (cIf (likeOk (AV.ofVal (Value.int IntKind.i64 (0 : Int))) (b.getD 0 X)) (cIf (decide (cI (List.drop ((IntKind.i64.wrap ((↑n : Int) - (1 : Int))).toNat * 3) a) 0 ≥ cI b 0)) (Q (CR.ret (AV.tup [AV.vs [] 0 Tok.zero, I (7 : Int)]))) (cIf (decide ((0 : Int) ≤ IntKind.i64.wrap ((↑n : Int) - (1 : Int)))) (cIf (decide ((IntKind.i64.wrap ((↑n : Int) - (1 : Int))).toNat < n)) (cIf (decide (n * 3 = a.length)) (cIf (decide (2 ≤ (List.drop 1 (List.drop ((IntKind.i64.wrap ((↑n : Int) - (1 : Int))).toNat * 3) a)).length)) (cIf (like [I (0 : Int), Bo false] (el (List.drop 1 (List.drop ((IntKind.i64.wrap ((↑n : Int) - (1 : Int))).toNat * 3) a)) 0 2)) (cIf (decide (0 < m)) (cIf (decide (m * 3 = b.length)) (cIf (decide (2 ≤ (List.drop 1 b).length)) (cIf (like [I (0 : Int), Bo false] (el (List.drop 1 b) 0 2)) (cIf (cI (el (List.drop 1 (List.drop ((IntKind.i64.wrap ((↑n : Int) - (1 : Int))).toNat * 3) a)) 0 2) 0 == cI (el (List.drop 1 b) 0 2) 0 && (cB (el (List.drop 1 (List.drop ((IntKind.i64.wrap ((↑n : Int) - (1 : Int))).toNat * 3) a)) 0 2) 1 == cB (el (List.drop 1 b) 0 2) 1 && true)) (cIf (decide (1 ≤ m)) (cIf (decide (m ≤ m)) ((a.length = n * 3 ∧ (List.take ((m - 1) * 3) (List.drop 3 b)).length = (m - 1) * 3 ∧ a.all AV.one = true ∧ (List.take ((m - 1) * 3) (List.drop 3 b)).all AV.one = true ∧ 0 < n ∧ n ≤ 1000000 ∧ m - 1 ≤ 1000000 ∧ noHL 0 a = true ∧ noHL 0 (List.take ((m - 1) * 3) (List.drop 3 b)) = true ∧ scrubL 0 a = a ∧ scrubL 0 (List.take ((m - 1) * 3) (List.drop 3 b)) = List.take ((m - 1) * 3) (List.drop 3 b) ∧ zapL a = a ∧ zapL (List.take ((m - 1) * 3) (List.drop 3 b)) = List.take ((m - 1) * 3) (List.drop 3 b)) ∧ kRet Tryz.X68 68 Q EX.ret [AV.vs a n Tok.none, AV.vs (List.take ((m - 1) * 3) (List.drop 3 b)) (m - 1) Tok.none, X, X, AV.vs (a ++ List.take ((m - 1) * 3) (List.drop 3 b)) (n + (m - 1)) Tok.none, I (0 : Int), Bo !onEnc (encL encT) nrmB false b, AV.vs a n Tok.none, Bo (onEnc (encL encT) nrmB false a), Bo !onEnc (encL encT) nrmB false a, Bo false, AV.vs b m Tok.none, Bo (onEnc (encL encT) nrmB false b), Bo !onEnc (encL encT) nrmB false b, Bo !onEnc (encL encT) nrmB false b, Bo (decide (cI (List.drop ((IntKind.i64.wrap ((↑n : Int) - (1 : Int))).toNat * 3) a) 0 ≥ cI b 0)), AV.vs a n Tok.none, AV.vs a n Tok.none, I (↑n : Int), I (IntKind.i64.wrap ((↑n : Int) - (1 : Int))), AV.vp (List.drop ((IntKind.i64.wrap ((↑n : Int) - (1 : Int))).toNat * 3) a), AV.vp (List.drop ((IntKind.i64.wrap ((↑n : Int) - (1 : Int))).toNat * 3) a), I (cI (List.drop ((IntKind.i64.wrap ((↑n : Int) - (1 : Int))).toNat * 3) a) 0), AV.vs b m Tok.none, AV.vp b, AV.vp b, I (cI b 0), Bo (decide (cI (List.drop ((IntKind.i64.wrap ((↑n : Int) - (1 : Int))).toNat * 3) a) 0 ≥ cI b 0)), AV.vs a n Tok.none, AV.vs a n Tok.none, I (↑n : Int), I (IntKind.i64.wrap ((↑n : Int) - (1 : Int))), AV.vp (List.drop ((IntKind.i64.wrap ((↑n : Int) - (1 : Int))).toNat * 3) a), AV.vp (List.drop 1 (List.drop ((IntKind.i64.wrap ((↑n : Int) - (1 : Int))).toNat * 3) a)), AV.agg [AV.int IntKind.i64 (cI (el (List.drop 1 (List.drop ((IntKind.i64.wrap ((↑n : Int) - (1 : Int))).toNat * 3) a)) 0 2) 0), AV.bool (cB (el (List.drop 1 (List.drop ((IntKind.i64.wrap ((↑n : Int) - (1 : Int))).toNat * 3) a)) 0 2) 1)], AV.vs b m Tok.none, AV.vp b, AV.vp (List.drop 1 b), AV.agg [I (cI (el (List.drop 1 b) 0 2) 0), Bo (cB (el (List.drop 1 b) 0 2) 1)], AV.bool (cI (el (List.drop 1 (List.drop ((IntKind.i64.wrap ((↑n : Int) - (1 : Int))).toNat * 3) a)) 0 2) 0 == cI (el (List.drop 1 b) 0 2) 0 && (cB (el (List.drop 1 (List.drop ((IntKind.i64.wrap ((↑n : Int) - (1 : Int))).toNat * 3) a)) 0 2) 1 == cB (el (List.drop 1 b) 0 2) 1 && true)), AV.vs b m Tok.none, AV.vs (List.take ((m - 1) * 3) (List.drop 3 b)) (m - 1) Tok.none, AV.vs a n Tok.none, AV.vs (List.take ((m - 1) * 3) (List.drop 3 b)) (m - 1) Tok.none, AV.vs [AV.vs a n Tok.none, AV.vs (List.take ((m - 1) * 3) (List.drop 3 b)) (m - 1) Tok.none] 2 (Tok.own 0), AV.vs (a ++ List.take ((m - 1) * 3) (List.drop 3 b)) (n + (m - 1)) Tok.none] (St.mk [] [(2, 1, 67)] [])) False) False) ((a.length = n * 3 ∧ b.length = m * 3 ∧ a.all AV.one = true ∧ b.all AV.one = true ∧ 0 < n ∧ n ≤ 1000000 ∧ m ≤ 1000000 ∧ noHL 0 a = true ∧ noHL 0 b = true ∧ scrubL 0 a = a ∧ scrubL 0 b = b ∧ zapL a = a ∧ zapL b = b) ∧ kRet Tryz.X68 68 Q EX.ret [AV.vs a n Tok.none, AV.vs b m Tok.none, X, X, AV.vs (a ++ b) (n + m) Tok.none, I (0 : Int), Bo !onEnc (encL encT) nrmB false b, AV.vs a n Tok.none, Bo (onEnc (encL encT) nrmB false a), Bo !onEnc (encL encT) nrmB false a, Bo false, AV.vs b m Tok.none, Bo (onEnc (encL encT) nrmB false b), Bo !onEnc (encL encT) nrmB false b, Bo !onEnc (encL encT) nrmB false b, Bo (decide (cI (List.drop ((IntKind.i64.wrap ((↑n : Int) - (1 : Int))).toNat * 3) a) 0 ≥ cI b 0)), AV.vs a n Tok.none, AV.vs a n Tok.none, I (↑n : Int), I (IntKind.i64.wrap ((↑n : Int) - (1 : Int))), AV.vp (List.drop ((IntKind.i64.wrap ((↑n : Int) - (1 : Int))).toNat * 3) a), AV.vp (List.drop ((IntKind.i64.wrap ((↑n : Int) - (1 : Int))).toNat * 3) a), I (cI (List.drop ((IntKind.i64.wrap ((↑n : Int) - (1 : Int))).toNat * 3) a) 0), AV.vs b m Tok.none, AV.vp b, AV.vp b, I (cI b 0), Bo (decide (cI (List.drop ((IntKind.i64.wrap ((↑n : Int) - (1 : Int))).toNat * 3) a) 0 ≥ cI b 0)), AV.vs a n Tok.none, AV.vs a n Tok.none, I (↑n : Int), I (IntKind.i64.wrap ((↑n : Int) - (1 : Int))), AV.vp (List.drop ((IntKind.i64.wrap ((↑n : Int) - (1 : Int))).toNat * 3) a), AV.vp (List.drop 1 (List.drop ((IntKind.i64.wrap ((↑n : Int) - (1 : Int))).toNat * 3) a)), AV.agg [AV.int IntKind.i64 (cI (el (List.drop 1 (List.drop ((IntKind.i64.wrap ((↑n : Int) - (1 : Int))).toNat * 3) a)) 0 2) 0), AV.bool (cB (el (List.drop 1 (List.drop ((IntKind.i64.wrap ((↑n : Int) - (1 : Int))).toNat * 3) a)) 0 2) 1)], AV.vs b m Tok.none, AV.vp b, AV.vp (List.drop 1 b), AV.agg [I (cI (el (List.drop 1 b) 0 2) 0), Bo (cB (el (List.drop 1 b) 0 2) 1)], AV.bool (cI (el (List.drop 1 (List.drop ((IntKind.i64.wrap ((↑n : Int) - (1 : Int))).toNat * 3) a)) 0 2) 0 == cI (el (List.drop 1 b) 0 2) 0 && (cB (el (List.drop 1 (List.drop ((IntKind.i64.wrap ((↑n : Int) - (1 : Int))).toNat * 3) a)) 0 2) 1 == cB (el (List.drop 1 b) 0 2) 1 && true)), X, X, AV.vs a n Tok.none, AV.vs b m Tok.none, AV.vs [AV.vs a n Tok.none, AV.vs b m Tok.none] 2 (Tok.own 0), AV.vs (a ++ b) (n + m) Tok.none] (St.mk [] [(2, 1, 67)] []))) False) False) False) False) False) False) False) False) False)) False) False) False) False) False) False) False) False) False))) := by kernel_rfl
end Go.Proofs
/-! TS -/
set_option maxRecDepth 100000
set_option linter.unusedVariables false
set_option linter.unusedSimpArgs false
namespace Go.Ev
theorem zapT (l : List Trn) : zapL (encL encT l) = encL encT l := by
  induction l with
  | nil => rfl
  | cons x l ih => rw [encL, zapL_app, ih]; rfl
theorem kRet_vs {C : WCx} {g : FuncId} {fn : Func} {Q : CR → Prop} {env : Env} {s : St} {l : List AV} {n : Nat} {t : Tok} {e : Int} (hfn : C.P.funcs[g]? = some fn) (hres : resultsA C.pc fn env s = some (.tup [.vs l n t, I e])) (hn : noHL 0 l = true) (hs : scrubL 0 l = l) (hq : ∀ t', Q (.ret (.tup [.vs l n t', I e]))) : kRet C g Q EX.ret env s := by
  unfold kRet
  rw [hfn]
  simp only
  rw [hres]
  show optW (pub C.pc s.hs 0 (.tup [.vs l n t, I e])) _
  have e1 : pub C.pc s.hs 0 (.tup [.vs l n t, I e]) = some (.tup [.vs l n t, I e]) := by simp [pub, pubL, noH, hn]
  rw [e1]
  show Q _
  have e2 : scrub 0 (.tup [.vs l n t, I e]) = .tup [.vs l n (t.scrub 0), I e] := by simp [scrub, scrubL, hs]
  rw [e2]
  exact hq _
theorem joinE_bd {a b : List Trn} (ha : nrmB a = true) (hb : nrmB b = true) : joinE a b = if (a.getD (a.length - 1) zTrn).at' ≥ (b.getD 0 zTrn).at' then 7 else 0 := by
  unfold joinE; rw [ha, hb]; rfl
end Go.Ev
namespace Go.Proofs
open Go Go.Ev
attribute [local irreducible] wpF wpC cd
theorem joinR_eq (x y : List Trn) : joinR (encL encT x) (encL encT y) = joinL x y := by
  unfold joinR; rw [eT.on (by decide), eT.on (by decide)]
theorem joinX_eq (x y : List Trn) : joinX (encL encT x) (encL encT y) = joinE x y := by
  unfold joinX; rw [eT.on (by decide), eT.on (by decide)]
section
variable {xs ys : List Trn} (hl : xs.length ≤ 10000000) (he : xs.length = ys.length)
include hl he
end
/-! ### Join -/
section
variable {xs ys : List Trn} (hx1 : xs.length ≤ 1000000) (hy1 : ys.length ≤ 1000000)
include hx1 hy1
/-- What is asked of the last turn and the first one. -/
theorem join_reads (hpx : 0 < xs.length) (hpy : 0 < ys.length) : ∃ p q, xs[xs.length - 1]? = some p ∧ ys[0]? = some q ∧ xs.getD (xs.length - 1) zTrn = p ∧ ys.getD 0 zTrn = q ∧ IntKind.i64.wrap ((xs.length : Int) - 1) = ((xs.length - 1 : Nat) : Int) ∧ xs.length - 1 < xs.length ∧
    decide (0 < (encL encT ys).length) = true ∧ likeOk (AV.ofVal (Value.int IntKind.i64 (0 : Int))) ((encL encT ys).getD 0 X) = true ∧ cI (encL encT ys) 0 = q.at' ∧ decide (2 ≤ (List.drop 1 (encL encT ys)).length) = true ∧ el (List.drop 1 (encL encT ys)) 0 2 = [I q.fl, Bo q.ho] := by
  obtain ⟨q, hq, _⟩ := drop_cons hpy
  have hl1 : xs.length - 1 < xs.length := by omega
  obtain ⟨p, hp, _⟩ := drop_cons hl1
  have z0 : encL encT ys = List.drop (0 * 3) (encL encT ys) := rfl
  refine ⟨p, q, hp, hq, getD_of hp, getD_of hq, ?_, hl1, dt (by rw [eT.lenL]; omega), by rw [z0, eT.ld0 hq (by decide)]; rfl, by rw [z0, eT.cI0 hq (by decide)]; rfl, ?_, ?_⟩
  · rw [wrap_id (by omega) (by omega)]; omega
  · rw [z0]; exact eT.gfn hpy 1 2 (by decide)
  · rw [z0]; exact T_el1 hq
end

theorem join_no1 {a b : List Trn} (h : nrmB a = false) : joinE a b = 1 ∧ joinL a b = [] := by
  have : joinE a b = 1 := by unfold joinE; rw [h]; rfl
  exact ⟨this, by unfold joinL; rw [if_neg (by rw [this]; decide)]⟩
theorem join_no2 {a b : List Trn} (h : nrmB b = false) : joinE a b = 1 ∧ joinL a b = [] := by
  have : joinE a b = 1 := by unfold joinE; rw [h, Bool.and_false]; rfl
  exact ⟨this, by unfold joinL; rw [if_neg (by rw [this]; decide)]⟩
theorem join_no3 {a b : List Trn} {p q : Trn} (ha : nrmB a = true) (hb : nrmB b = true) (hp : a.getD (a.length - 1) zTrn = p) (hq : b.getD 0 zTrn = q) (h : p.at' ≥ q.at') : joinE a b = 7 ∧ joinL a b = [] := by
  have : joinE a b = 7 := by rw [joinE_bd ha hb, hp, hq, if_pos h]
  exact ⟨this, by unfold joinL; rw [if_neg (by rw [this]; decide)]⟩
theorem join_yes {a b : List Trn} {p q : Trn} (ha : nrmB a = true) (hb : nrmB b = true) (hp : a.getD (a.length - 1) zTrn = p) (hq : b.getD 0 zTrn = q) (h : ¬ p.at' ≥ q.at') : joinE a b = 0 ∧ joinL a b = if sameS p q then a ++ b.drop 1 else a ++ b := by
  have : joinE a b = 0 := by rw [joinE_bd ha hb, hp, hq, if_neg h]
  exact ⟨this, by unfold joinL; rw [if_pos this, hp, hq]⟩
theorem sameS_beq (p q : Trn) : (p.fl == q.fl && p.ho == q.ho) = sameS p q := by
  unfold sameS
  rw [Bool.eq_iff_iff]; simp
theorem drop1_enc (ys : List Trn) : List.take ((ys.length - 1) * 3) (List.drop 3 (encL encT ys)) = encL encT (ys.drop 1) := by
  have h := eT.dropL ys 1
  rw [Nat.one_mul] at h
  rw [h, List.take_of_length_le]
  rw [eT.lenL, List.length_drop]
  exact Nat.le_refl _
theorem nrmB_pos {l : List Trn} (h : nrmB l = true) : 0 < l.length := by
  unfold nrmB at h; simp only [Bool.and_eq_true, decide_eq_true_eq] at h; exact h.2
theorem ct68 : Ct Tryz.B.c0 68 R68 := Ct.of_wpZ (l := [(125, R125), (135, R135)]) (lm := lm68) (tp := []) (ct := []) (sm := []) Tryz.bok (((Cts.nil _).cons (ct135 : Ct Tryz.B.c0 135 R135)).cons ct125) ⟨_, _, Tryz.func68, rfl⟩ fun args D r hR hD => by
  unfold R68 at hR
  split at hR <;> cases hR
  rename_i a n b m
  obtain ⟨xs, ys, rfl, rfl, rfl, rfl, hx1, hy1⟩ := hD
  refine ⟨by simp [noHL, noH, eT.noHL'], ?_⟩
  rw [show scrubL 0 [AV.vs (encL encT xs) xs.length .none, AV.vs (encL encT ys) ys.length .none] = [.vs (encL encT xs) xs.length .none, .vs (encL encT ys) ys.length .none] by simp [scrubL, scrub, eT.scL, Tok.scrub], joinR_eq, joinX_eq]
  show wpF Tryz.X68 68 _ _
  rw [v68]
  refine ⟨⟨xs, rfl, rfl, hx1⟩, ?_⟩
  rw [eT.on (by decide), eT.on (by decide)]
  refine cIf_intro (fun h => ?_) (fun h => ⟨⟨ys, rfl, rfl, hy1⟩, cIf_intro (fun h2 => ?_) (fun h2 => ?_)⟩)
  · obtain ⟨e1, e2⟩ := join_no1 (b := ys) (by simpa using h)
    rw [e1, e2]; rfl
  · obtain ⟨e1, e2⟩ := join_no2 (a := xs) (by simpa using h2)
    rw [e1, e2]; rfl
  · have h : nrmB xs = true := by simpa using h
    have h2 : nrmB ys = true := by simpa using h2
    have hpx := nrmB_pos h
    have hpy := nrmB_pos h2
    obtain ⟨p, q, hp, hq, gp, gq, w1, hl1, g1, g2, g3, g4, g5⟩ := join_reads hx1 hy1 hpx hpy
    simp only [w1, dt (Int.natCast_nonneg (xs.length - 1)), Int.toNat_natCast, dt hl1, eT.gl, eT.gd hl1, eT.g0 hl1 (by decide), eT.el hp, eT.ld0 hp (by decide), T_like, eT.cI0 hp (by decide), T_lk0, T_c0, eT.gf hl1 1 (by decide), eT.ld hp 1 (by decide), eT.cI hp 1 (by decide), T_lk1, T_c1, eT.gf hl1 2 (by decide), eT.ld hp 2 (by decide), eT.cB hp 2 (by decide), T_lk2, T_c2, eT.gfn hl1 1 2 (by decide), T_el1 hp, H_like, H_c0, H_c1, dt hpy, g1, g2, g3, g4, g5, cIf_true, drop1_enc, Bool.and_true, sameS_beq]
    refine cIf_intro (fun h3 => ?_) (fun h3 => ?_)
    · obtain ⟨e1, e2⟩ := join_no3 h h2 gp gq (of_decide_eq_true h3)
      rw [e1, e2]; rfl
    · obtain ⟨e1, e2⟩ := join_yes h h2 gp gq (of_decide_eq_false h3)
      refine cIf_intro (fun h4 => cIf_pos (dt (by omega)) (cIf_pos (dt (Nat.le_refl _)) ⟨⟨eT.lenL xs, by rw [eT.lenL, List.length_drop], eT.oneL xs, eT.oneL _, hpx, hx1, by omega, eT.noHL' 0 xs, eT.noHL' 0 _, eT.scL 0 xs, eT.scL 0 _, zapT xs, zapT _⟩, ?_⟩)) (fun h4 => ⟨⟨eT.lenL xs, eT.lenL ys, eT.oneL xs, eT.oneL _, hpx, hx1, hy1, eT.noHL' 0 xs, eT.noHL' 0 _, eT.scL 0 xs, eT.scL 0 _, zapT xs, zapT _⟩, ?_⟩)
      · rw [h4, if_pos rfl] at e2
        rw [e1, e2, ← encL_app]
        refine kRet_vs (C := Tryz.X68) (fn := Tryz.f68) Tryz.func68 rfl (eT.noHL' 0 _) (eT.scL 0 _) fun t' => ?_
        show CR.ret (AV.tup [AV.vs (zapL _) _ .none, I 0]) = _
        rw [zapT, List.length_append, List.length_drop]
      · rw [h4, if_neg (by decide)] at e2
        rw [e1, e2, ← encL_app]
        refine kRet_vs (C := Tryz.X68) (fn := Tryz.f68) Tryz.func68 rfl (eT.noHL' 0 _) (eT.scL 0 _) fun t' => ?_
        show CR.ret (AV.tup [AV.vs (zapL _) _ .none, I 0]) = _
        rw [zapT, List.length_append]

section
variable {xs ys : List Trn} (hx1 : xs.length ≤ 1000000) (hy1 : ys.length ≤ 1000000) (hpx : 0 < xs.length) (hpy : 0 < ys.length) {p q : Trn} (hp : xs.getD (xs.length - 1) zTrn = p) (hq : ys.getD 0 zTrn = q)
include hx1 hy1 hpx hpy hp hq
end
theorem joinL_len (x y : List Trn) : (joinL x y).length ≤ x.length + y.length := by
  unfold joinL
  split
  · split
    · rw [List.length_append, List.length_drop]; omega
    · rw [List.length_append]; exact Nat.le_refl _
  · simp
end Go.Proofs
