/- Contracts of functions of the program and of the reference. -/
import Derived.Test.YtljjkomdibkjpaaGreatDoorK9
import Derived.Test.YtljjkomdibkjpaaGreatDoorAliveZ
set_option linter.unusedVariables false
set_option linter.unusedSimpArgs false
/-! VC21 -/
set_option maxRecDepth 100000
set_option linter.unusedVariables false
namespace Go.Proofs
open Go Go.Ev
def R20 : Spc := fun args => match args with
  | [] => some (True, rB true)
  | _ => none
def sgnI (a b : Int) : Int := if a < b then -1 else if a > b then 1 else 0
def R29 : Spc := fun args => match args with
  | [.int .i64 a, .int .i64 b] => some (True, rI (sgnI a b))
  | _ => none
noncomputable def Tryz.X29 : WCx := Tryz.B.wcx []
noncomputable def l7 : List (FuncId × Spc) := [(20, R20), (24, R24), (28, R28), (29, R29), (30, R30)]
def lm6 : List (Nat × List Nat) := [(6, [7, 8, 9, 10, 11, 12]), (10, [7, 9, 11, 12])]
noncomputable def Tryz.X6 : WCx := Tryz.B.wcx l7 lm6 [] [6, 10] [(6, 6), (10, 6)]
theorem v29 (a b : Int) (Q : CR → Prop) : wpF Tryz.X29 29 [I a, I b] Q =
  (cIf (decide (a < b)) (Q (CR.ret (I (-1 : Int)))) (cIf (decide (a > b)) (Q (CR.ret (I (1 : Int)))) (Q (CR.ret (I (0 : Int)))))) := by kernel_rfl
theorem v6 (l : List AV) (len : Nat) (p q : Prf) (Q : CR → Prop) : wpF Tryz.X6 6 [.agg [.vs l len .none], .agg (encP p), .agg (encP q)] Q =
  ((∃ (rs : List Rul), l = encRs rs ∧ len = rs.length ∧ wfRs rs ∧ (0 : Int) ≤ (200 : Int) ∧ (200 : Int) ≤ (1000 : Int)) ∧ cIf (!onEnc encRs (fewB (200 : Int)) false l) (True ∧ Q (CR.ret (Bo true))) (((∃ (rs : List Rul), l = encRs rs ∧ len = rs.length ∧ wfRs rs) ∧ (∃ (p_1 : Prf), (encP p) = encP p_1) ∧ ∃ (q_1 : Prf), (encP q) = encP q_1) ∧ ((∃ (rs : List Rul), l = encRs rs ∧ len = rs.length ∧ wfRs rs) ∧ (∃ (p : Prf), (encP q) = encP p) ∧ ∃ (q : Prf), (encP p) = encP q) ∧ ((∃ (rs : List Rul), l = encRs rs ∧ len = rs.length ∧ wfRs rs) ∧ (∃ (p_1 : Prf), (encP p) = encP p_1) ∧ ∃ (q : Prf), (encP p) = encP q) ∧ cIf ([some (HB.cells [AV.vs l len Tok.none] 25), some (HB.cells (encP p) 40), some (HB.cells (encP q) 40), some (HB.cells [AV.int IntKind.u8 (dvD l (encP p) (encP q)).fst, AV.int IntKind.i64 (dvD l (encP p) (encP q)).snd.fst, AV.int IntKind.i64 (dvD l (encP p) (encP q)).snd.snd.fst] 42), some (HB.cells [AV.int IntKind.u8 (dvD l (encP q) (encP p)).fst, AV.int IntKind.i64 (dvD l (encP q) (encP p)).snd.fst, AV.int IntKind.i64 (dvD l (encP q) (encP p)).snd.snd.fst] 42), some (HB.cells [AV.int IntKind.u8 (dvD l (encP p) (encP p)).fst, AV.int IntKind.i64 (dvD l (encP p) (encP p)).snd.fst, AV.int IntKind.i64 (dvD l (encP p) (encP p)).snd.snd.fst] 42)].all (okBlk 6)) (WCut Tryz.X6 (cd Tryz.X6.P 6 [1, 1, 1, 1, 1]) ([X, X, X, X, X, X, X, AV.ptr 3 0, AV.int IntKind.i64 (dvD l (encP p) (encP q)).snd.snd.snd, AV.ptr 4 0, AV.int IntKind.i64 (dvD l (encP q) (encP p)).snd.snd.snd, AV.ptr 5 0, AV.int IntKind.i64 (dvD l (encP p) (encP p)).snd.snd.snd] ++ List.replicate 122 X) (St.mk [some (HB.cells [AV.vs l len Tok.none] 25), some (HB.cells (encP p) 40), some (HB.cells (encP q) 40), some (HB.cells [AV.int IntKind.u8 (dvD l (encP p) (encP q)).fst, AV.int IntKind.i64 (dvD l (encP p) (encP q)).snd.fst, AV.int IntKind.i64 (dvD l (encP p) (encP q)).snd.snd.fst] 42), some (HB.cells [AV.int IntKind.u8 (dvD l (encP q) (encP p)).fst, AV.int IntKind.i64 (dvD l (encP q) (encP p)).snd.fst, AV.int IntKind.i64 (dvD l (encP q) (encP p)).snd.snd.fst] 42), some (HB.cells [AV.int IntKind.u8 (dvD l (encP p) (encP p)).fst, AV.int IntKind.i64 (dvD l (encP p) (encP p)).snd.fst, AV.int IntKind.i64 (dvD l (encP p) (encP p)).snd.snd.fst] 42)] [] []) (kRet Tryz.X6 6 Q)) False)) := by kernel_rfl
theorem v6a (l : List AV) (len : Nat) (p q : Prf) (k k2 a b c d kx xa xb e f g : Int) (Q : CR → Prop) : wpC Tryz.X6 (cd PP 6 [1, 1, 1, 1, 1]) ([X, X, X, X, X, X, X, .ptr 3 0, I e, .ptr 4 0, I f, .ptr 5 0, I g] ++ List.replicate 122 X) ⟨[some (.cells [.vs l len .none] 25), some (.cells (encP p) 40), some (.cells (encP q) 40), some (.cells [U k, I a, I b] 42), some (.cells [U k2, I c, I d] 42), some (.cells [U kx, I xa, I xb] 42)], [], []⟩ (kRet Tryz.X6 6 Q) =
  (cIf (e != f) (Q (CR.ret (Bo false))) (cIf (e == (0 : Int)) (cIf (a != d) (Q (CR.ret (Bo false))) (cIf (b != c) (Q (CR.ret (Bo false))) (cIf (e != (0 : Int)) (True ∧ Q (CR.ret (Bo (k == (0 : Int) && (a == (0 : Int) && (b == (0 : Int) && true)))))) (cIf ([some (HB.cells [AV.vs l len Tok.none] 25), some (HB.cells (encP p) 40), some (HB.cells (encP q) 40), some (HB.cells [U k, I a, I b] 42), some (HB.cells [U k2, I c, I d] 42), some (HB.cells [U kx, I xa, I xb] 42)].all (okBlk 6)) (WCut Tryz.X6 (cd PP 6 [1, 1, 1, 1, 1, 1, 1]) ([X, X, X, X, X, X, X, AV.ptr 3 0, X, AV.ptr 4 0, X, AV.ptr 5 0, I g] ++ List.replicate 122 X) (St.mk [some (HB.cells [AV.vs l len Tok.none] 25), some (HB.cells (encP p) 40), some (HB.cells (encP q) 40), some (HB.cells [U k, I a, I b] 42), some (HB.cells [U k2, I c, I d] 42), some (HB.cells [U kx, I xa, I xb] 42)] [] []) (kRet Tryz.X6 6 Q)) False)))) (cIf (e != (0 : Int)) (True ∧ Q (CR.ret (Bo (k == (0 : Int) && (a == (0 : Int) && (b == (0 : Int) && true)))))) (cIf ([some (HB.cells [AV.vs l len Tok.none] 25), some (HB.cells (encP p) 40), some (HB.cells (encP q) 40), some (HB.cells [U k, I a, I b] 42), some (HB.cells [U k2, I c, I d] 42), some (HB.cells [U kx, I xa, I xb] 42)].all (okBlk 6)) (WCut Tryz.X6 (cd PP 6 [1, 1, 1, 1, 1, 1, 1]) ([X, X, X, X, X, X, X, AV.ptr 3 0, X, AV.ptr 4 0, X, AV.ptr 5 0, I g] ++ List.replicate 122 X) (St.mk [some (HB.cells [AV.vs l len Tok.none] 25), some (HB.cells (encP p) 40), some (HB.cells (encP q) 40), some (HB.cells [U k, I a, I b] 42), some (HB.cells [U k2, I c, I d] 42), some (HB.cells [U kx, I xa, I xb] 42)] [] []) (kRet Tryz.X6 6 Q)) False)))) := by kernel_rfl
theorem v6k0 (l : List AV) (len : Nat) (p q : Prf) (a b c d kx xa xb g : Int) (Q : CR → Prop) : wpC Tryz.X6 (cd PP 6 [1, 1, 1, 1, 1, 1, 1]) ([X, X, X, X, X, X, X, .ptr 3 0, X, .ptr 4 0, X, .ptr 5 0, I g] ++ List.replicate 122 X) ⟨[some (.cells [.vs l len .none] 25), some (.cells (encP p) 40), some (.cells (encP q) 40), some (.cells [U 0, I a, I b] 42), some (.cells [U 0, I c, I d] 42), some (.cells [U kx, I xa, I xb] 42)], [], []⟩ (kRet Tryz.X6 6 Q) =
  (True ∧ cIf (decide (a ≥ (0 : Int)) == false) (cIf (g == (0 : Int)) (cIf (kx == (0 : Int)) (Q (CR.ret (Bo true))) (Q (CR.ret (Bo (kx == (3 : Int)))))) (Q (CR.ret (Bo false)))) (Q (CR.ret (Bo false)))) := by kernel_rfl
theorem v6k1 (l : List AV) (len : Nat) (p q : Prf) (a b c d kx xa xb g : Int) (Q : CR → Prop) : wpC Tryz.X6 (cd PP 6 [1, 1, 1, 1, 1, 1, 1]) ([X, X, X, X, X, X, X, .ptr 3 0, X, .ptr 4 0, X, .ptr 5 0, I g] ++ List.replicate 122 X) ⟨[some (.cells [.vs l len .none] 25), some (.cells (encP p) 40), some (.cells (encP q) 40), some (.cells [U 1, I a, I b] 42), some (.cells [U 2, I c, I d] 42), some (.cells [U kx, I xa, I xb] 42)], [], []⟩ (kRet Tryz.X6 6 Q) =
  (True ∧ cIf (decide (a ≥ (0 : Int)) == true) (cIf (g == (0 : Int)) (cIf (kx == (0 : Int)) (Q (CR.ret (Bo true))) (Q (CR.ret (Bo (kx == (3 : Int)))))) (Q (CR.ret (Bo false)))) (Q (CR.ret (Bo false)))) := by kernel_rfl
theorem v6k2 (l : List AV) (len : Nat) (p q : Prf) (a b c d kx xa xb g : Int) (Q : CR → Prop) : wpC Tryz.X6 (cd PP 6 [1, 1, 1, 1, 1, 1, 1]) ([X, X, X, X, X, X, X, .ptr 3 0, X, .ptr 4 0, X, .ptr 5 0, I g] ++ List.replicate 122 X) ⟨[some (.cells [.vs l len .none] 25), some (.cells (encP p) 40), some (.cells (encP q) 40), some (.cells [U 2, I a, I b] 42), some (.cells [U 1, I c, I d] 42), some (.cells [U kx, I xa, I xb] 42)], [], []⟩ (kRet Tryz.X6 6 Q) =
  (True ∧ cIf (decide (a ≥ (0 : Int)) == false) (cIf (g == (0 : Int)) (cIf (kx == (0 : Int)) (Q (CR.ret (Bo true))) (Q (CR.ret (Bo (kx == (3 : Int)))))) (Q (CR.ret (Bo false)))) (Q (CR.ret (Bo false)))) := by kernel_rfl
theorem v6k3 (l : List AV) (len : Nat) (p q : Prf) (a b c d kx xa xb g : Int) (Q : CR → Prop) : wpC Tryz.X6 (cd PP 6 [1, 1, 1, 1, 1, 1, 1]) ([X, X, X, X, X, X, X, .ptr 3 0, X, .ptr 4 0, X, .ptr 5 0, I g] ++ List.replicate 122 X) ⟨[some (.cells [.vs l len .none] 25), some (.cells (encP p) 40), some (.cells (encP q) 40), some (.cells [U 3, I a, I b] 42), some (.cells [U 3, I c, I d] 42), some (.cells [U kx, I xa, I xb] 42)], [], []⟩ (kRet Tryz.X6 6 Q) =
  (True ∧ cIf (decide (a ≥ (0 : Int)) == true) (cIf (g == (0 : Int)) (cIf (kx == (0 : Int)) (Q (CR.ret (Bo true))) (Q (CR.ret (Bo (kx == (3 : Int)))))) (Q (CR.ret (Bo false)))) (Q (CR.ret (Bo false)))) := by kernel_rfl
end Go.Proofs
/-! C21 -/
set_option maxRecDepth 100000
set_option linter.unusedVariables false
namespace Go.Proofs
open Go Go.Ev
theorem ct20 : Ct Tryz.B.c0 20 R20 where
  body := ⟨_, _, Tryz.func20, rfl⟩
  ok := fun args D r hR hD => by
    unfold R20 at hR
    split at hR <;> cases hR
    exact ⟨rfl, fun G w us h1 h2 h3 => Tryz.aliveOk G w us h1 h2 h3⟩
theorem ct29 : Ct Tryz.B.c0 29 R29 := Ct.of_wp (lm := []) Tryz.bok (Cts.nil _) ⟨_, _, Tryz.func29, rfl⟩ fun args D r hR hD => by
  unfold R29 at hR
  split at hR <;> cases hR
  refine ⟨rfl, ?_⟩
  show wpF Tryz.X29 29 [I _, I _] _
  rw [v29]
  unfold sgnI
  refine cIf_intro (fun h => ?_) (fun h => cIf_intro (fun h2 => ?_) (fun h2 => ?_))
  · rw [if_pos (of_decide_eq_true h)]
  · rw [if_neg (of_decide_eq_false h), if_pos (of_decide_eq_true h2)]
  · rw [if_neg (of_decide_eq_false h), if_neg (of_decide_eq_false h2)]
theorem c7 : Cts Tryz.B l7 := (((((Cts.nil _).cons ct30).cons ct29).cons ct28).cons ct24).cons ct20
/-! ### P2.4 -/
/-- Profiles that compare alike. -/
structure Sim (p q p' q' : Prf) : Prop where
  a : p'.cl = p.cl ∧ p'.vi = p.vi ∧ p'.ho = p.ho ∧ p'.de = p.de ∧ p'.mo = p.mo
  b : q'.cl = q.cl ∧ q'.vi = q.vi ∧ q'.ho = q.ho ∧ q'.de = q.de ∧ q'.mo = q.mo
  c : (p'.cr < q'.cr ↔ p.cr < q.cr) ∧ (q'.cr < p'.cr ↔ q.cr < p.cr)
  l : (p'.le < q'.le ↔ p.le < q.le) ∧ (q'.le < p'.le ↔ q.le < p.le)
theorem Sim.at' {p q p' q' : Prf} (h : Sim p q p' q') (a : Int) : (atI a p' < atI a q' ↔ atI a p < atI a q) ∧ (atI a q' < atI a p' ↔ atI a q < atI a p) := by
  obtain ⟨a1, a2, a3, a4, a5⟩ := h.a
  obtain ⟨b1, b2, b3, b4, b5⟩ := h.b
  unfold atI
  rw [a1, a2, a3, a4, a5, b1, b2, b3, b4, b5]
  repeat' split
  all_goals first
    | exact h.c
    | exact h.l
    | exact ⟨Iff.rfl, Iff.rfl⟩
theorem dvD_eq (rs : List Rul) (p q : Prf) : dvD (encRs rs) (encP p) (encP q) = verdE rs p q := by
  unfold dvD on3
  rw [onEnc_eq encRs_inj, onEnc_eq encP_inj, onEnc_eq encP_inj]
/-! ### P2.3 -/
theorem decP_same (rk : Nat → Int) (th : Nat → Bool) : ∀ (l : List Nat) (v R : Int), (decP rk th th l v v R).1 = (decP rk th th l v v R).2
  | [], v, R => rfl
  | i :: l, v, R => by
    simp only [decP]
    by_cases h1 : R > rk i
    · simp only [if_pos h1]
    · simp only [if_neg h1]
      by_cases h2 : (!th i && !th i) = true
      · simp only [if_pos h2]; exact decP_same rk th l v R
      · simp only [if_neg h2]; exact decP_same rk th l _ _
theorem decV_swap (rs : List Rul) (p q : Prf) : decV rs q p = ((decV rs p q).2, (decV rs p q).1) := decP_swap (rkR rs) (thR rs p q) (thR rs q p) (rankL rs) (-1) (-1) 0
theorem bothE_swap (rs : List Rul) (p q : Prf) : bothE rs q p = bothE rs p q := by
  unfold bothE
  repeat' split
  all_goals omega
theorem bothE_self {rs : List Rul} {p q : Prf} (h : bothE rs p q = 0) : bothE rs p p = 0 := by
  have hc := both_chk h
  have h0 : ∀ p, pOk p = 0 ∨ pOk p = 1 := fun p => by unfold pOk; split <;> simp
  unfold bothE at h ⊢
  rw [if_pos hc] at h ⊢
  rcases h0 p with h1 | h1 <;> rcases h0 q with h2 | h2 <;> rw [h1, h2] at h <;> simp at h <;> rw [h1] <;> rfl
theorem blk6 (rs : List Rul) (p q : Prf) (k a b k2 c d kx xa xb : Int) : [some (HB.cells [AV.vs (encRs rs) rs.length Tok.none] 25), some (HB.cells (encP p) 40), some (HB.cells (encP q) 40), some (HB.cells [U k, I a, I b] 42), some (HB.cells [U k2, I c, I d] 42), some (HB.cells [U kx, I xa, I xb] 42)].all (okBlk 6) = true := by
  simp [okBlk, noHB, noHL, noH, noH_encRs, noH_encP]
abbrev hs6 (rs : List Rul) (p q : Prf) (k a b k2 c d kx xa xb : Int) : List (Option HB) := [some (HB.cells [AV.vs (encRs rs) rs.length Tok.none] 25), some (HB.cells (encP p) 40), some (HB.cells (encP q) 40), some (HB.cells [U k, I a, I b] 42), some (HB.cells [U k2, I c, I d] 42), some (HB.cells [U kx, I xa, I xb] 42)]
theorem sym_fin (rs : List Rul) (p q : Prf) {a b c kx k k2 : Int} (hk : kx = 0 ∨ kx = 3) (hk1 : k = kindV a b) (hk2 : k2 = kindV b a) :
    WCut Tryz.X6 (cd PP 6 [1, 1, 1, 1, 1, 1, 1]) ([X, X, X, X, X, X, X, .ptr 3 0, X, .ptr 4 0, X, .ptr 5 0, I 0] ++ List.replicate 122 X) ⟨hs6 rs p q k a b k2 b a kx c c, [], []⟩ (kRet Tryz.X6 6 fun r' => r' = rB true) := by
  refine WCut_of (C := Tryz.X6) (wcx_ones Tryz.bok c7) (wcx_ok Tryz.bok c7) ?_
  have hkx : (kx == (0 : Int)) = true ∨ (kx == (0 : Int)) = false ∧ (kx == (3 : Int)) = true := by
    rcases hk with h | h
    · exact .inl (by simp [h])
    · exact .inr ⟨by simp [h], by simp [h]⟩
  have tail : cIf ((0 : Int) == 0) (cIf (kx == (0 : Int)) (CR.ret (Bo true) = rB true) (CR.ret (Bo (kx == (3 : Int))) = rB true)) (CR.ret (Bo false) = rB true) := by
    refine cIf_pos rfl ?_
    rcases hkx with h | ⟨h, h2⟩
    · exact cIf_pos h rfl
    · exact cIf_neg h (by rw [h2])
  unfold kindV at hk1 hk2
  by_cases ha : a ≥ 0 <;> by_cases hb : b ≥ 0
  · rw [if_pos ⟨ha, hb⟩] at hk1
    rw [if_pos ⟨hb, ha⟩] at hk2
    rw [hk1, hk2, v6k3]
    exact ⟨trivial, cIf_pos (by simp [ha]) tail⟩
  · rw [if_neg (fun h => hb h.2), if_pos ha] at hk1
    rw [if_neg (fun h => hb h.1), if_neg hb, if_pos ha] at hk2
    rw [hk1, hk2, v6k1]
    exact ⟨trivial, cIf_pos (by simp [ha]) tail⟩
  · rw [if_neg (fun h => ha h.1), if_neg ha, if_pos hb] at hk1
    rw [if_neg (fun h => ha h.2), if_pos hb] at hk2
    rw [hk1, hk2, v6k2]
    exact ⟨trivial, cIf_pos (by simp; omega) tail⟩
  · rw [if_neg (fun h => ha h.1), if_neg ha, if_neg hb] at hk1
    rw [if_neg (fun h => ha h.2), if_neg hb, if_neg ha] at hk2
    rw [hk1, hk2, v6k0]
    exact ⟨trivial, cIf_pos (by simp; omega) tail⟩
theorem sym_tail (rs : List Rul) (p q : Prf) {k a b k2 c d kx xa xb e f g : Int} (h : e = f ∧ (e = 0 ∧ c = b ∧ d = a ∧ k = kindV a b ∧ k2 = kindV b a ∧ xa = xb ∧ kx = kindV xa xb ∧ g = 0 ∨ ¬ e = 0 ∧ k = 0 ∧ a = 0 ∧ b = 0)) :
    WCut Tryz.X6 (cd PP 6 [1, 1, 1, 1, 1]) ([X, X, X, X, X, X, X, .ptr 3 0, I e, .ptr 4 0, I f, .ptr 5 0, I g] ++ List.replicate 122 X) ⟨hs6 rs p q k a b k2 c d kx xa xb, [], []⟩ (kRet Tryz.X6 6 fun r' => r' = rB true) := by
  refine WCut_of (C := Tryz.X6) (wcx_ones Tryz.bok c7) (wcx_ok Tryz.bok c7) ?_
  rw [v6a]
  obtain ⟨rfl, ⟨rfl, rfl, rfl, hk1, hk2, rfl, hx, rfl⟩ | ⟨h0, rfl, rfl, rfl⟩⟩ := h
  · have hk : kx = 0 ∨ kx = 3 := by rw [hx]; unfold kindV; split <;> (try split) <;> omega
    exact cIf_neg (by simp) (cIf_pos (by simp) (cIf_neg (by simp) (cIf_neg (by simp) (cIf_neg (by simp) (cIf_pos (blk6 _ _ _ _ _ _ _ _ _ _ _ _) (sym_fin rs p q hk hk1 hk2))))))
  · exact cIf_neg (by simp) (cIf_neg (by simpa using h0) (cIf_pos (by simpa using h0) ⟨trivial, rfl⟩))
theorem sym_vals (rs : List Rul) (p q : Prf) : (verdE rs p q).2.2.2 = (verdE rs q p).2.2.2 ∧ ((verdE rs p q).2.2.2 = 0 ∧ (verdE rs q p).2.1 = (verdE rs p q).2.2.1 ∧ (verdE rs q p).2.2.1 = (verdE rs p q).2.1 ∧ (verdE rs p q).1 = kindV (verdE rs p q).2.1 (verdE rs p q).2.2.1 ∧ (verdE rs q p).1 = kindV (verdE rs p q).2.2.1 (verdE rs p q).2.1 ∧ (verdE rs p p).2.1 = (verdE rs p p).2.2.1 ∧ (verdE rs p p).1 = kindV (verdE rs p p).2.1 (verdE rs p p).2.2.1 ∧ (verdE rs p p).2.2.2 = 0 ∨ ¬ (verdE rs p q).2.2.2 = 0 ∧ (verdE rs p q).1 = 0 ∧ (verdE rs p q).2.1 = 0 ∧ (verdE rs p q).2.2.1 = 0) := by
  unfold verdE
  rw [bothE_swap rs p q]
  by_cases hb : bothE rs p q = 0
  · have hb3 := bothE_self hb
    rw [if_pos hb, if_pos hb, if_pos hb3, decV_swap rs p q]
    exact ⟨rfl, .inl ⟨rfl, rfl, rfl, rfl, rfl, decP_same _ _ _ _ _, rfl, rfl⟩⟩
  · rw [if_neg hb, if_neg hb]
    exact ⟨rfl, .inr ⟨hb, rfl, rfl, rfl⟩⟩
theorem w6 (rs : List Rul) (hw : wfRs rs) (p q : Prf) : wpF Tryz.X6 6 [.agg [.vs (encRs rs) rs.length .none], .agg (encP p), .agg (encP q)] fun r' => r' = rB true := by
  rw [v6, dvD_eq, dvD_eq, dvD_eq]
  exact ⟨⟨rs, rfl, rfl, hw, by omega, by omega⟩, cIf_intro (fun h => ⟨trivial, rfl⟩) (fun h => ⟨⟨⟨rs, rfl, rfl, hw⟩, ⟨p, rfl⟩, q, rfl⟩, ⟨⟨rs, rfl, rfl, hw⟩, ⟨q, rfl⟩, p, rfl⟩, ⟨⟨rs, rfl, rfl, hw⟩, ⟨p, rfl⟩, p, rfl⟩, cIf_pos (blk6 _ _ _ _ _ _ _ _ _ _ _ _) (sym_tail rs p q (sym_vals rs p q))⟩)⟩
end Go.Proofs
