/- Contracts of functions of the program and of the reference. -/
import Derived.Test.YtljjkomdibkjpaaGreatDoorK5
set_option linter.unusedVariables false
set_option linter.unusedSimpArgs false
/-! VC13 -/
set_option maxRecDepth 100000
set_option linter.unusedVariables false
namespace Go.Proofs
open Go Go.Ev
def szV (t : Tst) : Int × Int := if (vz t 1 0 0).1 = true then (vz t 1 0 0).2 else (25, 7)
noncomputable def R55 : Spc := fun args => match args with
  | [.agg l] => some (∃ t, l = encT t ∧ wfT t, .ret (.tup [I (onEnc encT szV (0, 0) l).1, I (onEnc encT szV (0, 0) l).2]))
  | _ => none
noncomputable def Tryz.X55 : WCx := (Tryz.B.hk 94 (specP 4 R94)).wcx []
noncomputable def R75v : Spc := fun args => match args with
  | [.agg l] => some (∃ t, l = encT t ∧ wfT t, rB (onEnc encT (fun t => decide ((szV t).1 ≤ 24)) false l))
  | _ => none
noncomputable def Tryz.X75 : WCx := Tryz.B.wcx [(55, R55)]
theorem v55 (op at' sd n : Int) (l : List AV) (len : Nat) (Q : CR → Prop) : wpF Tryz.X55 55 [.agg [U op, U at', U sd, I n, .vs l len .none]] Q =
  (((∃ (t : Tst), [U op, U at', U sd, I n, AV.vs l len Tok.none] = encT t ∧ wfT t) ∧ (71 = (71 : TypeId) ∧ 3 = (3 : TypeId) ∧ 3 = (3 : TypeId) ∧ 132 = (132 : TypeId)) ∧ (noHL 4 [U op, U at', U sd, I n, AV.vs l len Tok.none] = true ∧ scrubL 0 [U op, U at', U sd, I n, AV.vs l len Tok.none] = [U op, U at', U sd, I n, AV.vs l len Tok.none]) ∧ (0 : Int) ≤ (0 : Int) ∧ (0 : Int) ≤ (24 : Int) ∧ (0 : Int) ≤ (0 : Int) ∧ (0 : Int) ≤ (6 : Int) ∧ (1 : Int) ≤ (1 : Int) ∧ (1 : Int) ≤ (7 : Int)) ∧ (noHL 4 ([] ++ [AV.agg [U op, U at', U sd, I n, AV.vs l len Tok.none], I (1 : Int)] ++ [AV.ptr 1 0, AV.ptr 2 0, AV.ptr 3 0]) = true ∧ (List.take 4 (St.mk [some (HB.cells [U op, U at', U sd, I n, AV.vs l len Tok.none] 71), some (HB.cells [I (0 : Int)] 3), some (HB.cells [I (0 : Int)] 3), some (HB.cells [AV.fn (Fn.func 94) [] [AV.ptr 1 0, AV.ptr 2 0, AV.ptr 3 0]] 132)] [] [3, 2, 1]).hs).all (okBlkS 4) = true ∧ [some (HB.cells [U op, U at', U sd, I n, AV.vs l len Tok.none] (71 : TypeId)), some (HB.cells [I (onEnc encT (fun (t : Tst) => (vz t (1 : Int) (0 : Int) (0 : Int)).snd.fst) (0 : Int) [U op, U at', U sd, I n, AV.vs l len Tok.none])] (3 : TypeId)), some (HB.cells [I (onEnc encT (fun (t : Tst) => (vz t (1 : Int) (0 : Int) (0 : Int)).snd.snd) (0 : Int) [U op, U at', U sd, I n, AV.vs l len Tok.none])] (3 : TypeId)), some (HB.cells [AV.fn (Fn.func 94) [] [AV.ptr 1 0, AV.ptr 2 0, AV.ptr 3 0]] (132 : TypeId))].length = 4 ∧ 4 ≤ (St.mk [some (HB.cells [U op, U at', U sd, I n, AV.vs l len Tok.none] 71), some (HB.cells [I (0 : Int)] 3), some (HB.cells [I (0 : Int)] 3), some (HB.cells [AV.fn (Fn.func 94) [] [AV.ptr 1 0, AV.ptr 2 0, AV.ptr 3 0]] 132)] [] [3, 2, 1]).hs.length) ∧ cIf (!onEnc encT (fun (t : Tst) => (vz t (1 : Int) (0 : Int) (0 : Int)).fst) false [U op, U at', U sd, I n, AV.vs l len Tok.none]) (Q (CR.ret (AV.tup [I (25 : Int), I (7 : Int)]))) (Q (CR.ret (AV.tup [AV.int IntKind.i64 (onEnc encT (fun (t : Tst) => (vz t (1 : Int) (0 : Int) (0 : Int)).snd.fst) (0 : Int) [U op, U at', U sd, I n, AV.vs l len Tok.none]), AV.int IntKind.i64 (onEnc encT (fun (t : Tst) => (vz t (1 : Int) (0 : Int) (0 : Int)).snd.snd) (0 : Int) [U op, U at', U sd, I n, AV.vs l len Tok.none])])))) := by kernel_rfl
theorem v75 (op at' sd n : Int) (l : List AV) (len : Nat) (Q : CR → Prop) : wpF Tryz.X75 75 [.agg [U op, U at', U sd, I n, .vs l len .none]] Q =
  ((∃ (t : Tst), [U op, U at', U sd, I n, AV.vs l len Tok.none] = encT t ∧ wfT t) ∧ Q (CR.ret (Bo (decide ((onEnc encT szV ((0 : Int), (0 : Int)) [U op, U at', U sd, I n, AV.vs l len Tok.none]).fst ≤ (24 : Int)))))) := by kernel_rfl
end Go.Proofs
/-! C13 -/
set_option maxRecDepth 100000
set_option linter.unusedVariables false
namespace Go.Proofs
open Go Go.Ev
theorem bok94 : BaseOk (Tryz.B.hk 94 (specP 4 R94)) := Tryz.bok.hk (ct94.hook Tryz.gtpB)
theorem ct55 : Ct Tryz.B.c0 55 R55 := Ct.of_wp (B := Tryz.B.hk 94 (specP 4 R94)) (lm := []) bok94 (Cts.nil _) ⟨_, _, Tryz.func55, rfl⟩ fun args D r hR hD => by
  unfold R55 at hR
  split at hR <;> cases hR
  obtain ⟨⟨op, at', sd, n, of⟩, rfl, hw⟩ := hD
  refine ⟨by simp [noHL, noH, noH_encT], ?_⟩
  rw [show scrubL 0 [AV.agg (encT (.mk op at' sd n of))] = [AV.agg (encT (.mk op at' sd n of))] by simp [scrubL, scrub, sc_encT]]
  refine (v55 op at' sd n _ _ _).mpr ?_
  rw [show [U op, U at', U sd, I n, AV.vs (encTs of) of.length Tok.none] = encT (.mk op at' sd n of) from rfl]
  simp only [onEnc_eq (fun _ _ => encT_inj _ _)]
  refine ⟨⟨⟨_, rfl, hw⟩, by simp, ⟨noH_encT _ _, sc_encT _ _⟩, by simp⟩, ⟨by simp [noHL, noH, noH_encT], by simp [okBlkS, noHB, noHL, noH, noH_encT], rfl, by simp⟩, ?_⟩
  refine cIf_intro (fun h => ?_) (fun h => ?_)
  · have h : (vz (.mk op at' sd n of) 1 0 0).1 = false := by simpa using h
    simp [szV, h]
  · have h : (vz (.mk op at' sd n of) 1 0 0).1 = true := by simpa using h
    simp [szV, h]
theorem ct75v : Ct Tryz.B.c0 75 R75v := Ct.of_wp (lm := []) Tryz.bok ((Cts.nil _).cons ct55) ⟨_, _, Tryz.func75, rfl⟩ fun args D r hR hD => by
  unfold R75v at hR
  split at hR <;> cases hR
  obtain ⟨⟨op, at', sd, n, of⟩, rfl, hw⟩ := hD
  refine ⟨by simp [noHL, noH, noH_encT], ?_⟩
  rw [show scrubL 0 [AV.agg (encT (.mk op at' sd n of))] = [AV.agg (encT (.mk op at' sd n of))] by simp [scrubL, scrub, sc_encT]]
  refine (v75 op at' sd n _ _ _).mpr ⟨⟨_, rfl, hw⟩, ?_⟩
  rw [show [U op, U at', U sd, I n, AV.vs (encTs of) of.length Tok.none] = encT (.mk op at' sd n of) from rfl, onEnc_eq (fun _ _ => encT_inj _ _), onEnc_eq (fun _ _ => encT_inj _ _)]
end Go.Proofs
/-! C14 -/
set_option maxRecDepth 100000
set_option linter.unusedVariables false
namespace Go.Proofs
open Go Go.Ev
mutual
def nN : Tst → Int
  | .mk _ _ _ _ of => nNL of + 1
def nNL : List Tst → Int
  | [] => 0
  | t :: l => nN t + nNL l
end
mutual
def hH : Tst → Int
  | .mk _ _ _ _ of => hHL of + 1
def hHL : List Tst → Int
  | [] => 0
  | t :: l => max (hH t) (hHL l)
end
mutual
theorem nN_pos : ∀ t, 1 ≤ nN t
  | .mk _ _ _ _ of => by simp only [nN]; have := nNL_pos of; omega
theorem nNL_pos : ∀ l, 0 ≤ nNL l
  | [] => by simp [nNL]
  | t :: l => by simp only [nNL]; have := nN_pos t; have := nNL_pos l; omega
end
mutual
theorem hH_pos : ∀ t, 1 ≤ hH t
  | .mk _ _ _ _ of => by simp only [hH]; have := hHL_pos of; omega
theorem hHL_pos : ∀ l, 0 ≤ hHL l
  | [] => by simp [hHL]
  | t :: l => by simp only [hHL]; have := hH_pos t; have := hHL_pos l; omega
end
mutual
theorem cntT_eq : ∀ (t : Tst) (m : Int), 0 ≤ m → cntT t m = min (nN t) (m + 1)
  | .mk _ _ _ _ of, m, hm => by
    simp only [cntT, nN]
    rw [cntL_eq of m 1 hm (by omega) (by omega)]; congr 1; omega
theorem cntL_eq : ∀ (l : List Tst) (m n : Int), 0 ≤ m → 1 ≤ n → n ≤ m + 1 → cntL l m n = min (n + nNL l) (m + 1)
  | [], m, n, h1, h2, h3 => by simp only [cntL, nNL]; omega
  | t :: l, m, n, h1, h2, h3 => by
    simp only [cntL, nNL]
    have p1 := nN_pos t
    have p2 := nNL_pos l
    split
    · have := cntT_eq t (m - n) (by omega)
      rw [cntL_eq l m _ h1 (by omega) (by omega)]
      omega
    · omega
end
mutual
theorem dpT_eq : ∀ (t : Tst) (m : Int), 0 ≤ m → dpT t m = min (hH t) (m + 1)
  | .mk _ _ _ _ of, m, hm => by
    simp only [dpT, hH]
    have p := hHL_pos of
    rw [dpL_eq of m 0 (by omega) (by omega)]
    omega
theorem dpL_eq : ∀ (l : List Tst) (m d : Int), 0 ≤ d → d ≤ m → dpL l m d = min (max d (hHL l)) m
  | [], m, d, h1, h2 => by simp only [dpL, hHL]; omega
  | t :: l, m, d, h1, h2 => by
    simp only [dpL, hHL]
    have p1 := hH_pos t
    have p2 := hHL_pos l
    split
    · have := dpT_eq t (m - 1) (by omega)
      have hq : (if dpT t (m - 1) > d then dpT t (m - 1) else d) = max d (dpT t (m - 1)) := by split <;> omega
      rw [hq, dpL_eq l m _ (by omega) (by omega)]
      omega
    · omega
end
mutual
theorem vz_eq : ∀ (t : Tst) (k c d : Int), 1 ≤ k → k - 1 ≤ d → d ≤ 6 → 0 ≤ c → c ≤ 24 →
    (c + nN t ≤ 24 ∧ k + hH t - 1 ≤ 6 → vz t k c d = (true, c + nN t, max d (k + hH t - 1))) ∧ (¬ (c + nN t ≤ 24 ∧ k + hH t - 1 ≤ 6) → (vz t k c d).1 = false)
  | .mk _ _ _ _ of, k, c, d, h0, h1, h2, h3, h4 => by
    simp only [vz, nN, hH]
    have p1 := nNL_pos of
    have p2 := hHL_pos of
    have he : (if k > d then k else d) = max d k := by split <;> omega
    rw [he]
    by_cases hb : c + 1 > 24 ∨ max d k > 6
    · rw [if_pos hb]
      exact ⟨fun h => by omega, fun _ => rfl⟩
    · rw [if_neg hb]
      obtain ⟨q1, q2⟩ := vzL_eq of (k + 1) (c + 1) (max d k) (by omega) (by omega) (by omega) (by omega) (by omega)
      refine ⟨fun h => ?_, fun h => q2 (by omega)⟩
      rw [q1 (by omega)]
      simp only [Prod.mk.injEq, true_and]
      omega
theorem vzL_eq : ∀ (l : List Tst) (k c d : Int), 1 ≤ k → k - 1 ≤ d → d ≤ 6 → 0 ≤ c → c ≤ 24 →
    (c + nNL l ≤ 24 ∧ k + hHL l - 1 ≤ 6 → vzL l k c d = (true, c + nNL l, max d (k + hHL l - 1))) ∧ (¬ (c + nNL l ≤ 24 ∧ k + hHL l - 1 ≤ 6) → (vzL l k c d).1 = false)
  | [], k, c, d, h0, h1, h2, h3, h4 => by
    simp only [vzL, nNL, hHL]
    refine ⟨fun _ => ?_, fun h => by omega⟩
    simp only [Prod.mk.injEq, true_and]
    omega
  | t :: l, k, c, d, h0, h1, h2, h3, h4 => by
    simp only [vzL, nNL, hHL]
    have p1 := nN_pos t
    have p2 := nNL_pos l
    have p3 := hH_pos t
    have p4 := hHL_pos l
    obtain ⟨q1, q2⟩ := vz_eq t k c d h0 h1 h2 h3 h4
    by_cases hb : c + nN t ≤ 24 ∧ k + hH t - 1 ≤ 6
    · rw [q1 hb]
      simp only [if_true]
      obtain ⟨r1, r2⟩ := vzL_eq l k (c + nN t) (max d (k + hH t - 1)) h0 (by omega) (by omega) (by omega) (by omega)
      refine ⟨fun h => ?_, fun h => r2 (by omega)⟩
      rw [r1 (by omega)]
      simp only [Prod.mk.injEq, true_and]
      omega
    · have := q2 hb
      rw [if_neg (by rw [this]; simp)]
      exact ⟨fun h => by omega, fun _ => this⟩
end
theorem szV_eq (t : Tst) : szV t = szR t := by
  unfold szV szR
  rw [cntT_eq t 24 (by omega), dpT_eq t 6 (by omega)]
  have p1 := nN_pos t
  have p3 := hH_pos t
  obtain ⟨q1, q2⟩ := vz_eq t 1 0 0 (by omega) (by omega) (by omega) (by omega) (by omega)
  by_cases hb : 0 + nN t ≤ 24 ∧ 1 + hH t - 1 ≤ 6
  · rw [q1 hb, if_pos rfl, if_neg (by omega), if_neg (by omega)]
    simp only [Prod.mk.injEq]
    omega
  · rw [if_neg (by rw [q2 hb]; simp)]
    by_cases hc : min (nN t) (24 + 1) > 24
    · rw [if_pos hc]
    · rw [if_neg hc, if_pos (by omega)]
theorem ct75 : Ct Tryz.B.c0 75 R75 := by
  refine ⟨ct75v.body, fun args D r hR hD => ct75v.ok args D r ?_ hD⟩
  have : R75v = R75 := by
    unfold R75v R75
    simp only [szV_eq]
    rfl
  rw [this]; exact hR
end Go.Proofs
/-! VC15 -/
set_option maxRecDepth 100000
set_option linter.unusedVariables false
namespace Go.Proofs
open Go Go.Ev
def pOk (p : Prf) : Int := if okP p.cl p.vi p.cr p.le then 0 else 1
end Go.Proofs
/-! C15 -/
set_option maxRecDepth 100000
set_option linter.unusedVariables false
namespace Go.Proofs
open Go Go.Ev
/-- The error of rules and two profiles. -/
def bothE (rs : List Rul) (p q : Prf) : Int := if chk rs = 0 then (if pOk q > pOk p then pOk q else pOk p) else chk rs
theorem sc_encP (p : Prf) : scrubL 0 (encP p) = encP p := rfl
end Go.Proofs
