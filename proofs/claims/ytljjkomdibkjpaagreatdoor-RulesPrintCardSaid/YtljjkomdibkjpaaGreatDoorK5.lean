/- Contracts of functions of the program and of the reference. -/
import Derived.Test.YtljjkomdibkjpaaGreatDoorK4
import Derived.Test.YtljjkomdibkjpaaGreatDoorK2
import Derived.Test.YtljjkomdibkjpaaGreatDoorE5
set_option linter.unusedVariables false
set_option linter.unusedSimpArgs false
/-! VC11 -/
set_option maxRecDepth 100000
set_option linter.unusedVariables false
namespace Go.Proofs
open Go Go.Ev
noncomputable def R75 : Spc := fun args => match args with
  | [.agg l] => some (∃ t, l = encT t ∧ wfT t, rB (onEnc encT smallB false l))
  | _ => none
noncomputable def R27 : Spc := fun args => match args with
  | [.agg [.vs l len _]] => some (∃ rs, l = encRs rs ∧ len = rs.length ∧ wfRs rs, rI (onEnc encRs chk 0 l))
  | _ => none
def lm27 : List (Nat × List Nat) := [(4, [1, 10, 11, 12]), (6, [1, 3, 4, 10, 11, 12]), (17, [])]
noncomputable def Tryz.X27 : WCx := Tryz.BS.wcx [(72, R72), (75, R75), (76, R76)] lm27 [] [6] [(4, 1), (6, 2)]
theorem v27 (l : List AV) (len : Nat) (tk : Tok) (Q : CR → Prop) : wpF Tryz.X27 27 [.agg [.vs l len tk]] Q =
  (cIf (decide ((↑len : Int) > (24 : Int))) (Q (CR.ret (I (2 : Int)))) (cIf (noHL 1 ([X, AV.ptr 0 0, X, X, X, X, X, X, X, X, AV.vs l len tk, I (↑len : Int), I (0 : Int)] ++ List.replicate 46 X)) (cIf ([some (HB.cells [AV.vs l len tk] 25)].all (okBlk 1)) (WLoop Tryz.X27 (cd Tryz.X27.P 27 [1, 1, 0, 1, 0, 0]) ([X, AV.ptr 0 0, X, X, X, X, X, X, X, X, AV.vs l len tk, I (↑len : Int), I (0 : Int)] ++ List.replicate 46 X) (St.mk [some (HB.cells [AV.vs l len tk] 25)] [] []) (kBlock 0 (kSeq Tryz.X27 (cd Tryz.X27.P 27 [1, 1, 1]) (kRet Tryz.X27 27 Q)))) False) False)) := by kernel_rfl
theorem v27o (l : List AV) (len i : Nat) (tk : Tok) (Q : CR → Prop) : wpC Tryz.X27 (cd PP 27 [1, 1, 0, 1, 0, 0]) ([X, .ptr 0 0, X, X, X, X, X, X, X, X, .vs l len tk, I len, I i] ++ List.replicate 46 X) ⟨[some (.cells [.vs l len tk] 25)], [], []⟩ (kLoop Tryz.X27 (cd PP 27 [1, 1, 0, 1, 0, 0]) (kBlock 0 (kSeq Tryz.X27 (cd PP 27 [1, 1, 1]) (kRet Tryz.X27 27 Q)))) =
  (cIf (decide ((↑i : Int) < (↑len : Int))) (cIf (decide (i < len)) (cIf (decide (len * 8 = l.length)) (cIf (decide (8 ≤ (List.drop (i * 8) l).length)) (cIf (like zR (el (List.drop (i * 8) l) 0 8)) (cIf (noHL 2 ([X, AV.ptr 0 0, X, I (↑i : Int), AV.ptr 1 0, X, X, X, X, X, AV.vs l len tk, I (↑len : Int), I (↑i : Int)] ++ List.replicate 46 X)) (cIf ([some (HB.cells [AV.vs l len tk] 25), some (HB.cells (putL zR 0 (elR (el (List.drop (i * 8) l) 0 8))) 73)].all (okBlk 2)) (WCut Tryz.X27 (cd PP 27 [1, 1, 0, 1, 0, 0, 1, 1, 0, 0, 1]) ([X, AV.ptr 0 0, X, I (↑i : Int), AV.ptr 1 0, X, X, X, X, X, AV.vs l len tk, I (↑len : Int), I (↑i : Int)] ++ List.replicate 46 X) (St.mk [some (HB.cells [AV.vs l len tk] 25), some (HB.cells (putL zR 0 (elR (el (List.drop (i * 8) l) 0 8))) 73)] [] []) (kBlock 1 (kSeq Tryz.X27 (cd PP 27 [1, 1, 0, 1, 0, 0, 1, 1, 1]) (kLoop Tryz.X27 (cd PP 27 [1, 1, 0, 1, 0, 0]) (kBlock 0 (kSeq Tryz.X27 (cd PP 27 [1, 1, 1]) (kRet Tryz.X27 27 Q))))))) False) False) False) False) False) False) (Q (CR.ret (I (0 : Int))))) := by kernel_rfl
theorem v27b (l : List AV) (len i : Nat) (tk : Tok) (x : Rul) (Q : CR → Prop) : wpC Tryz.X27 (cd PP 27 [1, 1, 0, 1, 0, 0, 1, 1, 0, 0, 1]) ([X, .ptr 0 0, X, I i, .ptr 1 0, X, X, X, X, X, .vs l len tk, I len, I i] ++ List.replicate 46 X) ⟨[some (.cells [.vs l len tk] 25), some (.cells (encR x) 73)], [], []⟩ (kBlock 1 (kSeq Tryz.X27 (cd PP 27 [1, 1, 0, 1, 0, 0, 1, 1, 1]) (kLoop Tryz.X27 (cd PP 27 [1, 1, 0, 1, 0, 0]) (kBlock 0 (kSeq Tryz.X27 (cd PP 27 [1, 1, 1]) (kRet Tryz.X27 27 Q)))))) =
  (x.name.length ≤ 9223372036854775807 ∧ cIf (!isWordB x.name) (Q (CR.ret (I (4 : Int)))) (cIf (decide (i ≤ len)) (((∃ (rs : List Rul), List.take ((i - 0) * 8) l = encRs rs ∧ i - 0 = rs.length ∧ rs.length ≤ 9223372036854775807) ∧ noHL 0 (encTs x.t.of) = true ∧ scrubL 0 (encTs x.t.of) = encTs x.t.of) ∧ (scal (rB (onEnc encRs (fun (rs : List Rul) => decide (fnm x.name rs (0 : Int) ≥ (0 : Int))) false (List.take ((i - 0) * 8) l))) = true ∧ okShL (St.mk [some (HB.cells [AV.vs l len tk] 25), some (HB.cells (encR x) 73)] [] []).hs ([] ++ [AV.vs (List.take ((i - 0) * 8) l) (i - 0) (if 0 = 0 ∧ i = len then tk else Tok.none), AV.fn (Fn.func 74) [] [AV.ptr 1 0]] ++ []) = true) ∧ cIf (onEnc encRs (fun (rs : List Rul) => decide (fnm x.name rs (0 : Int) ≥ (0 : Int))) false (List.take ((i - 0) * 8) l)) (Q (CR.ret (I (6 : Int)))) (cIf (decide (x.rank < (1 : Int))) (Q (CR.ret (I (1 : Int)))) (cIf (decide (x.rank > (99 : Int))) (Q (CR.ret (I (1 : Int)))) (cIf (decide (x.weight < (1 : Int))) (Q (CR.ret (I (1 : Int)))) (cIf (decide (x.weight > (1000 : Int))) (Q (CR.ret (I (1 : Int)))) ((∃ (t : Tst), (encTp x.t) = encT t ∧ wfT t) ∧ cIf (!onEnc encT smallB false (encTp x.t)) (Q (CR.ret (I (2 : Int)))) ((∃ (t : Tst), (encTp x.t) = encT t ∧ wfT t) ∧ cIf (!onEnc encT shT false (encTp x.t)) (Q (CR.ret (I (1 : Int)))) (cIf (noHL 1 ([X, AV.ptr 0 0, X, X, X, X, X, X, X, X, AV.vs l len tk, I (↑len : Int), I (IntKind.i64.wrap ((↑i : Int) + (1 : Int)))] ++ List.replicate 46 X)) (cIf ([some (HB.cells [AV.vs l len tk] 25)].all (okBlk 1)) (WLoop Tryz.X27 (cd PP 27 [1, 1, 0, 1, 0, 0]) ([X, AV.ptr 0 0, X, X, X, X, X, X, X, X, AV.vs l len tk, I (↑len : Int), I (IntKind.i64.wrap ((↑i : Int) + (1 : Int)))] ++ List.replicate 46 X) (St.mk [some (HB.cells [AV.vs l len tk] 25)] [] []) (kBlock 0 (kSeq Tryz.X27 (cd PP 27 [1, 1, 1]) (kRet Tryz.X27 27 Q)))) False) False)))))))) False)) := by kernel_rfl
end Go.Proofs
/-! C11 -/
set_option maxRecDepth 100000
set_option linter.unusedVariables false
namespace Go.Proofs
open Go Go.Ev
theorem noTL_append (n : Nat) : ∀ l m : List AV, noTL n (l ++ m) = (noTL n l && noTL n m)
  | [], m => by simp [noTL]
  | a :: l, m => by simp [noTL, noTL_append n l m, Bool.and_assoc]
mutual
theorem noT_encT (n : Nat) : ∀ t : Tst, noTL n (encT t) = true
  | .mk op attr side k of => by simp [encT, noTL, noT, noT_encTs n of]
theorem noT_encTs (n : Nat) : ∀ l : List Tst, noTL n (encTs l) = true
  | [] => rfl
  | t :: l => by simp [encTs, noTL_append, noT_encT n t, noT_encTs n l]
end
theorem noT_encR (n : Nat) (x : Rul) : noTL n (encR x) = true := by simp [encR, noTL, noT, noT_encTs]
theorem noT_encRs (n : Nat) : ∀ l : List Rul, noTL n (encRs l) = true
  | [] => rfl
  | t :: l => by simp [encRs, noTL_append, noT_encR n t, noT_encRs n l]
theorem encRs_take : ∀ (l : List Rul) (i : Nat), (encRs l).take (i * 8) = encRs (l.take i)
  | [], i => by simp [encRs]
  | x :: l, 0 => by simp [encRs]
  | x :: l, i + 1 => by
    rw [List.take_succ_cons]
    simp only [encRs]
    rw [show (i + 1) * 8 = (encR x).length + i * 8 by rw [encR_len]; omega, List.take_length_add_append, encRs_take l i]
theorem fnm_any (s : List UInt8) : ∀ (l : List Rul) (i : Int), 0 ≤ i → decide (fnm s l i ≥ 0) = l.any fun y => y.name == s
  | [], i, h => by simp [fnm]
  | x :: l, i, h => by
    simp only [fnm, List.any_cons]
    split
    · rename_i hc
      simp [hc, h]
    · rename_i hc
      rw [fnm_any s l (i + 1) (by omega)]
      simp [hc]
section
variable (h75 : Ct Tryz.B.c0 75 R75)
include h75
theorem c27 : Cts Tryz.BS [(72, R72), (75, R75), (76, R76)] := (((Cts.nil Tryz.BS).cons (g := 76) ct76).cons (g := 75) h75).cons (g := 72) ct72
section
variable {rs : List Rul} (tk : Tok) (hw : wfRs rs) {Q : CR → Prop}
include hw
set_option maxHeartbeats 4000000 in
theorem chp_b {i : Nat} {x : Rul} (hx : rs[i]? = some x) (hQ : Q (rI (chkL (rs.take i) (rs.drop i))))
    (next : Q (rI (chkL (rs.take (i + 1)) (rs.drop (i + 1)))) → WLoop Tryz.X27 (cd PP 27 [1, 1, 0, 1, 0, 0]) ([X, .ptr 0 0, X, X, X, X, X, X, X, X, .vs (encRs rs) rs.length tk, I rs.length, I (i + 1 : Nat)] ++ List.replicate 46 X) ⟨[some (.cells [.vs (encRs rs) rs.length tk] 25)], [], []⟩ (kBlock 0 (kSeq Tryz.X27 (cd PP 27 [1, 1, 1]) (kRet Tryz.X27 27 Q)))) :
    WCut Tryz.X27 (cd PP 27 [1, 1, 0, 1, 0, 0, 1, 1, 0, 0, 1]) ([X, .ptr 0 0, X, I i, .ptr 1 0, X, X, X, X, X, .vs (encRs rs) rs.length tk, I rs.length, I i] ++ List.replicate 46 X) ⟨[some (.cells [.vs (encRs rs) rs.length tk] 25), some (.cells (encR x) 73)], [], []⟩ (kBlock 1 (kSeq Tryz.X27 (cd PP 27 [1, 1, 0, 1, 0, 0, 1, 1, 1]) (kLoop Tryz.X27 (cd PP 27 [1, 1, 0, 1, 0, 0]) (kBlock 0 (kSeq Tryz.X27 (cd PP 27 [1, 1, 1]) (kRet Tryz.X27 27 Q)))))) := by
  have hlen := hw.1
  have hwx := hw.2 x (List.mem_of_getElem? hx)
  have hlt : i < rs.length := (List.getElem?_eq_some_iff.1 hx).1
  obtain ⟨x', hx', hdr⟩ := drop_cons hlt
  rw [hx] at hx'
  cases hx'
  have htk : rs.take (i + 1) = rs.take i ++ [x] := by rw [List.take_add_one, hx]; rfl
  rw [hdr] at hQ
  rw [htk] at next
  refine WCut_step Tryz.bsok (c27 h75) ((v27b _ _ _ tk x Q).mpr ⟨hwx.2.1, ?_⟩)
  simp only [Nat.sub_zero]
  rw [encRs_take, onEnc_eq encRs_inj, fnm_any _ _ 0 (by omega), encTp_eq, onEnc_eq (fun _ _ => encT_inj _ _), onEnc_eq (fun _ _ => encT_inj _ _)]
  refine cIf_intro (fun h => ?_) (fun h => cIf_pos (by simp; omega) ⟨⟨⟨_, rfl, by simp; omega, by simp; omega⟩, noH_encTs 0 _, sc_encTs 0 _⟩, ⟨rfl, ?_⟩, ?_⟩)
  · simpa [chkL, show isWordB x.name = false by simpa using h] using hQ
  · simp [okShL, okSh, noH_encRs, noT_encRs, noH_encR, noT_encR]
  have h : isWordB x.name = true := by simpa using h
  refine cIf_intro (fun h1 => ?_) (fun h1 => ?_)
  · simpa only [chkL, h, h1, if_true, Bool.true_eq_false, if_false] using hQ
  simp only [chkL, h, h1, Bool.true_eq_false, Bool.false_eq_true, if_false] at hQ
  refine cIf_intro (fun h2 => ?_) (fun h2 => cIf_intro (fun h3 => ?_) (fun h3 => cIf_intro (fun h4 => ?_) (fun h4 => cIf_intro (fun h5 => ?_) (fun h5 => ⟨⟨_, rfl, hwx.1⟩, ?_⟩))))
  case refine_1 | refine_2 | refine_3 | refine_4 =>
    have : rangesB x = false := by simp [rangesB] at *; omega
    simpa only [this, if_true] using hQ
  have hr : rangesB x = true := by simp [rangesB] at *; omega
  simp only [hr, Bool.true_eq_false, if_false] at hQ
  refine cIf_intro (fun h6 => ?_) (fun h6 => ⟨⟨_, rfl, hwx.1⟩, cIf_intro (fun h7 => ?_) (fun h7 => ?_)⟩)
  · simpa [show smallB x.t = false by simpa using h6] using hQ
  · simpa [show smallB x.t = true by simpa using h6, show shT x.t = false by simpa using h7] using hQ
  · have hq : Q (rI (chkL (rs.take i ++ [x]) (rs.drop (i + 1)))) := by
      simpa [show smallB x.t = true by simpa using h6, show shT x.t = true by simpa using h7] using hQ
    refine cIf_pos (by simp [noHL, noH, noH_encRs]) (cIf_pos (blk70a tk 1) ?_)
    rw [wrap_id (x := (i : Int) + 1) (by omega) (by omega)]
    exact next hq
theorem chp_o : ∀ (d i : Nat), rs.length - i = d → i ≤ rs.length → Q (rI (chkL (rs.take i) (rs.drop i))) →
    WLoop Tryz.X27 (cd PP 27 [1, 1, 0, 1, 0, 0]) ([X, .ptr 0 0, X, X, X, X, X, X, X, X, .vs (encRs rs) rs.length tk, I rs.length, I i] ++ List.replicate 46 X) ⟨[some (.cells [.vs (encRs rs) rs.length tk] 25)], [], []⟩ (kBlock 0 (kSeq Tryz.X27 (cd PP 27 [1, 1, 1]) (kRet Tryz.X27 27 Q))) := by
  intro d
  induction d with
  | zero =>
    intro i hd hi hQ
    have hi' : i = rs.length := by omega
    subst hi'
    refine WLoop_step Tryz.bsok (c27 h75) ((v27o _ _ _ tk Q).mpr (cIf_neg (by simp) ?_))
    simpa [chkL] using hQ
  | succ d ih =>
    intro i hd hi hQ
    have hlt : i < rs.length := by omega
    obtain ⟨x, hx, hdr⟩ := drop_cons hlt
    refine WLoop_step Tryz.bsok (c27 h75) ((v27o _ _ _ tk Q).mpr (cIf_pos (by simp; omega) (cIf_pos (by simpa using hlt) (cIf_pos (by simp [encRs_len]) (cIf_pos (by have := enc_drop_len (encRs_len rs) hlt; simpa using this) ?_)))))
    rw [encRs_el hx, encR_w]
    refine cIf_pos (encR_like x) (cIf_pos (by simp [noHL, noH, noH_encRs]) (cIf_pos (blk70 tk 2 x) ?_))
    exact chp_b h75 tk hw hx hQ fun hq => ih (i + 1) (by omega) (by omega) hq
end
set_option maxHeartbeats 2000000 in
theorem ct27 : Ct Tryz.B.c0 27 R27 := Ct.of_wp (B := Tryz.BS) (lm := lm27) (ct := [6]) (sm := [(4, 1), (6, 2)]) Tryz.bsok (c27 h75) ⟨_, _, Tryz.func27, rfl⟩ fun args D r hR hD => by
  unfold R27 at hR
  split at hR <;> cases hR
  rename_i tk
  obtain ⟨rs, rfl, rfl, hw⟩ := hD
  refine ⟨by simp [noHL, noH, noH_encRs], ?_⟩
  rw [show scrubL 0 [AV.agg [.vs (encRs rs) rs.length tk]] = [AV.agg [.vs (encRs rs) rs.length (tk.scrub 0)]] by simp [scrubL, scrub, sc_encRs], onEnc_eq encRs_inj]
  refine (v27 _ _ _ _).mpr (cIf_intro (fun h => ?_) (fun h => cIf_pos (by simp [noHL, noH, noH_encRs]) (cIf_pos (blk70a _ 1) ?_)))
  · have h : rs.length > 24 := by simp at h; omega
    simp [chk, h]
  · have h : ¬ rs.length > 24 := by simp at h; omega
    refine chp_o h75 _ hw _ 0 rfl (Nat.zero_le _) ?_
    simp [chk, h]
end
end Go.Proofs
/-! VC12 -/
set_option maxRecDepth 100000
set_option linter.unusedVariables false
namespace Go.Proofs
open Go Go.Ev
mutual
/-- What the closure of Size does with the count and the depth. -/
def vz : Tst → Int → Int → Int → Bool × Int × Int
  | .mk _ _ _ _ of, k, c, d => if c + 1 > 24 ∨ (if k > d then k else d) > 6 then (false, c + 1, if k > d then k else d) else vzL of (k + 1) (c + 1) (if k > d then k else d)
def vzL : List Tst → Int → Int → Int → Bool × Int × Int
  | [], _, c, d => (true, c, d)
  | t :: l, k, c, d => if (vz t k c d).1 = true then vzL l k (vz t k c d).2.1 (vz t k c d).2.2 else vz t k c d
end
noncomputable def R94 : SpcP := fun args hs => match args, hs with
  | [.agg l, .int .i64 k, .ptr 1 0, .ptr 2 0, .ptr 3 0], [some (.cells tl tt), some (.cells [.int .i64 c] tc), some (.cells [.int .i64 d] td), some (.cells [.fn (.func 94) [] [.ptr 1 0, .ptr 2 0, .ptr 3 0]] tf)] =>
    some ((∃ t, l = encT t ∧ wfT t) ∧ (tt = 71 ∧ tc = 3 ∧ td = 3 ∧ tf = 132) ∧ (noHL 4 tl = true ∧ scrubL 0 tl = tl) ∧ 0 ≤ c ∧ c ≤ 24 ∧ 0 ≤ d ∧ d ≤ 6 ∧ 1 ≤ k ∧ k ≤ 7,
      rB (onEnc encT (fun t => (vz t k c d).1) false l), [some (.cells tl 71), some (.cells [I (onEnc encT (fun t => (vz t k c d).2.1) 0 l)] 3), some (.cells [I (onEnc encT (fun t => (vz t k c d).2.2) 0 l)] 3), some (.cells [.fn (.func 94) [] [.ptr 1 0, .ptr 2 0, .ptr 3 0]] 132)])
  | _, _ => none
def lm94 : List (Nat × List Nat) := [(6, [1, 4, 22, 23, 24]), (11, [])]
noncomputable def Tryz.X94 (m : Nat) : WCx := (Tryz.B.hk 94 (specP 4 (R94.below m))).wcxP 4 [] lm94 [] [] [(6, 4)]
theorem v94 (m : Nat) (op at' sd n k c d : Int) (tl l : List AV) (len : Nat) (Q : CR → List (Option HB) → Prop) : wpS (Tryz.X94 m) 94 [.agg [U op, U at', U sd, I n, .vs l len .none], I k, .ptr 1 0, .ptr 2 0, .ptr 3 0] [some (.cells tl 71), some (.cells [I c] 3), some (.cells [I d] 3), some (.cells [.fn (.func 94) [] [.ptr 1 0, .ptr 2 0, .ptr 3 0]] 132)] Q =
  (cIf (decide (IntKind.i64.wrap (c + (1 : Int)) > (24 : Int))) (cIf ((List.take (Tryz.X94 m).bs (St.mk [some (HB.cells tl 71), some (HB.cells (putL [I c] 0 [I (IntKind.i64.wrap (c + (1 : Int)))]) 3), some (HB.cells (putL [I d] 0 [I (if k > d then k else d)]) 3), some (HB.cells [AV.fn (Fn.func 94) [] [AV.ptr 1 0, AV.ptr 2 0, AV.ptr 3 0]] 132), some (HB.cells [U op, U at', U sd, I n, AV.vs l len Tok.none] 71)] [] [2, 1]).hs).all (okBlk (Tryz.X94 m).bs)) (Q (CR.ret (Bo false)) [some (HB.cells (scrubL 0 tl) 71), some (HB.cells [I (IntKind.i64.wrap (c + (1 : Int)))] 3), some (HB.cells [I (if k > d then k else d)] 3), some (HB.cells [AV.fn (Fn.func 94) [] [AV.ptr 1 0, AV.ptr 2 0, AV.ptr 3 0]] 132)]) False) (cIf (decide ((if k > d then k else d) > (6 : Int))) (cIf ((List.take (Tryz.X94 m).bs (St.mk [some (HB.cells tl 71), some (HB.cells (putL [I c] 0 [I (IntKind.i64.wrap (c + (1 : Int)))]) 3), some (HB.cells (putL [I d] 0 [I (if k > d then k else d)]) 3), some (HB.cells [AV.fn (Fn.func 94) [] [AV.ptr 1 0, AV.ptr 2 0, AV.ptr 3 0]] 132), some (HB.cells [U op, U at', U sd, I n, AV.vs l len Tok.none] 71)] [] [2, 1]).hs).all (okBlk (Tryz.X94 m).bs)) (Q (CR.ret (Bo false)) [some (HB.cells (scrubL 0 tl) 71), some (HB.cells [I (IntKind.i64.wrap (c + (1 : Int)))] 3), some (HB.cells [I (if k > d then k else d)] 3), some (HB.cells [AV.fn (Fn.func 94) [] [AV.ptr 1 0, AV.ptr 2 0, AV.ptr 3 0]] 132)]) False) (cIf (noHL 4 ([X, I k, X, X, AV.ptr 3 0, X, X, X, X, X, X, X, X, X, X, X, X, X, X, X, X, X, AV.vs l len Tok.none, I (↑len : Int), I (0 : Int)] ++ List.replicate 10 X)) (cIf ([some (HB.cells tl 71), some (HB.cells (putL [I c] 0 [I (IntKind.i64.wrap (c + (1 : Int)))]) 3), some (HB.cells (putL [I d] 0 [I (if k > d then k else d)]) 3), some (HB.cells [AV.fn (Fn.func 94) [] [AV.ptr 1 0, AV.ptr 2 0, AV.ptr 3 0]] 132)].all (okBlk 4)) (WLoop (Tryz.X94 m) (cd (Tryz.X94 m).P 94 [1, 1, 1, 1, 0, 1, 0, 0]) ([X, I k, X, X, AV.ptr 3 0, X, X, X, X, X, X, X, X, X, X, X, X, X, X, X, X, X, AV.vs l len Tok.none, I (↑len : Int), I (0 : Int)] ++ List.replicate 10 X) (St.mk [some (HB.cells tl 71), some (HB.cells (putL [I c] 0 [I (IntKind.i64.wrap (c + (1 : Int)))]) 3), some (HB.cells (putL [I d] 0 [I (if k > d then k else d)]) 3), some (HB.cells [AV.fn (Fn.func 94) [] [AV.ptr 1 0, AV.ptr 2 0, AV.ptr 3 0]] 132)] [] []) (kBlock 0 (kSeq (Tryz.X94 m) (cd (Tryz.X94 m).P 94 [1, 1, 1, 1, 1]) (kRetS (Tryz.X94 m) 94 Q)))) False) False))) := by kernel_rfl
theorem v94l (m : Nat) (k c d : Int) (tl l : List AV) (len i : Nat) (Q : CR → List (Option HB) → Prop) : wpC (Tryz.X94 m) (cd PP 94 [1, 1, 1, 1, 0, 1, 0, 0]) ([X, I k, X, X, .ptr 3 0, X, X, X, X, X, X, X, X, X, X, X, X, X, X, X, X, X, .vs l len .none, I len, I i] ++ List.replicate 10 X) ⟨[some (.cells tl 71), some (.cells [I c] 3), some (.cells [I d] 3), some (.cells [.fn (.func 94) [] [.ptr 1 0, .ptr 2 0, .ptr 3 0]] 132)], [], []⟩ (kLoop (Tryz.X94 m) (cd PP 94 [1, 1, 1, 1, 0, 1, 0, 0]) (kBlock 0 (kSeq (Tryz.X94 m) (cd PP 94 [1, 1, 1, 1, 1]) (kRetS (Tryz.X94 m) 94 Q)))) =
  (cIf (decide ((↑i : Int) < (↑len : Int))) (cIf (decide (i < len)) (cIf (decide (len * 5 = l.length)) (cIf (decide (5 ≤ (List.drop (i * 5) l).length)) (cIf (like zT (el (List.drop (i * 5) l) 0 5)) ((((∃ (t : Tst), (elT (el (List.drop (i * 5) l) 0 5)) = encT t ∧ wfT t) ∧ (71 = (71 : TypeId) ∧ 3 = (3 : TypeId) ∧ 3 = (3 : TypeId) ∧ 132 = (132 : TypeId)) ∧ (noHL 4 tl = true ∧ scrubL 0 tl = tl) ∧ (0 : Int) ≤ c ∧ c ≤ (24 : Int) ∧ (0 : Int) ≤ d ∧ d ≤ (6 : Int) ∧ (1 : Int) ≤ IntKind.i64.wrap (k + (1 : Int)) ∧ IntKind.i64.wrap (k + (1 : Int)) ≤ (7 : Int)) ∧ avSizeL ([] ++ [AV.agg (elT (el (List.drop (i * 5) l) 0 5)), I (IntKind.i64.wrap (k + (1 : Int)))] ++ [AV.ptr 1 0, AV.ptr 2 0, AV.ptr 3 0]) < m) ∧ (noHL 4 ([] ++ [AV.agg (elT (el (List.drop (i * 5) l) 0 5)), I (IntKind.i64.wrap (k + (1 : Int)))] ++ [AV.ptr 1 0, AV.ptr 2 0, AV.ptr 3 0]) = true ∧ (List.take 4 (St.mk [some (HB.cells tl 71), some (HB.cells [I c] 3), some (HB.cells [I d] 3), some (HB.cells [AV.fn (Fn.func 94) [] [AV.ptr 1 0, AV.ptr 2 0, AV.ptr 3 0]] 132), some (HB.cells (putL zT 0 (elT (el (List.drop (i * 5) l) 0 5))) 71)] [] [4]).hs).all (okBlkS 4) = true ∧ [some (HB.cells tl (71 : TypeId)), some (HB.cells [I (onEnc encT (fun (t : Tst) => (vz t (IntKind.i64.wrap (k + (1 : Int))) c d).snd.fst) (0 : Int) (elT (el (List.drop (i * 5) l) 0 5)))] (3 : TypeId)), some (HB.cells [I (onEnc encT (fun (t : Tst) => (vz t (IntKind.i64.wrap (k + (1 : Int))) c d).snd.snd) (0 : Int) (elT (el (List.drop (i * 5) l) 0 5)))] (3 : TypeId)), some (HB.cells [AV.fn (Fn.func 94) [] [AV.ptr 1 0, AV.ptr 2 0, AV.ptr 3 0]] (132 : TypeId))].length = 4 ∧ 4 ≤ (St.mk [some (HB.cells tl 71), some (HB.cells [I c] 3), some (HB.cells [I d] 3), some (HB.cells [AV.fn (Fn.func 94) [] [AV.ptr 1 0, AV.ptr 2 0, AV.ptr 3 0]] 132), some (HB.cells (putL zT 0 (elT (el (List.drop (i * 5) l) 0 5))) 71)] [] [4]).hs.length) ∧ cIf (!onEnc encT (fun (t : Tst) => (vz t (IntKind.i64.wrap (k + (1 : Int))) c d).fst) false (elT (el (List.drop (i * 5) l) 0 5))) (cIf ((List.take (Tryz.X94 m).bs (St.mk [some (HB.cells tl 71), some (HB.cells [AV.int IntKind.i64 (onEnc encT (fun (t : Tst) => (vz t (IntKind.i64.wrap (k + (1 : Int))) c d).snd.fst) (0 : Int) (elT (el (List.drop (i * 5) l) 0 5)))] 3), some (HB.cells [AV.int IntKind.i64 (onEnc encT (fun (t : Tst) => (vz t (IntKind.i64.wrap (k + (1 : Int))) c d).snd.snd) (0 : Int) (elT (el (List.drop (i * 5) l) 0 5)))] 3), some (HB.cells [AV.fn (Fn.func 94) [] [AV.ptr 1 0, AV.ptr 2 0, AV.ptr 3 0]] 132), some (HB.cells (putL zT 0 (elT (el (List.drop (i * 5) l) 0 5))) 71)] [] [3, 2, 1, 0, 4]).hs).all (okBlk (Tryz.X94 m).bs)) (Q (CR.ret (Bo false)) [some (HB.cells (scrubL 0 tl) 71), some (HB.cells [AV.int IntKind.i64 (onEnc encT (fun (t : Tst) => (vz t (IntKind.i64.wrap (k + (1 : Int))) c d).snd.fst) (0 : Int) (elT (el (List.drop (i * 5) l) 0 5)))] 3), some (HB.cells [AV.int IntKind.i64 (onEnc encT (fun (t : Tst) => (vz t (IntKind.i64.wrap (k + (1 : Int))) c d).snd.snd) (0 : Int) (elT (el (List.drop (i * 5) l) 0 5)))] 3), some (HB.cells [AV.fn (Fn.func 94) [] [AV.ptr 1 0, AV.ptr 2 0, AV.ptr 3 0]] 132)]) False) (cIf (noHL 4 ([X, I k, X, X, AV.ptr 3 0, X, X, X, X, X, X, X, X, X, X, X, X, X, X, X, X, X, AV.vs l len Tok.none, I (↑len : Int), I (IntKind.i64.wrap ((↑i : Int) + (1 : Int)))] ++ List.replicate 10 X)) (cIf ([some (HB.cells tl 71), some (HB.cells [AV.int IntKind.i64 (onEnc encT (fun (t : Tst) => (vz t (IntKind.i64.wrap (k + (1 : Int))) c d).snd.fst) (0 : Int) (elT (el (List.drop (i * 5) l) 0 5)))] 3), some (HB.cells [AV.int IntKind.i64 (onEnc encT (fun (t : Tst) => (vz t (IntKind.i64.wrap (k + (1 : Int))) c d).snd.snd) (0 : Int) (elT (el (List.drop (i * 5) l) 0 5)))] 3), some (HB.cells [AV.fn (Fn.func 94) [] [AV.ptr 1 0, AV.ptr 2 0, AV.ptr 3 0]] 132)].all (okBlk 4)) (WLoop (Tryz.X94 m) (cd PP 94 [1, 1, 1, 1, 0, 1, 0, 0]) ([X, I k, X, X, AV.ptr 3 0, X, X, X, X, X, X, X, X, X, X, X, X, X, X, X, X, X, AV.vs l len Tok.none, I (↑len : Int), I (IntKind.i64.wrap ((↑i : Int) + (1 : Int)))] ++ List.replicate 10 X) (St.mk [some (HB.cells tl 71), some (HB.cells [AV.int IntKind.i64 (onEnc encT (fun (t : Tst) => (vz t (IntKind.i64.wrap (k + (1 : Int))) c d).snd.fst) (0 : Int) (elT (el (List.drop (i * 5) l) 0 5)))] 3), some (HB.cells [AV.int IntKind.i64 (onEnc encT (fun (t : Tst) => (vz t (IntKind.i64.wrap (k + (1 : Int))) c d).snd.snd) (0 : Int) (elT (el (List.drop (i * 5) l) 0 5)))] 3), some (HB.cells [AV.fn (Fn.func 94) [] [AV.ptr 1 0, AV.ptr 2 0, AV.ptr 3 0]] 132)] [] []) (kBlock 0 (kSeq (Tryz.X94 m) (cd PP 94 [1, 1, 1, 1, 1]) (kRetS (Tryz.X94 m) 94 Q)))) False) False)) False) False) False) False) (cIf ((List.take (Tryz.X94 m).bs (St.mk [some (HB.cells tl 71), some (HB.cells [I c] 3), some (HB.cells [I d] 3), some (HB.cells [AV.fn (Fn.func 94) [] [AV.ptr 1 0, AV.ptr 2 0, AV.ptr 3 0]] 132)] [] []).hs).all (okBlk (Tryz.X94 m).bs)) (Q (CR.ret (Bo true)) [some (HB.cells (scrubL 0 tl) 71), some (HB.cells [I c] 3), some (HB.cells [I d] 3), some (HB.cells [AV.fn (Fn.func 94) [] [AV.ptr 1 0, AV.ptr 2 0, AV.ptr 3 0]] 132)]) False)) := by kernel_rfl
end Go.Proofs
/-! C12 -/
set_option maxRecDepth 100000
set_option linter.unusedVariables false
namespace Go.Proofs
open Go Go.Ev
mutual
theorem vz_bd : ∀ (t : Tst) (k c d : Int), 0 ≤ c → 0 ≤ d → (vz t k c d).1 = true → 0 ≤ (vz t k c d).2.1 ∧ (vz t k c d).2.1 ≤ 24 ∧ 0 ≤ (vz t k c d).2.2 ∧ (vz t k c d).2.2 ≤ 6
  | .mk op at' sd n of, k, c, d, hc, hd, h => by
    simp only [vz] at h ⊢
    have he : 0 ≤ (if k > d then k else d) := by split <;> omega
    generalize (if k > d then k else d) = e at h he ⊢
    by_cases h1 : c + 1 > 24 ∨ e > 6
    · rw [if_pos h1] at h
      cases h
    · rw [if_neg h1] at h ⊢
      exact vzL_bd of _ _ _ (by omega) (by omega) he (by omega) h
theorem vzL_bd : ∀ (l : List Tst) (k c d : Int), 0 ≤ c → c ≤ 24 → 0 ≤ d → d ≤ 6 → (vzL l k c d).1 = true → 0 ≤ (vzL l k c d).2.1 ∧ (vzL l k c d).2.1 ≤ 24 ∧ 0 ≤ (vzL l k c d).2.2 ∧ (vzL l k c d).2.2 ≤ 6
  | [], k, c, d, h1, h2, h3, h4, h => ⟨h1, h2, h3, h4⟩
  | t :: l, k, c, d, h1, h2, h3, h4, h => by
    simp only [vzL] at h ⊢
    split
    · rename_i hv
      rw [if_pos hv] at h
      obtain ⟨q1, q2, q3, q4⟩ := vz_bd t k c d h1 h3 hv
      exact vzL_bd l k _ _ q1 q2 q3 q4 h
    · rename_i hv
      rw [if_neg hv] at h
      exact absurd h hv
end
abbrev hs94 (tl : List AV) (c d : Int) : List (Option HB) := [some (.cells tl 71), some (.cells [I c] 3), some (.cells [I d] 3), some (.cells [.fn (.func 94) [] [.ptr 1 0, .ptr 2 0, .ptr 3 0]] 132)]
theorem hs94_ok {tl : List AV} (h : noHL 4 tl = true) (c d : Int) (r : List (Option HB)) : (List.take 4 (hs94 tl c d ++ r)).all (okBlk 4) = true := by
  simp [hs94, okBlk, noHB, noHL, noH, h]
theorem hs94_okS {tl : List AV} (h : noHL 4 tl = true) (c d : Int) (r : List (Option HB)) : (List.take 4 (hs94 tl c d ++ r)).all (okBlkS 4) = true := by
  simp [hs94, okBlkS, noHB, noHL, noH, h]
section
variable {m : Nat} (hB : BaseOk (Tryz.B.hk 94 (specP 4 (R94.below m)))) {tl : List AV} (ht1 : noHL 4 tl = true) (ht2 : scrubL 0 tl = tl) {of : List Tst} (hlen : of.length ≤ 9223372036854775807) (hwf : wfTs of) (hsz : avSizeL (encTs of) + 5 < m) {k : Int} (hk1 : 1 ≤ k) (hk2 : k ≤ 6) {Q : CR → List (Option HB) → Prop}
include hB ht1 ht2 hlen hwf hsz hk1 hk2
set_option maxHeartbeats 4000000 in
theorem vz_loop : ∀ (n i : Nat) (c d : Int), of.length - i = n → i ≤ of.length → 0 ≤ c → c ≤ 24 → 0 ≤ d → d ≤ 6 → Q (rB (vzL (of.drop i) (k + 1) c d).1) (hs94 tl (vzL (of.drop i) (k + 1) c d).2.1 (vzL (of.drop i) (k + 1) c d).2.2) →
    WLoop (Tryz.X94 m) (cd PP 94 [1, 1, 1, 1, 0, 1, 0, 0]) ([X, I k, X, X, .ptr 3 0, X, X, X, X, X, X, X, X, X, X, X, X, X, X, X, X, X, .vs (encTs of) of.length .none, I of.length, I i] ++ List.replicate 10 X) ⟨hs94 tl c d, [], []⟩ (kBlock 0 (kSeq (Tryz.X94 m) (cd PP 94 [1, 1, 1, 1, 1]) (kRetS (Tryz.X94 m) 94 Q))) := by
  intro n
  induction n with
  | zero =>
    intro i c d hd hi q1 q2 q3 q4 hQ
    have hi' : i = of.length := by omega
    subst hi'
    refine WLoop_unroll (wcxP_ones hB (Cts.nil _)) (wcxP_ok hB (Cts.nil _)) ((v94l m k c d tl _ _ _ Q).mpr (cIf_neg (by simp) (cIf_pos (hs94_ok ht1 c d []) ?_)))
    rw [ht2]
    simpa [vzL] using hQ
  | succ n ih =>
    intro i c d hd hi q1 q2 q3 q4 hQ
    have hlt : i < of.length := by omega
    obtain ⟨x, hx, hdr⟩ := drop_cons hlt
    rw [hdr] at hQ
    simp only [vzL] at hQ
    have hs := size_get hx
    refine WLoop_unroll (wcxP_ones hB (Cts.nil _)) (wcxP_ok hB (Cts.nil _)) ((v94l m k c d tl _ _ _ Q).mpr (cIf_pos (by simp; omega) (cIf_pos (by simpa using hlt) (cIf_pos (by simp [encTs_len]) (cIf_pos (by have := enc_drop_len (encTs_len of) hlt; simpa using this) ?_)))))
    rw [encTs_el hx, encT_w]
    rw [wrap_id (x := k + 1) (by omega) (by omega), wrap_id (x := (i : Int) + 1) (by omega) (by omega)]
    simp only [onEnc_eq (fun _ _ => encT_inj _ _)]
    refine cIf_pos (encT_like x) ⟨⟨⟨⟨x, rfl, wfTs_get hwf hx⟩, ⟨trivial, trivial, trivial, trivial⟩, ⟨ht1, ht2⟩, q1, q2, q3, q4, by omega, by omega⟩, ?_⟩, ⟨?_, hs94_okS ht1 c d _, rfl, by simp⟩, ?_⟩
    · simp only [List.nil_append, List.cons_append, avSizeL, avSize]
      omega
    · simp [noHL, noH, noH_encT]
    refine cIf_intro (fun h => cIf_pos (hs94_ok ht1 _ _ [some (HB.cells (encT x) 71)]) ?_) (fun h => cIf_pos ?_ (cIf_pos (hs94_ok ht1 _ _ []) ?_))
    · have h : (vz x (k + 1) c d).1 = false := by simpa using h
      rw [ht2]
      rw [if_neg (by rw [h]; simp), h] at hQ
      exact hQ
    · simp [noHL, noH, noH_encTs]
    · have h : (vz x (k + 1) c d).1 = true := by simpa using h
      rw [if_pos h] at hQ
      obtain ⟨r1, r2, r3, r4⟩ := vz_bd x (k + 1) c d q1 q3 h
      exact ih (i + 1) _ _ (by omega) (by omega) r1 r2 r3 r4 hQ
end
set_option maxHeartbeats 4000000 in
theorem ct94 : CtP Tryz.B.c0 94 4 R94 := CtP.of_rec ⟨_, _, Tryz.func94, rfl⟩ fun m args hs D r hs' hr hR hD hl hm => by
  unfold R94 at hR
  split at hR <;> cases hR
  rename_i l k tl tt c tc d td tf
  obtain ⟨⟨⟨op, at', sd, n, of⟩, rfl, hw⟩, ⟨rfl, rfl, rfl, rfl⟩, ⟨ht1, ht2⟩, q1, q2, q3, q4, q5, q6⟩ := hD
  simp only [wfT] at hw
  have hB : BaseOk (Tryz.B.hk 94 (specP 4 (R94.below m))) := Tryz.bok.hk (hr.hook Tryz.gtpB)
  have hsz : avSizeL (encTs of) + 5 < m := by simp only [avSizeL, avSize, encT] at hm; omega
  rw [show scrubL 0 [AV.agg (encT (.mk op at' sd n of)), I k, .ptr 1 0, .ptr 2 0, .ptr 3 0] = [AV.agg (encT (.mk op at' sd n of)), I k, .ptr 1 0, .ptr 2 0, .ptr 3 0] by simp [scrubL, scrub, sc_encT]]
  rw [show List.map (Option.map (scrubHB 0)) (hs94 tl c d) = hs94 tl c d by simp [hs94, scrubHB, scrubL, scrub, ht2]]
  simp only [onEnc_eq (fun _ _ => encT_inj _ _)]
  refine callP_of_wp (B := Tryz.B.hk 94 (specP 4 (R94.below m))) (lm := lm94) (tp := []) (ct := []) (sm := [(6, 4)]) hB (Cts.nil _) rfl ((v94 m op at' sd n k c d tl _ _ _).mpr ?_)
  rw [wrap_id (x := c + 1) (by omega) (by omega)]
  simp only [vz]
  have he : (if k > d then k else d) = k ∧ d < k ∨ (if k > d then k else d) = d ∧ k ≤ d := by split <;> omega
  generalize (if k > d then k else d) = e at he ⊢
  refine cIf_intro (fun h => cIf_pos (hs94_ok ht1 _ _ [some (HB.cells (encT (.mk op at' sd n of)) 71)]) ?_) (fun h => cIf_intro (fun h2 => cIf_pos (hs94_ok ht1 _ _ [some (HB.cells (encT (.mk op at' sd n of)) 71)]) ?_) (fun h2 => cIf_pos (by simp [noHL, noH, noH_encTs]) (cIf_pos (hs94_ok ht1 _ _ []) ?_)))
  · rw [ht2, if_pos (.inl (by simpa using h))]
    exact ⟨rfl, rfl⟩
  · rw [ht2, if_pos (.inr (by simpa using h2))]
    exact ⟨rfl, rfl⟩
  · have h : ¬ (c + 1 > 24) := by simpa using h
    have h2 : ¬ (e > 6) := by simpa using h2
    rw [if_neg (by omega)]
    exact vz_loop hB ht1 ht2 hw.2.2.2.2.2.2.2.2.1 hw.2.2.2.2.2.2.2.2.2 hsz (by omega) (by omega) _ 0 (c + 1) e rfl (Nat.zero_le _) (by omega) (by omega) (by omega) (by omega) ⟨rfl, rfl⟩
end Go.Proofs
