/- Contracts of functions of the program and of the reference. -/
import Derived.Test.YtljjkomdibkjpaaGreatDoorK31
set_option linter.unusedVariables false
set_option linter.unusedSimpArgs false
/-! VC31 -/
set_option maxRecDepth 100000
set_option linter.unusedVariables false
namespace Go.Proofs
open Go Go.Ev
def lm71c : List (Nat × List Nat) := [(8, [1, 2, 5, 6, 7]), (31, [1, 2, 9, 10, 11]), (37, [1, 2, 10])]
noncomputable def Tryz.X71c (it : Int → List UInt8) (m : Nat) : WCx := Tryz.B.wcx [(71, (R71 it).below m), (67, R67 it), (115, R115), (116, R116)] lm71c [] [8]
theorem v71h (it : Int → List UInt8) (m : Nat) (op attr side n k : Int) (l : List AV) (len : Nat) (Q : CR → Prop) : wpF (Tryz.X71c it m) 71 [.agg [U op, U attr, U side, I n, .vs l len .none], U k] Q =
  (cIf (decide (attr > (0 : Int))) (True ∧ St.mk [some (HB.cells [U op, U attr, U side, I n, AV.vs l len Tok.none] 71)] [] [] = St.mk [some (HB.cells [U op, U attr, U side, I n, AV.vs l len Tok.none] 71)] [] [] ∧ cIf (decide ((0 : Int) ≤ IntKind.u8.wrap (attr - (1 : Int)))) (cIf (decide ((IntKind.u8.wrap (attr - (1 : Int))).toNat < 7)) (cIf (decide (0 < (List.drop ((IntKind.u8.wrap (attr - (1 : Int))).toNat * 1) nmA.tail).length)) (cIf (likeOk (AV.ofVal (Value.string (ByteArray.mk #[]))) ((List.drop ((IntKind.u8.wrap (attr - (1 : Int))).toNat * 1) nmA.tail).getD 0 X)) (cIf (side == (2 : Int)) (True ∧ WCut (Tryz.X71c it m) (cd (Tryz.X71c it m).P 71 [1, 1, 1, 1, 1, 1]) ([X, U k, AV.ptr 0 0, X, X, AV.str (cS (List.drop ((IntKind.u8.wrap (attr - (1 : Int))).toNat * 1) nmA.tail) 0), AV.str [111, 116, 104, 101, 114, 32], Bo (decide ((3 : Int) ≤ attr) && decide (attr ≤ (5 : Int)))] ++ List.replicate 119 X) (St.mk [some (HB.cells [U op, U attr, U side, I n, AV.vs l len Tok.none] 71)] [] []) (kRet (Tryz.X71c it m) 71 Q)) (True ∧ WCut (Tryz.X71c it m) (cd (Tryz.X71c it m).P 71 [1, 1, 1, 1, 1, 1]) ([X, U k, AV.ptr 0 0, X, X, AV.str (cS (List.drop ((IntKind.u8.wrap (attr - (1 : Int))).toNat * 1) nmA.tail) 0), AV.str [111, 119, 110, 32], Bo (decide ((3 : Int) ≤ attr) && decide (attr ≤ (5 : Int)))] ++ List.replicate 119 X) (St.mk [some (HB.cells [U op, U attr, U side, I n, AV.vs l len Tok.none] 71)] [] []) (kRet (Tryz.X71c it m) 71 Q))) False) False) False) False) (cIf (side == (2 : Int)) (True ∧ WCut (Tryz.X71c it m) (cd (Tryz.X71c it m).P 71 [1, 1, 1, 1, 1, 1]) ([X, U k, AV.ptr 0 0, X, X, AV.str [], AV.str [111, 116, 104, 101, 114, 32], Bo (decide ((3 : Int) ≤ attr) && decide (attr ≤ (5 : Int)))] ++ List.replicate 119 X) (St.mk [some (HB.cells [U op, U attr, U side, I n, AV.vs l len Tok.none] 71)] [] []) (kRet (Tryz.X71c it m) 71 Q)) (True ∧ WCut (Tryz.X71c it m) (cd (Tryz.X71c it m).P 71 [1, 1, 1, 1, 1, 1]) ([X, U k, AV.ptr 0 0, X, X, AV.str [], AV.str [111, 119, 110, 32], Bo (decide ((3 : Int) ≤ attr) && decide (attr ≤ (5 : Int)))] ++ List.replicate 119 X) (St.mk [some (HB.cells [U op, U attr, U side, I n, AV.vs l len Tok.none] 71)] [] []) (kRet (Tryz.X71c it m) 71 Q)))) := by kernel_rfl
theorem v71c (it : Int → List UInt8) (m : Nat) (a b : List UInt8) (mk : Bool) (op attr side n k : Int) (l : List AV) (len : Nat) (Q : CR → Prop) : wpC (Tryz.X71c it m) (cd PP 71 [1, 1, 1, 1, 1, 1]) ([X, U k, .ptr 0 0, X, X, .str a, .str b, Bo mk] ++ List.replicate 119 X) ⟨[some (.cells [U op, U attr, U side, I n, .vs l len .none] 71)], [], []⟩ (kRet (Tryz.X71c it m) 71 Q) =
  (cIf (op == (1 : Int)) (Q (CR.ret (AV.str [97, 108, 119, 97, 121, 115]))) (cIf (op == (2 : Int)) (cIf (decide ([108, 111, 119, 101, 114, 32].length + a.length ≤ 9223372036854775807)) (Q (CR.ret (AV.str ([108, 111, 119, 101, 114, 32] ++ a)))) False) (cIf (op == (3 : Int)) (cIf (decide ([104, 105, 103, 104, 101, 114, 32].length + a.length ≤ 9223372036854775807)) (Q (CR.ret (AV.str ([104, 105, 103, 104, 101, 114, 32] ++ a)))) False) (cIf (op == (4 : Int)) (cIf (decide ([115, 97, 109, 101, 32].length + a.length ≤ 9223372036854775807)) (Q (CR.ret (AV.str ([115, 97, 109, 101, 32] ++ a)))) False) (cIf (op == (5 : Int)) (cIf mk (cIf (decide (b.length + a.length ≤ 9223372036854775807)) (Q (CR.ret (AV.str (b ++ a)))) False) (cIf (decide (b.length + a.length ≤ 9223372036854775807)) (cIf (decide ((b ++ a).length + [32].length ≤ 9223372036854775807)) (((0 : Int) ≤ n ∧ n ≤ (1000 : Int)) ∧ cIf (decide ((b ++ a ++ [32]).length + (it n).length ≤ 9223372036854775807)) (Q (CR.ret (AV.str (b ++ a ++ [32] ++ it n)))) False) False) False)) (cIf (op == (6 : Int)) (cIf (decide (b.length + a.length ≤ 9223372036854775807)) (cIf (decide ((b ++ a).length + [32, 60, 32].length ≤ 9223372036854775807)) (((0 : Int) ≤ n ∧ n ≤ (1000 : Int)) ∧ cIf (decide ((b ++ a ++ [32, 60, 32]).length + (it n).length ≤ 9223372036854775807)) (Q (CR.ret (AV.str (b ++ a ++ [32, 60, 32] ++ it n)))) False) False) False) (cIf (op == (7 : Int)) (cIf (decide (0 < len)) (cIf (decide (len * 5 = l.length)) (cIf (decide (5 ≤ l.length)) (cIf (like zT (el l 0 5)) ((((∃ (t : Tst), (elT (el l 0 5)) = encT t ∧ wfT t ∧ shT t = true ∧ ndT t ≤ 1000) ∧ ((7 : Int) = (0 : Int) ∨ (7 : Int) = (7 : Int) ∨ (7 : Int) = (8 : Int) ∨ (7 : Int) = (9 : Int))) ∧ avSizeL ([] ++ [AV.agg (elT (el l 0 5)), U (7 : Int)] ++ []) < m) ∧ cIf (decide ([110, 111, 116, 32].length + (onEnc encT (fun (t : Tst) => wrT it t (tgO (7 : Int))) [] (elT (el l 0 5))).length ≤ 9223372036854775807)) (Q (CR.ret (AV.str ([110, 111, 116, 32] ++ onEnc encT (fun (t : Tst) => wrT it t (tgO (7 : Int))) [] (elT (el l 0 5)))))) False) False) False) False) False) (cIf (op == (9 : Int)) (WLoop (Tryz.X71c it m) (cd PP 71 [1, 1, 1, 1, 1, 1, 1, 1, 1, 1, 0, 1, 0, 0]) ([X, U k, AV.ptr 0 0, X, X, X, X, X, X, AV.str [32, 111, 114, 32], AV.str [], I (0 : Int)] ++ List.replicate 115 X) (St.mk [some (HB.cells [U op, U attr, U side, I n, AV.vs l len Tok.none] 71)] [] []) (kBlock 1 (kSeq (Tryz.X71c it m) (cd PP 71 [1, 1, 1, 1, 1, 1, 1, 1, 1, 1, 1]) (kRet (Tryz.X71c it m) 71 Q)))) (WLoop (Tryz.X71c it m) (cd PP 71 [1, 1, 1, 1, 1, 1, 1, 1, 1, 1, 0, 1, 0, 0]) ([X, U k, AV.ptr 0 0, X, X, X, X, X, X, AV.str [32, 97, 110, 100, 32], AV.str [], I (0 : Int)] ++ List.replicate 115 X) (St.mk [some (HB.cells [U op, U attr, U side, I n, AV.vs l len Tok.none] 71)] [] []) (kBlock 1 (kSeq (Tryz.X71c it m) (cd PP 71 [1, 1, 1, 1, 1, 1, 1, 1, 1, 1, 1]) (kRet (Tryz.X71c it m) 71 Q)))))))))))) := by kernel_rfl
theorem v71m (it : Int → List UInt8) (m : Nat) (s j : List UInt8) (op attr side n k i : Int) (l : List AV) (len : Nat) (Q : CR → Prop) : wpC (Tryz.X71c it m) (cd PP 71 [1, 1, 1, 1, 1, 1, 1, 1, 1, 1, 0, 1, 0, 0]) ([X, U k, .ptr 0 0, X, X, X, X, X, X, .str j, .str s, I i] ++ List.replicate 115 X) ⟨[some (.cells [U op, U attr, U side, I n, .vs l len .none] 71)], [], []⟩ (kLoop (Tryz.X71c it m) (cd PP 71 [1, 1, 1, 1, 1, 1, 1, 1, 1, 1, 0, 1, 0, 0]) (kBlock 1 (kSeq (Tryz.X71c it m) (cd PP 71 [1, 1, 1, 1, 1, 1, 1, 1, 1, 1, 1]) (kRet (Tryz.X71c it m) 71 Q)))) =
  (cIf (decide (i < (↑len : Int))) (cIf (decide ((0 : Int) ≤ i)) (cIf (decide (i.toNat < len)) (cIf (decide (len * 5 = l.length)) (cIf (decide (5 ≤ (List.drop (i.toNat * 5) l).length)) (cIf (like zT (el (List.drop (i.toNat * 5) l) 0 5)) (cIf (noHL [some (HB.cells [U op, U attr, U side, I n, AV.vs l len Tok.none] 71)].length ([] ++ [AV.agg (elT (el (List.drop (i.toNat * 5) l) 0 5)), U op] ++ [])) ((((∃ (t : Tst), (elT (el (List.drop (i.toNat * 5) l) 0 5)) = encT t ∧ wfT t ∧ shT t = true ∧ ndT t ≤ 1000) ∧ (op = (0 : Int) ∨ op = (7 : Int) ∨ op = (8 : Int) ∨ op = (9 : Int))) ∧ avSizeL ([] ++ [AV.agg (elT (el (List.drop (i.toNat * 5) l) 0 5)), U op] ++ []) < m) ∧ St.mk [some (HB.cells [U op, U attr, U side, I n, AV.vs l len Tok.none] 71)] [] [] = St.mk [some (HB.cells [U op, U attr, U side, I n, AV.vs l len Tok.none] 71)] [] [] ∧ cIf (decide (i > (0 : Int))) (cIf (decide (s.length + j.length ≤ 9223372036854775807)) (cIf (decide ((s ++ j).length + (onEnc encT (fun (t : Tst) => wrT it t (tgO op)) [] (elT (el (List.drop (i.toNat * 5) l) 0 5))).length ≤ 9223372036854775807)) (WLoop (Tryz.X71c it m) (cd PP 71 [1, 1, 1, 1, 1, 1, 1, 1, 1, 1, 0, 1, 0, 0]) ([X, U k, AV.ptr 0 0, X, X, X, X, X, X, AV.str j, AV.str (s ++ j ++ onEnc encT (fun (t : Tst) => wrT it t (tgO op)) [] (elT (el (List.drop (i.toNat * 5) l) 0 5))), I (IntKind.i64.wrap (i + (1 : Int)))] ++ List.replicate 115 X) (St.mk [some (HB.cells [U op, U attr, U side, I n, AV.vs l len Tok.none] 71)] [] []) (kBlock 1 (kSeq (Tryz.X71c it m) (cd PP 71 [1, 1, 1, 1, 1, 1, 1, 1, 1, 1, 1]) (kRet (Tryz.X71c it m) 71 Q)))) False) False) (cIf (decide (s.length + (onEnc encT (fun (t : Tst) => wrT it t (tgO op)) [] (elT (el (List.drop (i.toNat * 5) l) 0 5))).length ≤ 9223372036854775807)) (WLoop (Tryz.X71c it m) (cd PP 71 [1, 1, 1, 1, 1, 1, 1, 1, 1, 1, 0, 1, 0, 0]) ([X, U k, AV.ptr 0 0, X, X, X, X, X, X, AV.str j, AV.str (s ++ onEnc encT (fun (t : Tst) => wrT it t (tgO op)) [] (elT (el (List.drop (i.toNat * 5) l) 0 5))), I (IntKind.i64.wrap (i + (1 : Int)))] ++ List.replicate 115 X) (St.mk [some (HB.cells [U op, U attr, U side, I n, AV.vs l len Tok.none] 71)] [] []) (kBlock 1 (kSeq (Tryz.X71c it m) (cd PP 71 [1, 1, 1, 1, 1, 1, 1, 1, 1, 1, 1]) (kRet (Tryz.X71c it m) 71 Q)))) False)) False) False) False) False) False) False) (cIf (op == (9 : Int)) (cIf (k != (0 : Int)) (cIf (decide ([40].length + s.length ≤ 9223372036854775807)) (cIf (decide (([40] ++ s).length + [41].length ≤ 9223372036854775807)) (Q (CR.ret (AV.str ([40] ++ s ++ [41])))) False) False) (cIf (op == (8 : Int)) (cIf (k == (8 : Int)) (cIf (decide ([40].length + s.length ≤ 9223372036854775807)) (cIf (decide (([40] ++ s).length + [41].length ≤ 9223372036854775807)) (Q (CR.ret (AV.str ([40] ++ s ++ [41])))) False) False) (cIf (k == (7 : Int)) (cIf (decide ([40].length + s.length ≤ 9223372036854775807)) (cIf (decide (([40] ++ s).length + [41].length ≤ 9223372036854775807)) (Q (CR.ret (AV.str ([40] ++ s ++ [41])))) False) False) (Q (CR.ret (AV.str s))))) (Q (CR.ret (AV.str s))))) (cIf (op == (8 : Int)) (cIf (k == (8 : Int)) (cIf (decide ([40].length + s.length ≤ 9223372036854775807)) (cIf (decide (([40] ++ s).length + [41].length ≤ 9223372036854775807)) (Q (CR.ret (AV.str ([40] ++ s ++ [41])))) False) False) (cIf (k == (7 : Int)) (cIf (decide ([40].length + s.length ≤ 9223372036854775807)) (cIf (decide (([40] ++ s).length + [41].length ≤ 9223372036854775807)) (Q (CR.ret (AV.str ([40] ++ s ++ [41])))) False) False) (Q (CR.ret (AV.str s))))) (Q (CR.ret (AV.str s)))))) := by kernel_rfl
end Go.Proofs
/-! C31 -/
set_option maxRecDepth 100000
set_option linter.unusedVariables false
namespace Go.Proofs
open Go Go.Ev
attribute [local irreducible] wpF
section
variable {it : Int → List UInt8} (hit : ∀ z, (it z).length ≤ 20) {m : Nat} (hc : Cts Tryz.B [(71, (R71 it).below m), (67, R67 it), (115, R115), (116, R116)]) {of : List Tst} (hlen : of.length ≤ 9223372036854775806) (hwf : wfTs of) (hsh : shTs of = true) (hsz : avSizeL (encTs of) + 7 ≤ m) {Q : CR → Prop}
theorem fin71 {op k : Int} (h89 : op = 8 ∨ op = 9) {o : Bool} (ho : o = true ↔ (op = 9 ∧ k ≠ 0) ∨ (op = 8 ∧ (k = 8 ∨ k = 7))) {s : List UInt8} (hs : s.length ≤ 100000) (hQ : Q (.ret (.str (if o then [40] ++ s ++ [41] else s)))) :
    cIf (op == (9 : Int)) (cIf (k != (0 : Int)) (cIf (decide ([40].length + s.length ≤ 9223372036854775807)) (cIf (decide (([40] ++ s).length + [41].length ≤ 9223372036854775807)) (Q (CR.ret (AV.str ([40] ++ s ++ [41])))) False) False) (cIf (op == (8 : Int)) (cIf (k == (8 : Int)) (cIf (decide ([40].length + s.length ≤ 9223372036854775807)) (cIf (decide (([40] ++ s).length + [41].length ≤ 9223372036854775807)) (Q (CR.ret (AV.str ([40] ++ s ++ [41])))) False) False) (cIf (k == (7 : Int)) (cIf (decide ([40].length + s.length ≤ 9223372036854775807)) (cIf (decide (([40] ++ s).length + [41].length ≤ 9223372036854775807)) (Q (CR.ret (AV.str ([40] ++ s ++ [41])))) False) False) (Q (CR.ret (AV.str s))))) (Q (CR.ret (AV.str s))))) (cIf (op == (8 : Int)) (cIf (k == (8 : Int)) (cIf (decide ([40].length + s.length ≤ 9223372036854775807)) (cIf (decide (([40] ++ s).length + [41].length ≤ 9223372036854775807)) (Q (CR.ret (AV.str ([40] ++ s ++ [41])))) False) False) (cIf (k == (7 : Int)) (cIf (decide ([40].length + s.length ≤ 9223372036854775807)) (cIf (decide (([40] ++ s).length + [41].length ≤ 9223372036854775807)) (Q (CR.ret (AV.str ([40] ++ s ++ [41])))) False) False) (Q (CR.ret (AV.str s))))) (Q (CR.ret (AV.str s)))) := by
  have par : o = true → cIf (decide ([40].length + s.length ≤ 9223372036854775807)) (cIf (decide (([40] ++ s).length + [41].length ≤ 9223372036854775807)) (Q (CR.ret (AV.str ([40] ++ s ++ [41])))) False) False := fun h => by
    rw [if_pos h] at hQ
    exact cIf_pos (decide_eq_true (by simp only [List.length_cons, List.length_nil]; omega)) (cIf_pos (decide_eq_true (by simp only [List.length_append, List.length_cons, List.length_nil]; omega)) hQ)
  have bare : ¬ o = true → Q (.ret (.str s)) := fun h => by rw [if_neg h] at hQ; exact hQ
  rcases h89 with rfl | rfl
  · refine cIf_neg rfl (cIf_pos rfl (cIf_intro (fun h => par (ho.2 (.inr ⟨rfl, .inl (by simpa using h)⟩))) (fun h => cIf_intro (fun h2 => par (ho.2 (.inr ⟨rfl, .inr (by simpa using h2)⟩))) (fun h2 => bare (fun h3 => ?_)))))
    rcases ho.1 h3 with ⟨h4, _⟩ | ⟨_, h4 | h4⟩
    · omega
    · simp at h; omega
    · simp at h2; omega
  · refine cIf_pos rfl (cIf_intro (fun h => par (ho.2 (.inl ⟨rfl, by simpa using h⟩))) (fun h => cIf_neg rfl (bare (fun h3 => ?_))))
    rcases ho.1 h3 with ⟨_, h4⟩ | ⟨h4, _⟩
    · simp at h; omega
    · omega
include hit hc hlen hwf hsh hsz
theorem l71 {j : List UInt8} (hj : j.length ≤ 5) {op attr side n k : Int} (h89 : op = 8 ∨ op = 9) {o : Bool} (ho : o = true ↔ (op = 9 ∧ k ≠ 0) ∨ (op = 8 ∧ (k = 8 ∨ k = 7))) : ∀ (d i : Nat) (s : List UInt8), of.length - i = d → i ≤ of.length → s.length + 70 * ndL (of.drop i) ≤ 100000 → ndL (of.drop i) ≤ 1000 →
    Q (.ret (.str (if o then [40] ++ wrL it (of.drop i) (tgO op) j (decide (i = 0)) s ++ [41] else wrL it (of.drop i) (tgO op) j (decide (i = 0)) s))) → WLoop (Tryz.X71c it m) (cd PP 71 [1, 1, 1, 1, 1, 1, 1, 1, 1, 1, 0, 1, 0, 0]) ([X, U k, .ptr 0 0, X, X, X, X, X, X, .str j, .str s, I i] ++ List.replicate 115 X) ⟨[some (.cells [U op, U attr, U side, I n, .vs (encTs of) of.length .none] 71)], [], []⟩ (kBlock 1 (kSeq (Tryz.X71c it m) (cd PP 71 [1, 1, 1, 1, 1, 1, 1, 1, 1, 1, 1]) (kRet (Tryz.X71c it m) 71 Q))) := by
  intro d
  induction d with
  | zero =>
    intro i s hd hi hb hb2 hQ
    have hi' : i = of.length := by omega
    subst hi'
    rw [List.drop_length, wrL] at hQ
    refine WLoop_unroll (C := Tryz.X71c it m) (wcx_ones Tryz.bok hc) (wcx_ok Tryz.bok hc) ?_
    rw [v71m]
    exact cIf_neg (decide_eq_false (by omega)) (fin71 h89 ho (by omega) hQ)
  | succ d ih =>
    intro i s hd hi hb hb2 hQ
    have hlt : i < of.length := by omega
    obtain ⟨x, hx, hdr⟩ := drop_cons hlt
    have hnd := ndL_drop hx
    have hwl := wrT_len hit x (tgO op)
    have hs := size_get hx
    rw [hdr, wrL] at hQ
    refine WLoop_unroll (C := Tryz.X71c it m) (wcx_ones Tryz.bok hc) (wcx_ok Tryz.bok hc) ?_
    rw [v71m, Int.toNat_natCast i, encTs_el hx, encT_w, wrap_id (x := (i : Int) + 1) (by omega) (by omega), onEnc_eq (fun _ _ => encT_inj _ _)]
    have hpre : ((∃ t : Tst, encT x = encT t ∧ wfT t ∧ shT t = true ∧ ndT t ≤ 1000) ∧ (op = (0 : Int) ∨ op = (7 : Int) ∨ op = (8 : Int) ∨ op = (9 : Int))) := ⟨⟨x, rfl, wfTs_get hwf hx, shTs_get hsh hx, by omega⟩, by omega⟩
    refine cIf_pos (decide_eq_true (by omega)) (cIf_pos (decide_eq_true (by omega)) (cIf_pos (decide_eq_true hlt) (cIf_pos (decide_eq_true (encTs_len of).symm) (cIf_pos (decide_eq_true (enc_drop_len (encTs_len of) hlt)) (cIf_pos (encT_like x) (cIf_pos (by simp [noHL, noH, noH_encT]) ⟨⟨hpre, ?_⟩, rfl, cIf_intro (fun h => ?_) (fun h => ?_)⟩))))))
    · simp only [List.nil_append, List.append_nil, avSizeL, avSize]; omega
    · have h0 : ¬ i = 0 := by have := of_decide_eq_true h; omega
      rw [decide_eq_false h0] at hQ
      refine cIf_pos (decide_eq_true (by omega)) (cIf_pos (decide_eq_true (by simp only [List.length_append]; omega)) (ih (i + 1) _ (by omega) (by omega) (by simp only [List.length_append]; omega) (by omega) ?_))
      exact hQ
    · have h0 : i = 0 := by have := of_decide_eq_false h; omega
      rw [decide_eq_true h0] at hQ
      refine cIf_pos (decide_eq_true (by omega)) (ih (i + 1) _ (by omega) (by omega) (by simp only [List.length_append]; omega) (by omega) ?_)
      exact hQ
end
end Go.Proofs
/-! C32 -/
set_option maxRecDepth 100000
set_option linter.unusedVariables false
namespace Go.Proofs
open Go Go.Ev
attribute [local irreducible] wpF
section
variable {it : Int → List UInt8} (hit : ∀ z, (it z).length ≤ 20) {m : Nat} (hc : Cts Tryz.B [(71, (R71 it).below m), (67, R67 it), (115, R115), (116, R116)]) {of : List Tst} (hlen : of.length ≤ 9223372036854775806) (hwf : wfTs of) (hsh : shTs of = true) (hsz : avSizeL (encTs of) + 7 ≤ m) {Q : CR → Prop}
include hit hc hlen hwf hsh hsz
theorem l71s (hnd : ndL of ≤ 999) {j : List UInt8} (hj : j.length ≤ 5) {op attr side n k : Int} (h89 : op = 8 ∨ op = 9) {o : Bool} (ho : o = true ↔ (op = 9 ∧ k ≠ 0) ∨ (op = 8 ∧ (k = 8 ∨ k = 7))) (hQ : Q (.ret (.str (if o then [40] ++ wrL it of (tgO op) j true [] ++ [41] else wrL it of (tgO op) j true [])))) :
    WLoop (Tryz.X71c it m) (cd PP 71 [1, 1, 1, 1, 1, 1, 1, 1, 1, 1, 0, 1, 0, 0]) ([X, U k, .ptr 0 0, X, X, X, X, X, X, .str j, .str [], I 0] ++ List.replicate 115 X) ⟨[some (.cells [U op, U attr, U side, I n, .vs (encTs of) of.length .none] 71)], [], []⟩ (kBlock 1 (kSeq (Tryz.X71c it m) (cd PP 71 [1, 1, 1, 1, 1, 1, 1, 1, 1, 1, 1]) (kRet (Tryz.X71c it m) 71 Q))) :=
  l71 hit hc hlen hwf hsh hsz hj h89 ho of.length 0 [] rfl (Nat.zero_le _) (by rw [List.drop_zero, List.length_nil]; omega) (by rw [List.drop_zero]; omega) hQ
theorem w71n (hl : of.length = 1) (hnd : ndL of ≤ 999) (hQ : Q (.ret (.str ([110, 111, 116, 32] ++ wrL it of 3 [] true [])))) :
    cIf (decide (0 < of.length)) (cIf (decide (of.length * 5 = (encTs of).length)) (cIf (decide (5 ≤ (encTs of).length)) (cIf (like zT (el (encTs of) 0 5)) ((((∃ (t : Tst), (elT (el (encTs of) 0 5)) = encT t ∧ wfT t ∧ shT t = true ∧ ndT t ≤ 1000) ∧ ((7 : Int) = (0 : Int) ∨ (7 : Int) = (7 : Int) ∨ (7 : Int) = (8 : Int) ∨ (7 : Int) = (9 : Int))) ∧ avSizeL ([] ++ [AV.agg (elT (el (encTs of) 0 5)), U (7 : Int)] ++ []) < m) ∧ cIf (decide ([110, 111, 116, 32].length + (onEnc encT (fun (t : Tst) => wrT it t (tgO (7 : Int))) [] (elT (el (encTs of) 0 5))).length ≤ 9223372036854775807)) (Q (CR.ret (AV.str ([110, 111, 116, 32] ++ onEnc encT (fun (t : Tst) => wrT it t (tgO (7 : Int))) [] (elT (el (encTs of) 0 5)))))) False) False) False) False) False := by
  have _ := hc
  obtain ⟨x, rfl⟩ : ∃ x, of = [x] := by
    match of, hl with
    | [x], _ => exact ⟨x, rfl⟩
  have he : el (encTs [x]) 0 5 = encT x := encTs_get (l := [x]) (k := 0) rfl
  have hs := size_get (l := [x]) (k := 0) rfl
  have hlw := wrT_len hit x 3
  have hnx : ndL [x] = ndT x := by simp [ndL]
  have hwr : wrL it [x] 3 [] true [] = wrT it x 3 := by simp [wrL]
  have h7 : tgO 7 = 3 := rfl
  rw [hwr] at hQ
  rw [he, encT_w, onEnc_eq (fun _ _ => encT_inj _ _), h7]
  refine cIf_pos rfl (cIf_pos (decide_eq_true (encTs_len [x]).symm) (cIf_pos (decide_eq_true (by rw [encTs_len]; exact Nat.le_refl 5)) (cIf_pos (encT_like x) ⟨⟨⟨⟨x, rfl, hwf.1, by simpa [shTs] using hsh, by omega⟩, .inr (.inl rfl)⟩, ?_⟩, cIf_pos (decide_eq_true (by simp only [List.length_cons, List.length_nil]; omega)) hQ⟩)))
  simp only [List.nil_append, List.append_nil, avSizeL, avSize]
  omega
theorem c71 {op attr side n : Int} (hn : nodeB op attr side n of.length = true) (hnd : ndL of ≤ 999) {k : Int} (hk : k = 0 ∨ k = 7 ∨ k = 8 ∨ k = 9) {a b : List UInt8} {mk : Bool} (ha : a = cS nmA attr.toNat) (hb : side = 1 ∨ side = 2 → b = cS sdA side.toNat ++ [32]) (hbl : b.length ≤ 6) (hmk : mk = (decide (3 ≤ attr) && decide (attr ≤ 5))) (hQ : Q (.ret (.str (wrT it (.mk op attr side n of) (tgO k))))) :
    WCut (Tryz.X71c it m) (cd PP 71 [1, 1, 1, 1, 1, 1]) ([X, U k, .ptr 0 0, X, X, .str a, .str b, Bo mk] ++ List.replicate 119 X) ⟨[some (.cells [U op, U attr, U side, I n, .vs (encTs of) of.length .none] 71)], [], []⟩ (kRet (Tryz.X71c it m) 71 Q) := by
  have n2 := (node5 hn).2.1
  have n3 := (node5 hn).2.2
  have h1 := nm_len attr.toNat
  have h3 := hit n
  rw [← ha] at h1
  refine WCut_of (C := Tryz.X71c it m) (wcx_ones Tryz.bok hc) (wcx_ok Tryz.bok hc) ?_
  rw [v71c]
  rw [wrT, ← ha] at hQ
  refine cIf_intro (fun h => ?_) (fun e1 => cIf_intro (fun h => ?_) (fun e2 => cIf_intro (fun h => ?_) (fun e3 => cIf_intro (fun h => ?_) (fun e4 => cIf_intro (fun h => ?_) (fun e5 => cIf_intro (fun h => ?_) (fun e6 => cIf_intro (fun h => ?_) (fun e7 => ?_)))))))
  · have h : op = 1 := by simpa using h
    rw [if_pos h] at hQ; exact hQ
  · have h : op = 2 := by simpa using h
    rw [if_neg (by omega), if_pos h] at hQ
    exact cIf_pos (lst_len (by simp only [List.length_cons, List.length_nil]; omega)) hQ
  · have h : op = 3 := by simpa using h
    rw [if_neg (by omega), if_neg (by omega), if_pos h] at hQ
    exact cIf_pos (lst_len (by simp only [List.length_cons, List.length_nil]; omega)) hQ
  · have h : op = 4 := by simpa using h
    rw [if_neg (by omega), if_neg (by omega), if_neg (by omega), if_pos h] at hQ
    exact cIf_pos (lst_len (by simp only [List.length_cons, List.length_nil]; omega)) hQ
  · have h : op = 5 := by simpa using h
    have hr := n2 h
    rw [if_neg (by omega), if_neg (by omega), if_neg (by omega), if_neg (by omega), if_pos h, ← hb (by omega)] at hQ
    refine cIf_intro (fun hm1 => ?_) (fun hm1 => ?_)
    · rw [hmk] at hm1
      simp only [Bool.and_eq_true, decide_eq_true_eq] at hm1
      rw [if_neg (by omega)] at hQ
      exact cIf_pos (lst_len (by omega)) hQ
    · rw [hmk] at hm1
      have hm1 : ¬ (3 ≤ attr ∧ attr ≤ 5) := fun hh => by rw [decide_eq_true hh.1, decide_eq_true hh.2] at hm1; cases hm1
      rw [if_pos (by omega), ← List.append_assoc] at hQ
      exact cIf_pos (lst_len (by omega)) (cIf_pos (lst_len (by simp only [List.length_append, List.length_cons, List.length_nil]; omega)) ⟨by omega, cIf_pos (lst_len (by simp only [List.length_append, List.length_cons, List.length_nil]; omega)) hQ⟩)
  · have h : op = 6 := by simpa using h
    have hr := n3 h
    rw [if_neg (by omega), if_neg (by omega), if_neg (by omega), if_neg (by omega), if_neg (by omega), if_pos h, ← hb (by omega)] at hQ
    exact cIf_pos (lst_len (by omega)) (cIf_pos (lst_len (by simp only [List.length_append, List.length_cons, List.length_nil]; omega)) ⟨by omega, cIf_pos (lst_len (by simp only [List.length_append, List.length_cons, List.length_nil]; omega)) hQ⟩)
  · have h : op = 7 := by simpa using h
    rw [if_neg (by omega), if_neg (by omega), if_neg (by omega), if_neg (by omega), if_neg (by omega), if_neg (by omega), if_pos h] at hQ
    have hl : of.length = 1 := by
      rcases node_op hn with h' | ⟨h', _⟩ | ⟨_, h'⟩ | h' | h' <;> omega
    exact w71n hit hc hlen hwf hsh hsz hl hnd hQ
  · have h : op ≠ 1 ∧ op ≠ 2 ∧ op ≠ 3 ∧ op ≠ 4 ∧ op ≠ 5 ∧ op ≠ 6 ∧ op ≠ 7 := by simp at e1 e2 e3 e4 e5 e6 e7; omega
    have h89 : op = 8 ∨ op = 9 := by
      rcases node_op hn with h' | ⟨h', _⟩ | ⟨h', _⟩ | h' | h' <;> omega
    rw [if_neg (by omega), if_neg (by omega), if_neg (by omega), if_neg (by omega), if_neg (by omega), if_neg (by omega), if_neg (by omega)] at hQ
    have ho : decide ((op = 9 ∧ k ≠ 0) ∨ (op = 8 ∧ (k = 8 ∨ k = 7))) = true ↔ (op = 9 ∧ k ≠ 0) ∨ (op = 8 ∧ (k = 8 ∨ k = 7)) := decide_eq_true_iff
    refine cIf_intro (fun h9 => ?_) (fun h9 => ?_)
    · have h9 : op = 9 := by simpa using h9
      rw [if_pos h9] at hQ
      refine l71s hit hc hlen hwf hsh hsz hnd (by simp) h89 ho ?_
      rw [show tgO op = 2 by rw [h9]; rfl]
      by_cases hk0 : k = 0
      · rw [if_neg (by rw [hk0]; decide)] at hQ
        rw [if_neg (by rw [ho]; omega)]
        exact hQ
      · rw [if_pos (by rcases hk with h' | h' | h' | h' <;> first | omega | (rw [h']; decide))] at hQ
        rw [if_pos (by rw [ho]; omega)]
        exact hQ
    · have h9 : ¬ op = 9 := by simpa using h9
      have h8 : op = 8 := by omega
      rw [if_neg h9] at hQ
      refine l71s hit hc hlen hwf hsh hsz hnd (by simp) h89 ho ?_
      rw [show tgO op = 1 by rw [h8]; rfl]
      rcases hk with h' | h' | h' | h'
      · rw [if_neg (by rw [h']; decide)] at hQ
        rw [if_neg (by rw [ho]; omega)]
        exact hQ
      · rw [if_pos (by rw [h']; decide)] at hQ
        rw [if_pos (by rw [ho]; omega)]
        exact hQ
      · rw [if_pos (by rw [h']; decide)] at hQ
        rw [if_pos (by rw [ho]; omega)]
        exact hQ
      · rw [if_neg (by rw [h']; decide)] at hQ
        rw [if_neg (by rw [ho]; omega)]
        exact hQ
end
end Go.Proofs
/-! C33 -/
set_option maxRecDepth 100000
set_option linter.unusedVariables false
namespace Go.Proofs
open Go Go.Ev
theorem ct115 : Ct Tryz.B.c0 115 R115 := Ct.of_wp (l := []) (lm := []) Tryz.bok (Cts.nil _) ⟨_, _, Tryz.func115, rfl⟩ fun args D r hR hD => by
  unfold R115 at hR
  split at hR <;> cases hR
  refine ⟨rfl, ?_⟩
  show wpF Tryz.X115 115 [] _
  rw [v115]
  rfl
theorem hd71 {attr : Int} (h : 1 ≤ attr ∧ attr ≤ 7) : decide ((0 : Int) ≤ IntKind.u8.wrap (attr - (1 : Int))) = true ∧ decide ((IntKind.u8.wrap (attr - (1 : Int))).toNat < 7) = true ∧ decide (0 < (List.drop ((IntKind.u8.wrap (attr - (1 : Int))).toNat * 1) nmA.tail).length) = true ∧ likeOk (AV.ofVal (Value.string (ByteArray.mk #[]))) ((List.drop ((IntKind.u8.wrap (attr - (1 : Int))).toNat * 1) nmA.tail).getD 0 AV.bad) = true ∧ cS (List.drop ((IntKind.u8.wrap (attr - (1 : Int))).toNat * 1) nmA.tail) 0 = cS nmA attr.toNat := by
  have h7 : attr = 1 ∨ attr = 2 ∨ attr = 3 ∨ attr = 4 ∨ attr = 5 ∨ attr = 6 ∨ attr = 7 := by omega
  rcases h7 with rfl | rfl | rfl | rfl | rfl | rfl | rfl <;> exact ⟨rfl, rfl, rfl, rfl, rfl⟩
theorem node_at {op attr side n : Int} {len : Nat} (h : nodeB op attr side n len = true) : 0 ≤ attr ∧ attr ≤ 7 := by
  unfold nodeB nodeBx at h
  repeat' split at h
  all_goals first
    | (simp at h; omega)
    | cases h
section
attribute [local irreducible] wpF
variable {it : Int → List UInt8} (hit : ∀ z, (it z).length ≤ 20) {m : Nat} (hc : Cts Tryz.B [(71, (R71 it).below m), (67, R67 it), (115, R115), (116, R116)]) {of : List Tst} (hlen : of.length ≤ 9223372036854775806) (hwf : wfTs of) (hsh : shTs of = true) (hsz : avSizeL (encTs of) + 7 ≤ m) {Q : CR → Prop}
include hit hc hlen hwf hsh hsz
theorem w71 {op attr side n : Int} (hn : nodeB op attr side n of.length = true) (hnd : ndL of ≤ 999) {k : Int} (hk : k = 0 ∨ k = 7 ∨ k = 8 ∨ k = 9) (hQ : Q (.ret (.str (wrT it (.mk op attr side n of) (tgO k))))) : wpF (Tryz.X71c it m) 71 [.agg [U op, U attr, U side, I n, .vs (encTs of) of.length .none], U k] Q := by
  have hat := node_at hn
  rw [v71h]
  have b2 : ∀ {s : Int}, s = 2 → (s = 1 ∨ s = 2 → ([111, 116, 104, 101, 114, 32] : List UInt8) = cS sdA s.toNat ++ [32]) := fun h _ => by subst h; rfl
  have b1 : ∀ {s : Int}, ¬ s = 2 → (s = 1 ∨ s = 2 → ([111, 119, 110, 32] : List UInt8) = cS sdA s.toNat ++ [32]) := fun h h' => by
    rcases h' with rfl | h'
    · rfl
    · exact absurd h' h
  refine cIf_intro (fun h => ?_) (fun h => ?_)
  · have h := of_decide_eq_true h
    obtain ⟨p1, p2, p3, p4, p5⟩ := hd71 (attr := attr) ⟨by omega, hat.2⟩
    refine ⟨trivial, rfl, cIf_pos p1 (cIf_pos p2 (cIf_pos p3 (cIf_pos p4 ?_)))⟩
    rw [p5]
    refine cIf_intro (fun hs => ⟨trivial, ?_⟩) (fun hs => ⟨trivial, ?_⟩)
    · exact c71 hit hc hlen hwf hsh hsz hn hnd hk rfl (b2 (by simpa using hs)) (by simp) rfl hQ
    · exact c71 hit hc hlen hwf hsh hsz hn hnd hk rfl (b1 (by simpa using hs)) (by simp) rfl hQ
  · have h := of_decide_eq_false h
    have h0 : attr = 0 := by omega
    have ha : ([] : List UInt8) = cS nmA attr.toNat := by rw [h0]; rfl
    refine cIf_intro (fun hs => ⟨trivial, ?_⟩) (fun hs => ⟨trivial, ?_⟩)
    · exact c71 hit hc hlen hwf hsh hsz hn hnd hk ha (b2 (by simpa using hs)) (by simp) rfl hQ
    · exact c71 hit hc hlen hwf hsh hsz hn hnd hk ha (b1 (by simpa using hs)) (by simp) rfl hQ
end
attribute [local irreducible] wpF
theorem ct71 {it : Int → List UInt8} (hit : ∀ z, (it z).length ≤ 20) (h67 : Ct Tryz.B.c0 67 (R67 it)) : Ct Tryz.B.c0 71 (R71 it) := Ct.of_rec (l := [(67, R67 it), (115, R115), (116, R116)]) (lm := lm71c) (tp := []) (ct := [8]) (sm := []) Tryz.bok ((((Cts.nil _).cons ct116).cons ct115).cons h67) ⟨_, _, Tryz.func71, rfl⟩ fun m args D r hc hR hD hm => by
  unfold R71 at hR
  split at hR <;> cases hR
  obtain ⟨⟨⟨op, attr, side, n, of⟩, rfl, hw, hs, hnd⟩, hk⟩ := hD
  simp only [wfT] at hw
  simp only [shT, Bool.and_eq_true] at hs
  rw [ndT_mk] at hnd
  rename_i k
  refine ⟨by simp [noHL, noH, noH_encT], ?_⟩
  rw [show scrubL 0 [AV.agg (encT (.mk op attr side n of)), .int .u8 k] = [AV.agg (encT (.mk op attr side n of)), .int .u8 k] by simp [scrubL, scrub, sc_encT]]
  rw [onEnc_eq (fun _ _ => encT_inj _ _)]
  have hl := ndL_len of
  have hsz : avSizeL (encTs of) + 7 ≤ m := by simp only [avSizeL, avSize, encT] at hm; omega
  rw [show encT (.mk op attr side n of) = [U op, U attr, U side, I n, .vs (encTs of) of.length .none] from by rw [encT]]
  exact w71 hit hc (by omega) hw.2.2.2.2.2.2.2.2.2 hs.2 hsz hs.1 (by omega) hk rfl
theorem ct71' : Ct Tryz.B.c0 71 (R71 itM) := ct71 itM_len ct67
end Go.Proofs
/-! VC34 -/
set_option maxRecDepth 100000
set_option linter.unusedVariables false
namespace Go.Proofs
open Go Go.Ev
/-- A rule's line. -/
def lineR (it : Int → List UInt8) (x : Rul) : List UInt8 := [114, 117, 108, 101, 32] ++ x.name ++ [32, 114, 97, 110, 107, 32] ++ it x.rank ++ [32, 119, 101, 105, 103, 104, 116, 32] ++ it x.weight ++ [32, 58, 32] ++ wrT it x.t 0 ++ [10]
def prL (it : Int → List UInt8) : List Rul → List UInt8 → List UInt8
  | [], s => s
  | x :: l, s => prL it l (s ++ lineR it x)
def prR (it : Int → List UInt8) (rs : List Rul) : List UInt8 := if chk rs = 0 then prL it rs [] else []
noncomputable def R26 (it : Int → List UInt8) : Spc := fun args => match args with
  | [.agg [.vs l len .none]] => some (∃ rs, l = encRs rs ∧ len = rs.length ∧ wfRs rs, .ret (.str (onEnc encRs (prR it) [] l)))
  | _ => none
def lm26 : List (Nat × List Nat) := [(6, [1, 4, 5]), (11, [4])]
noncomputable def Tryz.X26 (it : Int → List UInt8) : WCx := Tryz.B.wcx [(67, R67 it), (70, R70), (71, R71 it)] lm26 [] [] [(6, 1)]
theorem v26 (it : Int → List UInt8) (l : List AV) (len : Nat) (Q : CR → Prop) : wpF (Tryz.X26 it) 26 [.agg [.vs l len .none]] Q =
  ((∃ (rs : List Rul), l = encRs rs ∧ len = rs.length ∧ wfRs rs) ∧ cIf (onEnc encRs chk (0 : Int) l != (0 : Int)) (Q (CR.ret (AV.str []))) (cIf ([some (HB.cells [AV.vs l len Tok.none] 25)].all (okBlk 1)) (WLoop (Tryz.X26 it) (cd (Tryz.X26 it).P 26 [1, 1, 1, 1, 0, 1, 0, 0]) ([X, AV.ptr 0 0, X, X, AV.str [], I (0 : Int)] ++ List.replicate 41 X) (St.mk [some (HB.cells [AV.vs l len Tok.none] 25)] [] []) (kBlock 0 (kSeq (Tryz.X26 it) (cd (Tryz.X26 it).P 26 [1, 1, 1, 1, 1]) (kRet (Tryz.X26 it) 26 Q)))) False)) := by kernel_rfl
theorem v26l (it : Int → List UInt8) (l : List AV) (len : Nat) (s : List UInt8) (i : Int) (Q : CR → Prop) : wpC (Tryz.X26 it) (cd PP 26 [1, 1, 1, 1, 0, 1, 0, 0]) ([X, .ptr 0 0, X, X, .str s, I i] ++ List.replicate 41 X) ⟨[some (.cells [.vs l len .none] 25)], [], []⟩ (kLoop (Tryz.X26 it) (cd PP 26 [1, 1, 1, 1, 0, 1, 0, 0]) (kBlock 0 (kSeq (Tryz.X26 it) (cd PP 26 [1, 1, 1, 1, 1]) (kRet (Tryz.X26 it) 26 Q)))) =
  (cIf (decide (i < (↑len : Int))) (cIf (decide ((0 : Int) ≤ i)) (cIf (decide (i.toNat < len)) (cIf (decide (len * 8 = l.length)) (cIf (decide (8 ≤ (List.drop (i.toNat * 8) l).length)) (cIf (like zR (el (List.drop (i.toNat * 8) l) 0 8)) (((∃ (t : Tst), (elT3 (el (List.drop (i.toNat * 8) l) 0 8)) = encT t ∧ wfT t ∧ shT t = true ∧ ndT t ≤ 1000) ∧ ((0 : Int) = (0 : Int) ∨ (0 : Int) = (7 : Int) ∨ (0 : Int) = (8 : Int) ∨ (0 : Int) = (9 : Int))) ∧ cIf (decide (s.length + [114, 117, 108, 101, 32].length ≤ 9223372036854775807)) (cIf (decide ((s ++ [114, 117, 108, 101, 32]).length + (cS (el (List.drop (i.toNat * 8) l) 0 8) 0).length ≤ 9223372036854775807)) (cIf (decide ((s ++ [114, 117, 108, 101, 32] ++ cS (el (List.drop (i.toNat * 8) l) 0 8) 0).length + [32, 114, 97, 110, 107, 32].length ≤ 9223372036854775807)) (((0 : Int) ≤ cI (el (List.drop (i.toNat * 8) l) 0 8) 1 ∧ cI (el (List.drop (i.toNat * 8) l) 0 8) 1 ≤ (1000 : Int)) ∧ St.mk [some (HB.cells [AV.vs l len Tok.none] 25), some (HB.cells (elR (el (List.drop (i.toNat * 8) l) 0 8)) 73)] [] [1] = St.mk [some (HB.cells [AV.vs l len Tok.none] 25), some (HB.cells (elR (el (List.drop (i.toNat * 8) l) 0 8)) 73)] [] [1] ∧ cIf (decide ((s ++ [114, 117, 108, 101, 32] ++ cS (el (List.drop (i.toNat * 8) l) 0 8) 0 ++ [32, 114, 97, 110, 107, 32]).length + (it (cI (el (List.drop (i.toNat * 8) l) 0 8) 1)).length ≤ 9223372036854775807)) (cIf (decide ((s ++ [114, 117, 108, 101, 32] ++ cS (el (List.drop (i.toNat * 8) l) 0 8) 0 ++ [32, 114, 97, 110, 107, 32] ++ it (cI (el (List.drop (i.toNat * 8) l) 0 8) 1)).length + [32, 119, 101, 105, 103, 104, 116, 32].length ≤ 9223372036854775807)) (((0 : Int) ≤ cI (el (List.drop (i.toNat * 8) l) 0 8) 2 ∧ cI (el (List.drop (i.toNat * 8) l) 0 8) 2 ≤ (1000 : Int)) ∧ St.mk [some (HB.cells [AV.vs l len Tok.none] 25), some (HB.cells (elR (el (List.drop (i.toNat * 8) l) 0 8)) 73)] [] [1] = St.mk [some (HB.cells [AV.vs l len Tok.none] 25), some (HB.cells (elR (el (List.drop (i.toNat * 8) l) 0 8)) 73)] [] [1] ∧ cIf (decide ((s ++ [114, 117, 108, 101, 32] ++ cS (el (List.drop (i.toNat * 8) l) 0 8) 0 ++ [32, 114, 97, 110, 107, 32] ++ it (cI (el (List.drop (i.toNat * 8) l) 0 8) 1) ++ [32, 119, 101, 105, 103, 104, 116, 32]).length + (it (cI (el (List.drop (i.toNat * 8) l) 0 8) 2)).length ≤ 9223372036854775807)) (cIf (decide ((s ++ [114, 117, 108, 101, 32] ++ cS (el (List.drop (i.toNat * 8) l) 0 8) 0 ++ [32, 114, 97, 110, 107, 32] ++ it (cI (el (List.drop (i.toNat * 8) l) 0 8) 1) ++ [32, 119, 101, 105, 103, 104, 116, 32] ++ it (cI (el (List.drop (i.toNat * 8) l) 0 8) 2)).length + [32, 58, 32].length ≤ 9223372036854775807)) (cIf (decide ((s ++ [114, 117, 108, 101, 32] ++ cS (el (List.drop (i.toNat * 8) l) 0 8) 0 ++ [32, 114, 97, 110, 107, 32] ++ it (cI (el (List.drop (i.toNat * 8) l) 0 8) 1) ++ [32, 119, 101, 105, 103, 104, 116, 32] ++ it (cI (el (List.drop (i.toNat * 8) l) 0 8) 2) ++ [32, 58, 32]).length + (onEnc encT (fun (t : Tst) => wrT it t (tgO (0 : Int))) [] (elT3 (el (List.drop (i.toNat * 8) l) 0 8))).length ≤ 9223372036854775807)) (cIf (decide ((s ++ [114, 117, 108, 101, 32] ++ cS (el (List.drop (i.toNat * 8) l) 0 8) 0 ++ [32, 114, 97, 110, 107, 32] ++ it (cI (el (List.drop (i.toNat * 8) l) 0 8) 1) ++ [32, 119, 101, 105, 103, 104, 116, 32] ++ it (cI (el (List.drop (i.toNat * 8) l) 0 8) 2) ++ [32, 58, 32] ++ onEnc encT (fun (t : Tst) => wrT it t (tgO (0 : Int))) [] (elT3 (el (List.drop (i.toNat * 8) l) 0 8))).length + [10].length ≤ 9223372036854775807)) (cIf ([some (HB.cells [AV.vs l len Tok.none] 25)].all (okBlk 1)) (WLoop (Tryz.X26 it) (cd PP 26 [1, 1, 1, 1, 0, 1, 0, 0]) ([X, AV.ptr 0 0, X, X, AV.str (s ++ [114, 117, 108, 101, 32] ++ cS (el (List.drop (i.toNat * 8) l) 0 8) 0 ++ [32, 114, 97, 110, 107, 32] ++ it (cI (el (List.drop (i.toNat * 8) l) 0 8) 1) ++ [32, 119, 101, 105, 103, 104, 116, 32] ++ it (cI (el (List.drop (i.toNat * 8) l) 0 8) 2) ++ [32, 58, 32] ++ onEnc encT (fun (t : Tst) => wrT it t (tgO (0 : Int))) [] (elT3 (el (List.drop (i.toNat * 8) l) 0 8)) ++ [10]), I (IntKind.i64.wrap (i + (1 : Int)))] ++ List.replicate 41 X) (St.mk [some (HB.cells [AV.vs l len Tok.none] 25)] [] []) (kBlock 0 (kSeq (Tryz.X26 it) (cd PP 26 [1, 1, 1, 1, 1]) (kRet (Tryz.X26 it) 26 Q)))) False) False) False) False) False) False) False) False) False) False) False) False) False) False) False) (Q (CR.ret (AV.str s)))) := by kernel_rfl
end Go.Proofs
/-! C34 -/
set_option maxRecDepth 100000
set_option linter.unusedVariables false
namespace Go.Proofs
open Go Go.Ev
mutual
theorem nd_cnt : ∀ (t : Tst) (m : Int), 0 ≤ m → cntT t m ≤ m → (ndT t : Int) = cntT t m
  | .mk _ _ _ _ of, m, hm, h => by
    simp only [cntT] at h ⊢
    rw [ndT, ndl_cnt of m 1 (by omega) hm h]
    omega
theorem ndl_cnt : ∀ (l : List Tst) (m n : Int), 1 ≤ n → 0 ≤ m → cntL l m n ≤ m → cntL l m n = n + ndL l
  | [], m, n, h1, hm, h => by simp only [cntL, ndL]; omega
  | t :: l, m, n, h1, hm, h => by
    simp only [cntL] at h ⊢
    by_cases hn : n ≤ m
    · rw [if_pos hn] at h ⊢
      have b1 := cntT_bd t (m - n) (by omega)
      have b2 := (cntL_bd l m (n + cntT t (m - n)) (by omega) (by omega) hm).1
      have e1 := nd_cnt t (m - n) (by omega) (by omega)
      rw [ndl_cnt l m _ (by omega) hm h, ndL, ← e1]
      omega
    · rw [if_neg hn] at h
      omega
end
theorem nd_small {t : Tst} (h : smallB t = true) : ndT t ≤ 24 := by
  unfold smallB szR at h
  by_cases h1 : cntT t 24 > 24
  · rw [if_pos h1] at h; simp at h
  · have := nd_cnt t 24 (by omega) (by omega)
    omega
theorem word_len {s : List UInt8} (h : isWordB s = true) : s.length ≤ 24 := by
  unfold isWordB at h
  simp only [Bool.and_eq_true, decide_eq_true_eq] at h
  exact h.1.1.1.2
section
variable {it : Int → List UInt8} (hit : ∀ z, (it z).length ≤ 20) (hc : Cts Tryz.B [(67, R67 it), (70, R70), (71, R71 it)]) {rs : List Rul} (hrs : okRs rs) (hsh : ∀ x ∈ rs, shT x.t = true) (hok : ∀ x ∈ rs, smallB x.t = true ∧ rangesB x = true ∧ isWordB x.name = true) {Q : CR → Prop}
include hit hc hrs hsh hok
theorem l26 : ∀ (d i : Nat) (s : List UInt8), rs.length - i = d → i ≤ rs.length → s.length ≤ 2000 * i → Q (.ret (.str (prL it (rs.drop i) s))) →
    WLoop (Tryz.X26 it) (cd PP 26 [1, 1, 1, 1, 0, 1, 0, 0]) ([X, .ptr 0 0, X, X, .str s, I i] ++ List.replicate 41 X) ⟨[some (.cells [.vs (encRs rs) rs.length .none] 25)], [], []⟩ (kBlock 0 (kSeq (Tryz.X26 it) (cd PP 26 [1, 1, 1, 1, 1]) (kRet (Tryz.X26 it) 26 Q))) := by
  have hn := hrs.2.1
  intro d
  induction d with
  | zero =>
    intro i s hd hi hb hQ
    have hi' : i = rs.length := by omega
    subst hi'
    rw [List.drop_length, prL] at hQ
    refine WLoop_unroll (C := Tryz.X26 it) (wcx_ones Tryz.bok hc) (wcx_ok Tryz.bok hc) ?_
    rw [v26l]
    exact cIf_neg (decide_eq_false (by omega)) hQ
  | succ d ih =>
    intro i s hd hi hb hQ
    have hlt : i < rs.length := by omega
    obtain ⟨x, hx, hdr⟩ := drop_cons hlt
    have hxm := List.mem_of_getElem? hx
    obtain ⟨o1, o2, o3⟩ := hok x hxm
    have hnd := nd_small o1
    have hwl := wrT_len hit x.t 0
    have hnl := word_len o3
    have i1 := hit x.rank
    have i2 := hit x.weight
    simp only [rangesB, Bool.and_eq_true, decide_eq_true_eq] at o2
    rw [hdr, prL] at hQ
    refine WLoop_unroll (C := Tryz.X26 it) (wcx_ones Tryz.bok hc) (wcx_ok Tryz.bok hc) ?_
    rw [v26l, Int.toNat_natCast i, encRs_el hx, encR_w, elT3_enc, wA1 (a := i) (by omega), onEnc_eq (fun _ _ => encT_inj _ _), show tgO 0 = 0 from rfl, show cS (encR x) 0 = x.name from rfl, show cI (encR x) 1 = x.rank from rfl, show cI (encR x) 2 = x.weight from rfl, show s ++ [114, 117, 108, 101, 32] ++ x.name ++ [32, 114, 97, 110, 107, 32] ++ it x.rank ++ [32, 119, 101, 105, 103, 104, 116, 32] ++ it x.weight ++ [32, 58, 32] ++ wrT it x.t 0 ++ [10] = s ++ lineR it x from by simp only [lineR, List.append_assoc]]
    have hl : (s ++ lineR it x).length ≤ 2000 * (i + 1) := by
      unfold lineR
      simp only [List.length_append, List.length_cons, List.length_nil]
      omega
    have st : ∀ {a b : Nat}, a + b ≤ 100000 → decide (a + b ≤ 9223372036854775807) = true := fun h => decide_eq_true (by omega)
    refine cIf_pos (decide_eq_true (by omega)) (cIf_pos (decide_eq_true (by omega)) (cIf_pos (decide_eq_true hlt) (cIf_pos (decide_eq_true (encRs_len rs).symm) (cIf_pos (decide_eq_true (enc_drop_len (encRs_len rs) hlt)) (cIf_pos (encR_like x) ⟨⟨⟨x.t, rfl, (hrs.1.2 x hxm).1, hsh x hxm, by omega⟩, .inl rfl⟩, ?_⟩)))))
    refine cIf_pos (st (by simp only [List.length_append, List.length_cons, List.length_nil]; omega)) (cIf_pos (st (by simp only [List.length_append, List.length_cons, List.length_nil]; omega)) (cIf_pos (st (by simp only [List.length_append, List.length_cons, List.length_nil]; omega)) ⟨by omega, rfl, cIf_pos (st (by simp only [List.length_append, List.length_cons, List.length_nil]; omega)) (cIf_pos (st (by simp only [List.length_append, List.length_cons, List.length_nil]; omega)) ⟨by omega, rfl, cIf_pos (st (by simp only [List.length_append, List.length_cons, List.length_nil]; omega)) (cIf_pos (st (by simp only [List.length_append, List.length_cons, List.length_nil]; omega)) (cIf_pos (st (by simp only [List.length_append, List.length_cons, List.length_nil]; omega)) (cIf_pos (st (by simp only [List.length_append, List.length_cons, List.length_nil]; omega)) (cIf_pos (blk1 rs) (ih (i + 1) _ (by omega) (by omega) hl hQ)))))⟩)⟩))
end
theorem w26 {it : Int → List UInt8} (hit : ∀ z, (it z).length ≤ 20) (hc : Cts Tryz.B [(67, R67 it), (70, R70), (71, R71 it)]) {rs : List Rul} (hw : wfRs rs) {Q : CR → Prop} (hQ : Q (.ret (.str (prR it rs)))) : wpF (Tryz.X26 it) 26 [.agg [.vs (encRs rs) rs.length .none]] Q := by
  rw [v26, onEnc_eq encRs_inj]
  unfold prR at hQ
  refine ⟨⟨rs, rfl, rfl, hw⟩, cIf_intro (fun h => ?_) (fun h => ?_)⟩
  · have h : ¬ chk rs = 0 := by simpa using h
    rw [if_neg h] at hQ; exact hQ
  · have h : chk rs = 0 := by simpa using h
    obtain ⟨h1, h2, h3⟩ := chk_ok hw h
    rw [if_pos h] at hQ
    exact cIf_pos (blk1 rs) (l26 hit hc h1 h2 h3 rs.length 0 [] (by omega) (by omega) (by simp) hQ)
theorem ct26 {it : Int → List UInt8} (hit : ∀ z, (it z).length ≤ 20) (h67 : Ct Tryz.B.c0 67 (R67 it)) (h71 : Ct Tryz.B.c0 71 (R71 it)) : Ct Tryz.B.c0 26 (R26 it) := Ct.of_wp (l := [(67, R67 it), (70, R70), (71, R71 it)]) (lm := lm26) (tp := []) (ct := []) (sm := [(6, 1)]) Tryz.bok ((((Cts.nil _).cons h71).cons ct70).cons h67) ⟨_, _, Tryz.func26, rfl⟩ fun args D r hR hD => by
  unfold R26 at hR
  split at hR <;> cases hR
  obtain ⟨rs, rfl, rfl, hw⟩ := hD
  refine ⟨by simp [noHL, noH, noH_encRs], ?_⟩
  rw [show scrubL 0 [AV.agg [.vs (encRs rs) rs.length .none]] = [AV.agg [.vs (encRs rs) rs.length .none]] by simp [scrubL, scrub, sc_encRs, Tok.scrub], onEnc_eq encRs_inj]
  exact w26 hit ((((Cts.nil _).cons h71).cons ct70).cons h67) hw rfl
end Go.Proofs
