/- Contracts of functions of the program and of the reference. -/
import Derived.Test.YtljjkomdibkjpaaGreatDoorK2
import Derived.Laws.RangeAny
set_option linter.unusedVariables false
set_option linter.unusedSimpArgs false
/-! VC7 -/
set_option maxRecDepth 100000
set_option linter.unusedVariables false
namespace Go.Proofs
open Go Go.Ev
def R118 : Spc := fun args => match args with
  | [.int .i32 c] => some (True, rB (!joinsI c))
  | _ => none
def njL : List UInt8 → Int → Int
  | [], _ => -1
  | c :: l, i => if joinsI (c.toNat : Int) = true then njL l (i + 1) else i
def R197 : Spc := fun args => match args with
  | [.str s, .fn (.func 118) [] [], .bool true] => some (s.length ≤ 9223372036854775807, rI (njL s 0))
  | _ => none
def R155 : Spc := fun args => match args with
  | [.str s, .fn (.func 118) [] []] => some (s.length ≤ 9223372036854775807, rI (njL s 0))
  | _ => none
def R117 : Spc := fun args => match args with
  | [.str s, .fn (.func 118) [] []] => some (s.length ≤ 9223372036854775807, rB (decide (njL s 0 ≥ 0)))
  | _ => none
noncomputable def Tryz.X155 : WCx := Tryz.B.wcx [(197, R197)]
noncomputable def Tryz.X117 : WCx := Tryz.B.wcx [(155, R155)]
noncomputable def Tryz.X72 : WCx := Tryz.B.wcx [(117, R117)]
noncomputable def Tryz.X118 : WCx := Tryz.B.wcx [(97, R97)]
noncomputable def Tryz.X197 : WCx := Tryz.B.wcx [(118, R118)] [(2, [1, 2, 10]), (6, [])]
theorem v118 (c : Int) (Q : CR → Prop) : wpF Tryz.X118 118 [.int .i32 c] Q =
  (True ∧ Q (CR.ret (Bo !joinsI c))) := by kernel_rfl
theorem v197 (s : List UInt8) (Q : CR → Prop) : wpF Tryz.X197 197 [.str s, .fn (.func 118) [] [], .bool true] Q =
  (WLoop Tryz.X197 (cd Tryz.X197.P 197 [1, 0, 1, 0, 0]) ([X, AV.fn (Fn.func 118) [] [], Bo true, X, X, X, X, X, X, X, AV.ptr 0 0] ++ List.replicate 10 X) (St.mk [some (HB.iter s 0)] [] []) (kBlock 0 (kSeq Tryz.X197 (cd Tryz.X197.P 197 [1, 1]) (kRet Tryz.X197 197 Q)))) := by kernel_rfl
theorem v197l (s : List UInt8) (i : Nat) (Q : CR → Prop) : wpC Tryz.X197 (cd PP 197 [1, 0, 1, 0, 0]) ([X, .fn (.func 118) [] [], .bool true, X, X, X, X, X, X, X, .ptr 0 0] ++ List.replicate 10 X) ⟨[some (.iter s i)], [], []⟩ (kLoop Tryz.X197 (cd PP 197 [1, 0, 1, 0, 0]) (kBlock 0 (kSeq Tryz.X197 (cd PP 197 [1, 1]) (kRet Tryz.X197 197 Q)))) =
  (cIf (decide (i < s.length)) (True ∧ cIf ((!joinsI (↑(Utf8.decode (ByteArray.mk s.toArray) i).fst : Int)) == true) (Q (CR.ret (I (↑i : Int)))) (WLoop Tryz.X197 (cd PP 197 [1, 0, 1, 0, 0]) ([X, AV.fn (Fn.func 118) [] [], Bo true, X, X, X, X, X, X, X, AV.ptr 0 0] ++ List.replicate 10 X) (St.mk [some (HB.iter s (i + (Utf8.decode (ByteArray.mk s.toArray) i).snd))] [] []) (kBlock 0 (kSeq Tryz.X197 (cd PP 197 [1, 1]) (kRet Tryz.X197 197 Q))))) (Q (CR.ret (I (-1 : Int))))) := by kernel_rfl
theorem v155 (s : List UInt8) (Q : CR → Prop) : wpF Tryz.X155 155 [.str s, .fn (.func 118) [] []] Q =
  (s.length ≤ 9223372036854775807 ∧ Q (CR.ret (I (njL s (0 : Int))))) := by kernel_rfl
theorem v117 (s : List UInt8) (Q : CR → Prop) : wpF Tryz.X117 117 [.str s, .fn (.func 118) [] []] Q =
  (s.length ≤ 9223372036854775807 ∧ Q (CR.ret (Bo (decide (njL s (0 : Int) ≥ (0 : Int)))))) := by kernel_rfl
theorem v72 (s : List UInt8) (Q : CR → Prop) : wpF Tryz.X72 72 [.str s] Q =
  (cIf (s == (ByteArray.mk #[]).data.toList) (Q (CR.ret (Bo false))) (cIf (decide ((↑s.length : Int) > (24 : Int))) (Q (CR.ret (Bo false))) (cIf (decide (0 < s.length)) (cIf (decide ((↑(s.getD 0 (0 : UInt8)).toNat : Int) < (97 : Int))) (Q (CR.ret (Bo false))) (cIf (decide (0 < s.length)) (cIf (decide ((↑(s.getD 0 (0 : UInt8)).toNat : Int) > (122 : Int))) (Q (CR.ret (Bo false))) (s.length ≤ 9223372036854775807 ∧ Q (CR.ret (Bo !decide (njL s (0 : Int) ≥ (0 : Int)))))) False)) False))) := by kernel_rfl
end Go.Proofs
/-! C7 -/
set_option maxRecDepth 100000
set_option linter.unusedVariables false
namespace Go.Proofs
open Go Go.Ev
theorem ct118 : Ct Tryz.B.c0 118 R118 := Ct.of_wp (lm := []) Tryz.bok ((Cts.nil _).cons ct97) ⟨_, _, Tryz.func118, rfl⟩ fun args D r hR hD => by
  unfold R118 at hR
  split at hR <;> cases hR
  exact ⟨rfl, (v118 _ _).mpr ⟨trivial, rfl⟩⟩
theorem dec_low {s : List UInt8} {i : Nat} {x : UInt8} (hx : s[i]? = some x) (h : x.toNat < 128) : Utf8.decode (ByteArray.mk s.toArray) i = (x.toNat, 1) := by
  have hlt := (List.getElem?_eq_some_iff.1 hx).1
  have hg : ((ByteArray.mk s.toArray).get! (i + 0)).toNat = x.toNat := by
    have : (ByteArray.mk s.toArray).get! (i + 0) = x := by
      simp only [Nat.add_zero, ByteArray.get!]
      rw [List.getElem?_eq_getElem hlt] at hx
      have : s.toArray[i]! = s[i] := by simp [hlt]
      rw [this]; exact Option.some.inj hx
    rw [this]
  simp only [Utf8.decode, hg, h, if_true]
theorem dec_high {s : List UInt8} {i : Nat} {x : UInt8} (hx : s[i]? = some x) (h : ¬ x.toNat < 128) : 128 ≤ (Utf8.decode (ByteArray.mk s.toArray) i).1 := by
  have hlt := (List.getElem?_eq_some_iff.1 hx).1
  have hs : i < (ByteArray.mk s.toArray).size := by simpa [ByteArray.size] using hlt
  refine (decode_high (ByteArray.mk s.toArray) i hs ?_).1
  have : (ByteArray.mk s.toArray)[i]'hs = x := by
    rw [List.getElem?_eq_getElem hlt] at hx
    have h1 := Option.some.inj hx
    rw [← h1]; rfl
  rw [this]; omega
theorem joins_high {c : Int} (h : 128 ≤ c) : joinsI c = false := by simp [joinsI]; omega
theorem nj_loop {s : List UInt8} (hlen : s.length ≤ 9223372036854775807) {Q : CR → Prop} : ∀ (d i : Nat), s.length - i = d → i ≤ s.length → Q (rI (njL (s.drop i) i)) →
    WLoop Tryz.X197 (cd PP 197 [1, 0, 1, 0, 0]) ([X, .fn (.func 118) [] [], .bool true, X, X, X, X, X, X, X, .ptr 0 0] ++ List.replicate 10 X) ⟨[some (.iter s i)], [], []⟩ (kBlock 0 (kSeq Tryz.X197 (cd PP 197 [1, 1]) (kRet Tryz.X197 197 Q))) := by
  have c197 : Cts Tryz.B [(118, R118)] := (Cts.nil _).cons ct118
  intro d
  induction d with
  | zero =>
    intro i hd hi hQ
    have hi' : i = s.length := by omega
    subst hi'
    refine WLoop_step Tryz.bok c197 ((v197l _ _ Q).mpr (cIf_neg (by simp) ?_))
    simpa [njL] using hQ
  | succ d ih =>
    intro i hd hi hQ
    have hlt : i < s.length := by omega
    obtain ⟨x, hx, hdr⟩ := drop_cons hlt
    rw [hdr] at hQ
    refine WLoop_step Tryz.bok c197 ((v197l _ _ Q).mpr (cIf_pos (by simpa using hlt) ⟨trivial, ?_⟩))
    by_cases hl : x.toNat < 128
    · rw [dec_low hx hl]
      refine cIf_intro (fun h => ?_) (fun h => ?_)
      · have h : joinsI (x.toNat : Int) = false := by simpa using h
        simpa [njL, h] using hQ
      · have h : joinsI (x.toNat : Int) = true := by simpa using h
        refine ih (i + 1) (by omega) (by omega) ?_
        simpa [njL, h] using hQ
    · have hh := dec_high hx hl
      have h1 : joinsI ((Utf8.decode (ByteArray.mk s.toArray) i).1 : Int) = false := joins_high (by omega)
      have h2 : joinsI (x.toNat : Int) = false := joins_high (by omega)
      refine cIf_pos (by simp [h1]) ?_
      simpa [njL, h2] using hQ
theorem ct197 : Ct Tryz.B.c0 197 R197 := Ct.of_wp (lm := [(2, [1, 2, 10]), (6, [])]) Tryz.bok ((Cts.nil _).cons ct118) ⟨_, _, Tryz.func197, rfl⟩ fun args D r hR hD => by
  unfold R197 at hR
  split at hR <;> cases hR
  exact ⟨rfl, (v197 _ _).mpr (nj_loop hD _ 0 rfl (Nat.zero_le _) rfl)⟩
theorem ct155 : Ct Tryz.B.c0 155 R155 := Ct.of_wp (lm := []) Tryz.bok ((Cts.nil _).cons ct197) ⟨_, _, Tryz.func155, rfl⟩ fun args D r hR hD => by
  unfold R155 at hR
  split at hR <;> cases hR
  exact ⟨rfl, (v155 _ _).mpr ⟨hD, rfl⟩⟩
theorem ct117 : Ct Tryz.B.c0 117 R117 := Ct.of_wp (lm := []) Tryz.bok ((Cts.nil _).cons ct155) ⟨_, _, Tryz.func117, rfl⟩ fun args D r hR hD => by
  unfold R117 at hR
  split at hR <;> cases hR
  exact ⟨rfl, (v117 _ _).mpr ⟨hD, rfl⟩⟩
theorem njL_all : ∀ (s : List UInt8) (i : Int), 0 ≤ i → (0 ≤ njL s i ↔ ¬ (s.all fun c => joinsI (c.toNat : Int)) = true)
  | [], i, h => by simp [njL]
  | c :: l, i, h => by
    simp only [njL]
    split
    · rename_i hc
      rw [njL_all l (i + 1) (by omega)]
      simp [hc]
    · rename_i hc
      simp [hc, h]
def R72 : Spc := fun args => match args with
  | [.str s] => some (s.length ≤ 9223372036854775807, rB (isWordB s))
  | _ => none
theorem ct72 : Ct Tryz.B.c0 72 R72 := Ct.of_wp (lm := []) Tryz.bok ((Cts.nil _).cons ct117) ⟨_, _, Tryz.func72, rfl⟩ fun args D r hR hD => by
  unfold R72 at hR
  split at hR <;> cases hR
  rename_i s
  refine ⟨rfl, (v72 _ _).mpr ?_⟩
  have hnil : (ByteArray.mk #[]).data.toList = ([] : List UInt8) := rfl
  rw [hnil]
  by_cases h0 : s = []
  · subst h0
    exact cIf_pos rfl rfl
  · have hpos : 0 < s.length := by
      cases s with
      | nil => exact absurd rfl h0
      | cons a l => simp
    refine cIf_neg (by simpa using h0) (cIf_intro (fun h1 => ?_) (fun h1 => cIf_pos (by simpa using hpos) (cIf_intro (fun h2 => ?_) (fun h2 => cIf_pos (by simpa using hpos) (cIf_intro (fun h3 => ?_) (fun h3 => ⟨hD, ?_⟩))))))
    · apply rB_eq; simp [isWordB] at *; omega
    · apply rB_eq; simp [isWordB] at *; omega
    · apply rB_eq; simp [isWordB] at *; omega
    · apply rB_eq
      have ha := njL_all s 0 (by omega)
      simp only [isWordB, Bool.and_eq_true, decide_eq_true_eq, Bool.not_eq_true', decide_eq_false_iff_not, ge_iff_le]
      rw [ha]
      simp at h1 h2 h3
      constructor
      · intro hh; exact ⟨⟨⟨⟨by omega, by omega⟩, by simpa using h2⟩, by simpa using h3⟩, Classical.not_not.1 hh⟩
      · intro hh; exact fun hn => hn hh.2
end Go.Proofs
/-! VC8 -/
set_option maxRecDepth 100000
set_option linter.unusedVariables false
namespace Go.Proofs
open Go Go.Ev
def R200 : Spc := fun args => match args with
  | [.bool b] => some (True, rI (mk01 b))
  | _ => none
def RV (f : Prf → Int) : List AV → Option (Prop × CR) := fun args => match args with
  | [.agg [.int .i64 a, .int .i64 b, .bool c, .bool d, .bool e, .int .i64 g, .int .i64 h]] => some (True, rI (f ⟨a, b, c, d, e, g, h⟩))
  | _ => none
noncomputable def Tryz.X161 : WCx := Tryz.B.wcx [(200, R200)]
def l125 : List (FuncId × Spc) := [(158, RV (atI 0)), (159, RV (atI 1)), (160, RV (atI 2)), (161, RV (atI 3)), (162, RV (atI 4)), (163, RV (atI 5)), (164, RV (atI 6)), (165, RV (atI 7))]
noncomputable def Tryz.X125 : WCx := Tryz.B.wcx l125
noncomputable def R125 : Spc := fun args => match args with
  | [.int .u8 a, .agg p] => some ((∃ q, p = encP q) ∧ 0 ≤ a ∧ a ≤ 7, rI (onEnc encP (atI a) 0 p))
  | _ => none
noncomputable def R80 : Spc := fun args => match args with
  | [.agg l, .agg p, .agg q] => some ((∃ t, l = encT t ∧ wfT t ∧ shT t = true) ∧ (∃ a, p = encP a) ∧ ∃ b, q = encP b, rB (onEnc encT (fun t => onEnc encP (fun a => onEnc encP (fun b => hoT t a b) false q) false p) false l))
  | _ => none
def lm80 : List (Nat × List Nat) := [(4, [3, 4, 5, 7]), (20, [3, 4, 5, 81, 82, 83]), (25, [3])]
noncomputable def Tryz.X80 (m : Nat) : WCx := Tryz.B.wcx [(80, R80.below m), (125, R125)] lm80 [] [4] [(20, 3)]
theorem v200 (b : Bool) (Q : CR → Prop) : wpF Tryz.X0 200 [Bo b] Q =
  (cIf b (Q (CR.ret (I (1 : Int)))) (Q (CR.ret (I (0 : Int))))) := by kernel_rfl
theorem v158 (p : Prf) (Q : CR → Prop) : wpF Tryz.X161 158 [.agg (encP p)] Q =
  (Q (CR.ret (I (0 : Int)))) := by kernel_rfl
theorem v159 (p : Prf) (Q : CR → Prop) : wpF Tryz.X161 159 [.agg (encP p)] Q =
  (Q (CR.ret (I p.cl))) := by kernel_rfl
theorem v160 (p : Prf) (Q : CR → Prop) : wpF Tryz.X161 160 [.agg (encP p)] Q =
  (Q (CR.ret (I p.vi))) := by kernel_rfl
theorem v161 (p : Prf) (Q : CR → Prop) : wpF Tryz.X161 161 [.agg (encP p)] Q =
  (True ∧ Q (CR.ret (I (mk01 p.ho)))) := by kernel_rfl
theorem v162 (p : Prf) (Q : CR → Prop) : wpF Tryz.X161 162 [.agg (encP p)] Q =
  (True ∧ Q (CR.ret (I (mk01 p.de)))) := by kernel_rfl
theorem v163 (p : Prf) (Q : CR → Prop) : wpF Tryz.X161 163 [.agg (encP p)] Q =
  (True ∧ Q (CR.ret (I (mk01 p.mo)))) := by kernel_rfl
theorem v164 (p : Prf) (Q : CR → Prop) : wpF Tryz.X161 164 [.agg (encP p)] Q =
  (Q (CR.ret (I p.cr))) := by kernel_rfl
theorem v165 (p : Prf) (Q : CR → Prop) : wpF Tryz.X161 165 [.agg (encP p)] Q =
  (Q (CR.ret (I p.le))) := by kernel_rfl
theorem v125_0 (p : Prf) (Q : CR → Prop) : wpF Tryz.X125 125 [U 0, .agg (encP p)] Q =
  (True ∧ St.mk [some (HB.cells (encP p) 40), some (HB.cells [AV.fn (Fn.func 158) [] [], AV.fn (Fn.func 159) [] [], AV.fn (Fn.func 160) [] [], AV.fn (Fn.func 161) [] [], AV.fn (Fn.func 162) [] [], AV.fn (Fn.func 163) [] [], AV.fn (Fn.func 164) [] [], AV.fn (Fn.func 165) [] []] 195)] [] [1] = St.mk [some (HB.cells (encP p) 40), some (HB.cells [AV.fn (Fn.func 158) [] [], AV.fn (Fn.func 159) [] [], AV.fn (Fn.func 160) [] [], AV.fn (Fn.func 161) [] [], AV.fn (Fn.func 162) [] [], AV.fn (Fn.func 163) [] [], AV.fn (Fn.func 164) [] [], AV.fn (Fn.func 165) [] []] 195)] [] [1] ∧ Q (CR.ret (I (atI (0 : Int) (Prf.mk p.cl p.vi p.ho p.de p.mo p.cr p.le))))) := by kernel_rfl
theorem v125_1 (p : Prf) (Q : CR → Prop) : wpF Tryz.X125 125 [U 1, .agg (encP p)] Q =
  (True ∧ St.mk [some (HB.cells (encP p) 40), some (HB.cells [AV.fn (Fn.func 158) [] [], AV.fn (Fn.func 159) [] [], AV.fn (Fn.func 160) [] [], AV.fn (Fn.func 161) [] [], AV.fn (Fn.func 162) [] [], AV.fn (Fn.func 163) [] [], AV.fn (Fn.func 164) [] [], AV.fn (Fn.func 165) [] []] 195)] [] [1] = St.mk [some (HB.cells (encP p) 40), some (HB.cells [AV.fn (Fn.func 158) [] [], AV.fn (Fn.func 159) [] [], AV.fn (Fn.func 160) [] [], AV.fn (Fn.func 161) [] [], AV.fn (Fn.func 162) [] [], AV.fn (Fn.func 163) [] [], AV.fn (Fn.func 164) [] [], AV.fn (Fn.func 165) [] []] 195)] [] [1] ∧ Q (CR.ret (I (atI (1 : Int) (Prf.mk p.cl p.vi p.ho p.de p.mo p.cr p.le))))) := by kernel_rfl
theorem v125_2 (p : Prf) (Q : CR → Prop) : wpF Tryz.X125 125 [U 2, .agg (encP p)] Q =
  (True ∧ St.mk [some (HB.cells (encP p) 40), some (HB.cells [AV.fn (Fn.func 158) [] [], AV.fn (Fn.func 159) [] [], AV.fn (Fn.func 160) [] [], AV.fn (Fn.func 161) [] [], AV.fn (Fn.func 162) [] [], AV.fn (Fn.func 163) [] [], AV.fn (Fn.func 164) [] [], AV.fn (Fn.func 165) [] []] 195)] [] [1] = St.mk [some (HB.cells (encP p) 40), some (HB.cells [AV.fn (Fn.func 158) [] [], AV.fn (Fn.func 159) [] [], AV.fn (Fn.func 160) [] [], AV.fn (Fn.func 161) [] [], AV.fn (Fn.func 162) [] [], AV.fn (Fn.func 163) [] [], AV.fn (Fn.func 164) [] [], AV.fn (Fn.func 165) [] []] 195)] [] [1] ∧ Q (CR.ret (I (atI (2 : Int) (Prf.mk p.cl p.vi p.ho p.de p.mo p.cr p.le))))) := by kernel_rfl
theorem v125_3 (p : Prf) (Q : CR → Prop) : wpF Tryz.X125 125 [U 3, .agg (encP p)] Q =
  (True ∧ St.mk [some (HB.cells (encP p) 40), some (HB.cells [AV.fn (Fn.func 158) [] [], AV.fn (Fn.func 159) [] [], AV.fn (Fn.func 160) [] [], AV.fn (Fn.func 161) [] [], AV.fn (Fn.func 162) [] [], AV.fn (Fn.func 163) [] [], AV.fn (Fn.func 164) [] [], AV.fn (Fn.func 165) [] []] 195)] [] [1] = St.mk [some (HB.cells (encP p) 40), some (HB.cells [AV.fn (Fn.func 158) [] [], AV.fn (Fn.func 159) [] [], AV.fn (Fn.func 160) [] [], AV.fn (Fn.func 161) [] [], AV.fn (Fn.func 162) [] [], AV.fn (Fn.func 163) [] [], AV.fn (Fn.func 164) [] [], AV.fn (Fn.func 165) [] []] 195)] [] [1] ∧ Q (CR.ret (I (atI (3 : Int) (Prf.mk p.cl p.vi p.ho p.de p.mo p.cr p.le))))) := by kernel_rfl
theorem v125_4 (p : Prf) (Q : CR → Prop) : wpF Tryz.X125 125 [U 4, .agg (encP p)] Q =
  (True ∧ St.mk [some (HB.cells (encP p) 40), some (HB.cells [AV.fn (Fn.func 158) [] [], AV.fn (Fn.func 159) [] [], AV.fn (Fn.func 160) [] [], AV.fn (Fn.func 161) [] [], AV.fn (Fn.func 162) [] [], AV.fn (Fn.func 163) [] [], AV.fn (Fn.func 164) [] [], AV.fn (Fn.func 165) [] []] 195)] [] [1] = St.mk [some (HB.cells (encP p) 40), some (HB.cells [AV.fn (Fn.func 158) [] [], AV.fn (Fn.func 159) [] [], AV.fn (Fn.func 160) [] [], AV.fn (Fn.func 161) [] [], AV.fn (Fn.func 162) [] [], AV.fn (Fn.func 163) [] [], AV.fn (Fn.func 164) [] [], AV.fn (Fn.func 165) [] []] 195)] [] [1] ∧ Q (CR.ret (I (atI (4 : Int) (Prf.mk p.cl p.vi p.ho p.de p.mo p.cr p.le))))) := by kernel_rfl
theorem v125_5 (p : Prf) (Q : CR → Prop) : wpF Tryz.X125 125 [U 5, .agg (encP p)] Q =
  (True ∧ St.mk [some (HB.cells (encP p) 40), some (HB.cells [AV.fn (Fn.func 158) [] [], AV.fn (Fn.func 159) [] [], AV.fn (Fn.func 160) [] [], AV.fn (Fn.func 161) [] [], AV.fn (Fn.func 162) [] [], AV.fn (Fn.func 163) [] [], AV.fn (Fn.func 164) [] [], AV.fn (Fn.func 165) [] []] 195)] [] [1] = St.mk [some (HB.cells (encP p) 40), some (HB.cells [AV.fn (Fn.func 158) [] [], AV.fn (Fn.func 159) [] [], AV.fn (Fn.func 160) [] [], AV.fn (Fn.func 161) [] [], AV.fn (Fn.func 162) [] [], AV.fn (Fn.func 163) [] [], AV.fn (Fn.func 164) [] [], AV.fn (Fn.func 165) [] []] 195)] [] [1] ∧ Q (CR.ret (I (atI (5 : Int) (Prf.mk p.cl p.vi p.ho p.de p.mo p.cr p.le))))) := by kernel_rfl
theorem v125_6 (p : Prf) (Q : CR → Prop) : wpF Tryz.X125 125 [U 6, .agg (encP p)] Q =
  (True ∧ St.mk [some (HB.cells (encP p) 40), some (HB.cells [AV.fn (Fn.func 158) [] [], AV.fn (Fn.func 159) [] [], AV.fn (Fn.func 160) [] [], AV.fn (Fn.func 161) [] [], AV.fn (Fn.func 162) [] [], AV.fn (Fn.func 163) [] [], AV.fn (Fn.func 164) [] [], AV.fn (Fn.func 165) [] []] 195)] [] [1] = St.mk [some (HB.cells (encP p) 40), some (HB.cells [AV.fn (Fn.func 158) [] [], AV.fn (Fn.func 159) [] [], AV.fn (Fn.func 160) [] [], AV.fn (Fn.func 161) [] [], AV.fn (Fn.func 162) [] [], AV.fn (Fn.func 163) [] [], AV.fn (Fn.func 164) [] [], AV.fn (Fn.func 165) [] []] 195)] [] [1] ∧ Q (CR.ret (I (atI (6 : Int) (Prf.mk p.cl p.vi p.ho p.de p.mo p.cr p.le))))) := by kernel_rfl
theorem v125_7 (p : Prf) (Q : CR → Prop) : wpF Tryz.X125 125 [U 7, .agg (encP p)] Q =
  (True ∧ St.mk [some (HB.cells (encP p) 40), some (HB.cells [AV.fn (Fn.func 158) [] [], AV.fn (Fn.func 159) [] [], AV.fn (Fn.func 160) [] [], AV.fn (Fn.func 161) [] [], AV.fn (Fn.func 162) [] [], AV.fn (Fn.func 163) [] [], AV.fn (Fn.func 164) [] [], AV.fn (Fn.func 165) [] []] 195)] [] [1] = St.mk [some (HB.cells (encP p) 40), some (HB.cells [AV.fn (Fn.func 158) [] [], AV.fn (Fn.func 159) [] [], AV.fn (Fn.func 160) [] [], AV.fn (Fn.func 161) [] [], AV.fn (Fn.func 162) [] [], AV.fn (Fn.func 163) [] [], AV.fn (Fn.func 164) [] [], AV.fn (Fn.func 165) [] []] 195)] [] [1] ∧ Q (CR.ret (I (atI (7 : Int) (Prf.mk p.cl p.vi p.ho p.de p.mo p.cr p.le))))) := by kernel_rfl
theorem v80 (m : Nat) (op attr side n : Int) (l : List AV) (len : Nat) (p q : Prf) (Q : CR → Prop) : wpF (Tryz.X80 m) 80 [.agg [U op, U attr, U side, I n, .vs l len .none], .agg (encP p), .agg (encP q)] Q =
  (cIf (side == (2 : Int)) (WCut (Tryz.X80 m) (cd (Tryz.X80 m).P 80 [1, 1, 1]) ([X, X, X, AV.ptr 0 0, AV.ptr 1 0, AV.ptr 2 0, X, AV.ptr 3 0] ++ List.replicate 94 X) (St.mk [some (HB.cells [U op, U attr, U side, I n, AV.vs l len Tok.none] 71), some (HB.cells (encP p) 40), some (HB.cells (encP q) 40), some (HB.cells (encP q) 40)] [] []) (kRet (Tryz.X80 m) 80 Q)) (WCut (Tryz.X80 m) (cd (Tryz.X80 m).P 80 [1, 1, 1]) ([X, X, X, AV.ptr 0 0, AV.ptr 1 0, AV.ptr 2 0, X, AV.ptr 3 0] ++ List.replicate 94 X) (St.mk [some (HB.cells [U op, U attr, U side, I n, AV.vs l len Tok.none] 71), some (HB.cells (encP p) 40), some (HB.cells (encP q) 40), some (HB.cells (encP p) 40)] [] []) (kRet (Tryz.X80 m) 80 Q))) := by kernel_rfl
theorem v80a (m : Nat) (op attr side n : Int) (l : List AV) (len : Nat) (p q o : Prf) (Q : CR → Prop) : wpC (Tryz.X80 m) (cd PP 80 [1, 1, 1]) ([X, X, X, .ptr 0 0, .ptr 1 0, .ptr 2 0, X, .ptr 3 0] ++ List.replicate 94 X) ⟨[some (.cells [U op, U attr, U side, I n, .vs l len .none] 71), some (.cells (encP p) 40), some (.cells (encP q) 40), some (.cells (encP o) 40)], [], []⟩ (kRet (Tryz.X80 m) 80 Q) =
  (cIf (op == (1 : Int)) (Q (CR.ret (Bo true))) (cIf (op == (2 : Int)) (((∃ (q : Prf), (encP p) = encP q) ∧ (0 : Int) ≤ attr ∧ attr ≤ (7 : Int)) ∧ St.mk [some (HB.cells [U op, U attr, U side, I n, AV.vs l len Tok.none] 71), some (HB.cells (encP p) 40), some (HB.cells (encP q) 40), some (HB.cells (encP o) 40)] [] [] = St.mk [some (HB.cells [U op, U attr, U side, I n, AV.vs l len Tok.none] 71), some (HB.cells (encP p) 40), some (HB.cells (encP q) 40), some (HB.cells (encP o) 40)] [] [] ∧ ((∃ (q_1 : Prf), (encP q) = encP q_1) ∧ (0 : Int) ≤ attr ∧ attr ≤ (7 : Int)) ∧ St.mk [some (HB.cells [U op, U attr, U side, I n, AV.vs l len Tok.none] 71), some (HB.cells (encP p) 40), some (HB.cells (encP q) 40), some (HB.cells (encP o) 40)] [] [] = St.mk [some (HB.cells [U op, U attr, U side, I n, AV.vs l len Tok.none] 71), some (HB.cells (encP p) 40), some (HB.cells (encP q) 40), some (HB.cells (encP o) 40)] [] [] ∧ Q (CR.ret (AV.bool (decide (onEnc encP (atI attr) (0 : Int) (encP p) < onEnc encP (atI attr) (0 : Int) (encP q)))))) (cIf (op == (3 : Int)) (((∃ (q : Prf), (encP p) = encP q) ∧ (0 : Int) ≤ attr ∧ attr ≤ (7 : Int)) ∧ St.mk [some (HB.cells [U op, U attr, U side, I n, AV.vs l len Tok.none] 71), some (HB.cells (encP p) 40), some (HB.cells (encP q) 40), some (HB.cells (encP o) 40)] [] [] = St.mk [some (HB.cells [U op, U attr, U side, I n, AV.vs l len Tok.none] 71), some (HB.cells (encP p) 40), some (HB.cells (encP q) 40), some (HB.cells (encP o) 40)] [] [] ∧ ((∃ (q_1 : Prf), (encP q) = encP q_1) ∧ (0 : Int) ≤ attr ∧ attr ≤ (7 : Int)) ∧ St.mk [some (HB.cells [U op, U attr, U side, I n, AV.vs l len Tok.none] 71), some (HB.cells (encP p) 40), some (HB.cells (encP q) 40), some (HB.cells (encP o) 40)] [] [] = St.mk [some (HB.cells [U op, U attr, U side, I n, AV.vs l len Tok.none] 71), some (HB.cells (encP p) 40), some (HB.cells (encP q) 40), some (HB.cells (encP o) 40)] [] [] ∧ Q (CR.ret (AV.bool (decide (onEnc encP (atI attr) (0 : Int) (encP p) > onEnc encP (atI attr) (0 : Int) (encP q)))))) (cIf (op == (4 : Int)) (((∃ (q : Prf), (encP p) = encP q) ∧ (0 : Int) ≤ attr ∧ attr ≤ (7 : Int)) ∧ St.mk [some (HB.cells [U op, U attr, U side, I n, AV.vs l len Tok.none] 71), some (HB.cells (encP p) 40), some (HB.cells (encP q) 40), some (HB.cells (encP o) 40)] [] [] = St.mk [some (HB.cells [U op, U attr, U side, I n, AV.vs l len Tok.none] 71), some (HB.cells (encP p) 40), some (HB.cells (encP q) 40), some (HB.cells (encP o) 40)] [] [] ∧ ((∃ (q_1 : Prf), (encP q) = encP q_1) ∧ (0 : Int) ≤ attr ∧ attr ≤ (7 : Int)) ∧ St.mk [some (HB.cells [U op, U attr, U side, I n, AV.vs l len Tok.none] 71), some (HB.cells (encP p) 40), some (HB.cells (encP q) 40), some (HB.cells (encP o) 40)] [] [] = St.mk [some (HB.cells [U op, U attr, U side, I n, AV.vs l len Tok.none] 71), some (HB.cells (encP p) 40), some (HB.cells (encP q) 40), some (HB.cells (encP o) 40)] [] [] ∧ Q (CR.ret (AV.bool (onEnc encP (atI attr) (0 : Int) (encP p) == onEnc encP (atI attr) (0 : Int) (encP q))))) (cIf (op == (5 : Int)) (((∃ (q : Prf), (encP o) = encP q) ∧ (0 : Int) ≤ attr ∧ attr ≤ (7 : Int)) ∧ St.mk [some (HB.cells [U op, U attr, U side, I n, AV.vs l len Tok.none] 71), some (HB.cells (encP p) 40), some (HB.cells (encP q) 40), some (HB.cells (encP o) 40)] [] [] = St.mk [some (HB.cells [U op, U attr, U side, I n, AV.vs l len Tok.none] 71), some (HB.cells (encP p) 40), some (HB.cells (encP q) 40), some (HB.cells (encP o) 40)] [] [] ∧ Q (CR.ret (AV.bool (onEnc encP (atI attr) (0 : Int) (encP o) == n)))) (cIf (op == (6 : Int)) (((∃ (q : Prf), (encP o) = encP q) ∧ (0 : Int) ≤ attr ∧ attr ≤ (7 : Int)) ∧ St.mk [some (HB.cells [U op, U attr, U side, I n, AV.vs l len Tok.none] 71), some (HB.cells (encP p) 40), some (HB.cells (encP q) 40), some (HB.cells (encP o) 40)] [] [] = St.mk [some (HB.cells [U op, U attr, U side, I n, AV.vs l len Tok.none] 71), some (HB.cells (encP p) 40), some (HB.cells (encP q) 40), some (HB.cells (encP o) 40)] [] [] ∧ Q (CR.ret (AV.bool (decide (onEnc encP (atI attr) (0 : Int) (encP o) < n))))) (cIf (op == (7 : Int)) (cIf (decide (0 < len)) (cIf (decide (len * 5 = l.length)) (cIf (decide (5 ≤ l.length)) (cIf (like zT (el l 0 5)) (cIf (noHL (St.mk [some (HB.cells [U op, U attr, U side, I n, AV.vs l len Tok.none] 71), some (HB.cells (encP p) 40), some (HB.cells (encP q) 40), some (HB.cells (encP o) 40)] [] []).hs.length ([] ++ [AV.agg (elT (el l 0 5)), AV.agg (encP p), AV.agg (encP q)] ++ [])) ((((∃ (t : Tst), (elT (el l 0 5)) = encT t ∧ wfT t ∧ shT t = true) ∧ (∃ (a : Prf), (encP p) = encP a) ∧ ∃ (b : Prf), (encP q) = encP b) ∧ avSizeL ([] ++ [AV.agg (elT (el l 0 5)), AV.agg (encP p), AV.agg (encP q)] ++ []) < m) ∧ St.mk [some (HB.cells [U op, U attr, U side, I n, AV.vs l len Tok.none] 71), some (HB.cells (encP p) 40), some (HB.cells (encP q) 40), some (HB.cells (encP o) 40)] [] [] = St.mk [some (HB.cells [U op, U attr, U side, I n, AV.vs l len Tok.none] 71), some (HB.cells (encP p) 40), some (HB.cells (encP q) 40), some (HB.cells (encP o) 40)] [] [] ∧ Q (CR.ret (AV.bool !onEnc encT (fun (t : Tst) => onEnc encP (fun (a : Prf) => onEnc encP (fun (b : Prf) => hoT t a b) false (encP q)) false (encP p)) false (elT (el l 0 5))))) False) False) False) False) False) (cIf (noHL 3 ([X, X, X, AV.ptr 0 0, AV.ptr 1 0, AV.ptr 2 0, X, X, X, X, X, X, X, X, X, X, X, X, X, X, X, X, X, X, X, X, X, X, X, X, X, X, X, X, X, X, X, X, X, X, X, X, X, X, X, X, X, X, X, X, X, X, X, X, X, X, X, X, X, X, X, X, X, X, X, X, X, X, X, X, X, X, X, X, X, X, X, X, X, X, X, AV.vs l len Tok.none, I (↑len : Int), I (0 : Int)] ++ List.replicate 18 X)) (cIf ([some (HB.cells [U op, U attr, U side, I n, AV.vs l len Tok.none] 71), some (HB.cells (encP p) 40), some (HB.cells (encP q) 40)].all (okBlk 3)) (WLoop (Tryz.X80 m) (cd PP 80 [1, 1, 1, 1, 0, 1, 0, 0]) ([X, X, X, AV.ptr 0 0, AV.ptr 1 0, AV.ptr 2 0, X, X, X, X, X, X, X, X, X, X, X, X, X, X, X, X, X, X, X, X, X, X, X, X, X, X, X, X, X, X, X, X, X, X, X, X, X, X, X, X, X, X, X, X, X, X, X, X, X, X, X, X, X, X, X, X, X, X, X, X, X, X, X, X, X, X, X, X, X, X, X, X, X, X, X, AV.vs l len Tok.none, I (↑len : Int), I (0 : Int)] ++ List.replicate 18 X) (St.mk [some (HB.cells [U op, U attr, U side, I n, AV.vs l len Tok.none] 71), some (HB.cells (encP p) 40), some (HB.cells (encP q) 40)] [] []) (kBlock 1 (kSeq (Tryz.X80 m) (cd PP 80 [1, 1, 1, 1, 1]) (kRet (Tryz.X80 m) 80 Q)))) False) False)))))))) := by kernel_rfl
theorem v80l (m : Nat) (op attr side n : Int) (l : List AV) (len i : Nat) (p q : Prf) (Q : CR → Prop) : wpC (Tryz.X80 m) (cd PP 80 [1, 1, 1, 1, 0, 1, 0, 0]) ([X, X, X, .ptr 0 0, .ptr 1 0, .ptr 2 0] ++ List.replicate 75 X ++ [.vs l len .none, I len, I i] ++ List.replicate 18 X) ⟨[some (.cells [U op, U attr, U side, I n, .vs l len .none] 71), some (.cells (encP p) 40), some (.cells (encP q) 40)], [], []⟩ (kLoop (Tryz.X80 m) (cd PP 80 [1, 1, 1, 1, 0, 1, 0, 0]) (kBlock 1 (kSeq (Tryz.X80 m) (cd PP 80 [1, 1, 1, 1, 1]) (kRet (Tryz.X80 m) 80 Q)))) =
  (cIf (decide ((↑i : Int) < (↑len : Int))) (cIf (decide (i < len)) (cIf (decide (len * 5 = l.length)) (cIf (decide (5 ≤ (List.drop (i * 5) l).length)) (cIf (like zT (el (List.drop (i * 5) l) 0 5)) (cIf (noHL (St.mk [some (HB.cells [U op, U attr, U side, I n, AV.vs l len Tok.none] 71), some (HB.cells (encP p) 40), some (HB.cells (encP q) 40), some (HB.cells (elT (el (List.drop (i * 5) l) 0 5)) 71)] [] [3]).hs.length ([] ++ [AV.agg (elT (el (List.drop (i * 5) l) 0 5)), AV.agg (encP p), AV.agg (encP q)] ++ [])) ((((∃ (t : Tst), (elT (el (List.drop (i * 5) l) 0 5)) = encT t ∧ wfT t ∧ shT t = true) ∧ (∃ (a : Prf), (encP p) = encP a) ∧ ∃ (b : Prf), (encP q) = encP b) ∧ avSizeL ([] ++ [AV.agg (elT (el (List.drop (i * 5) l) 0 5)), AV.agg (encP p), AV.agg (encP q)] ++ []) < m) ∧ St.mk [some (HB.cells [U op, U attr, U side, I n, AV.vs l len Tok.none] 71), some (HB.cells (encP p) 40), some (HB.cells (encP q) 40), some (HB.cells (elT (el (List.drop (i * 5) l) 0 5)) 71)] [] [3] = St.mk [some (HB.cells [U op, U attr, U side, I n, AV.vs l len Tok.none] 71), some (HB.cells (encP p) 40), some (HB.cells (encP q) 40), some (HB.cells (elT (el (List.drop (i * 5) l) 0 5)) 71)] [] [3] ∧ cIf (onEnc encT (fun (t : Tst) => onEnc encP (fun (a : Prf) => onEnc encP (fun (b : Prf) => hoT t a b) false (encP q)) false (encP p)) false (elT (el (List.drop (i * 5) l) 0 5)) == (op == (9 : Int))) (Q (CR.ret (Bo (op == (9 : Int))))) (cIf (noHL 3 ([X, X, X, AV.ptr 0 0, AV.ptr 1 0, AV.ptr 2 0, X, X, X, X, X, X, X, X, X, X, X, X, X, X, X, X, X, X, X, X, X, X, X, X, X, X, X, X, X, X, X, X, X, X, X, X, X, X, X, X, X, X, X, X, X, X, X, X, X, X, X, X, X, X, X, X, X, X, X, X, X, X, X, X, X, X, X, X, X, X, X, X, X, X, X, AV.vs l len Tok.none, I (↑len : Int), I (IntKind.i64.wrap ((↑i : Int) + (1 : Int)))] ++ List.replicate 18 X)) (cIf ([some (HB.cells [U op, U attr, U side, I n, AV.vs l len Tok.none] 71), some (HB.cells (encP p) 40), some (HB.cells (encP q) 40)].all (okBlk 3)) (WLoop (Tryz.X80 m) (cd PP 80 [1, 1, 1, 1, 0, 1, 0, 0]) ([X, X, X, AV.ptr 0 0, AV.ptr 1 0, AV.ptr 2 0, X, X, X, X, X, X, X, X, X, X, X, X, X, X, X, X, X, X, X, X, X, X, X, X, X, X, X, X, X, X, X, X, X, X, X, X, X, X, X, X, X, X, X, X, X, X, X, X, X, X, X, X, X, X, X, X, X, X, X, X, X, X, X, X, X, X, X, X, X, X, X, X, X, X, X, AV.vs l len Tok.none, I (↑len : Int), I (IntKind.i64.wrap ((↑i : Int) + (1 : Int)))] ++ List.replicate 18 X) (St.mk [some (HB.cells [U op, U attr, U side, I n, AV.vs l len Tok.none] 71), some (HB.cells (encP p) 40), some (HB.cells (encP q) 40)] [] []) (kBlock 1 (kSeq (Tryz.X80 m) (cd PP 80 [1, 1, 1, 1, 1]) (kRet (Tryz.X80 m) 80 Q)))) False) False)) False) False) False) False) False) (Q (CR.ret (Bo (op == (8 : Int)))))) := by kernel_rfl
end Go.Proofs
/-! C8 -/
set_option maxRecDepth 100000
set_option linter.unusedVariables false
namespace Go.Proofs
open Go Go.Ev
theorem ct200 : Ct Tryz.B.c0 200 R200 := Ct.of_wp (lm := []) Tryz.bok (Cts.nil _) ⟨_, _, Tryz.func200, rfl⟩ fun args D r hR hD => by
  unfold R200 at hR
  split at hR <;> cases hR
  refine ⟨rfl, (v200 _ _).mpr (cIf_intro (fun h => ?_) (fun h => ?_))⟩
  all_goals simp [mk01, h]
theorem c161 : Cts Tryz.B [(200, R200)] := (Cts.nil _).cons ct200
theorem RV_inv {f : Prf → Int} {args : List AV} {D : Prop} {r : CR} (h : RV f args = some (D, r)) : ∃ p : Prf, args = [.agg (encP p)] ∧ D = True ∧ r = rI (f p) := by
  unfold RV at h
  split at h <;> cases h
  exact ⟨_, rfl, rfl, rfl⟩
theorem scP (p : Prf) : scrubL 0 [AV.agg (encP p)] = [AV.agg (encP p)] := by simp [scrubL, scrub, sc_encP]
theorem nhP (p : Prf) : noHL 0 [AV.agg (encP p)] = true := by simp [noHL, noH, noH_encP]
theorem ct158 : Ct Tryz.B.c0 158 (RV (atI 0)) := Ct.of_wp (lm := []) Tryz.bok c161 ⟨_, _, Tryz.func158, rfl⟩ fun args D r hR hD => by
  obtain ⟨p, rfl, rfl, rfl⟩ := RV_inv hR
  rw [scP]; exact ⟨nhP p, (v158 p _).mpr rfl⟩
theorem ct159 : Ct Tryz.B.c0 159 (RV (atI 1)) := Ct.of_wp (lm := []) Tryz.bok c161 ⟨_, _, Tryz.func159, rfl⟩ fun args D r hR hD => by
  obtain ⟨p, rfl, rfl, rfl⟩ := RV_inv hR
  rw [scP]; exact ⟨nhP p, (v159 p _).mpr rfl⟩
theorem ct160 : Ct Tryz.B.c0 160 (RV (atI 2)) := Ct.of_wp (lm := []) Tryz.bok c161 ⟨_, _, Tryz.func160, rfl⟩ fun args D r hR hD => by
  obtain ⟨p, rfl, rfl, rfl⟩ := RV_inv hR
  rw [scP]; exact ⟨nhP p, (v160 p _).mpr rfl⟩
theorem ct161 : Ct Tryz.B.c0 161 (RV (atI 3)) := Ct.of_wp (lm := []) Tryz.bok c161 ⟨_, _, Tryz.func161, rfl⟩ fun args D r hR hD => by
  obtain ⟨p, rfl, rfl, rfl⟩ := RV_inv hR
  rw [scP]; exact ⟨nhP p, (v161 p _).mpr ⟨trivial, rfl⟩⟩
theorem ct162 : Ct Tryz.B.c0 162 (RV (atI 4)) := Ct.of_wp (lm := []) Tryz.bok c161 ⟨_, _, Tryz.func162, rfl⟩ fun args D r hR hD => by
  obtain ⟨p, rfl, rfl, rfl⟩ := RV_inv hR
  rw [scP]; exact ⟨nhP p, (v162 p _).mpr ⟨trivial, rfl⟩⟩
theorem ct163 : Ct Tryz.B.c0 163 (RV (atI 5)) := Ct.of_wp (lm := []) Tryz.bok c161 ⟨_, _, Tryz.func163, rfl⟩ fun args D r hR hD => by
  obtain ⟨p, rfl, rfl, rfl⟩ := RV_inv hR
  rw [scP]; exact ⟨nhP p, (v163 p _).mpr ⟨trivial, rfl⟩⟩
theorem ct164 : Ct Tryz.B.c0 164 (RV (atI 6)) := Ct.of_wp (lm := []) Tryz.bok c161 ⟨_, _, Tryz.func164, rfl⟩ fun args D r hR hD => by
  obtain ⟨p, rfl, rfl, rfl⟩ := RV_inv hR
  rw [scP]; exact ⟨nhP p, (v164 p _).mpr rfl⟩
theorem ct165 : Ct Tryz.B.c0 165 (RV (atI 7)) := Ct.of_wp (lm := []) Tryz.bok c161 ⟨_, _, Tryz.func165, rfl⟩ fun args D r hR hD => by
  obtain ⟨p, rfl, rfl, rfl⟩ := RV_inv hR
  rw [scP]; exact ⟨nhP p, (v165 p _).mpr rfl⟩
theorem c125 : Cts Tryz.B l125 := ((((((((Cts.nil _).cons ct165).cons ct164).cons ct163).cons ct162).cons ct161).cons ct160).cons ct159).cons ct158
set_option maxHeartbeats 4000000 in
theorem ct125 : Ct Tryz.B.c0 125 R125 := Ct.of_wp (lm := []) Tryz.bok c125 ⟨_, _, Tryz.func125, rfl⟩ fun args D r hR hD => by
  unfold R125 at hR
  split at hR <;> cases hR
  rename_i a _
  obtain ⟨⟨p, rfl⟩, h0, h1⟩ := hD
  refine ⟨by simp [noHL, noH, noH_encP], ?_⟩
  rw [show scrubL 0 [U a, AV.agg (encP p)] = [U a, AV.agg (encP p)] by simp [scrubL, scrub, sc_encP], onEnc_eq encP_inj]
  have h8 : a = 0 ∨ a = 1 ∨ a = 2 ∨ a = 3 ∨ a = 4 ∨ a = 5 ∨ a = 6 ∨ a = 7 := by omega
  rcases h8 with rfl | rfl | rfl | rfl | rfl | rfl | rfl | rfl
  · exact (v125_0 p _).mpr ⟨trivial, rfl, rfl⟩
  · exact (v125_1 p _).mpr ⟨trivial, rfl, rfl⟩
  · exact (v125_2 p _).mpr ⟨trivial, rfl, rfl⟩
  · exact (v125_3 p _).mpr ⟨trivial, rfl, rfl⟩
  · exact (v125_4 p _).mpr ⟨trivial, rfl, rfl⟩
  · exact (v125_5 p _).mpr ⟨trivial, rfl, rfl⟩
  · exact (v125_6 p _).mpr ⟨trivial, rfl, rfl⟩
  · exact (v125_7 p _).mpr ⟨trivial, rfl, rfl⟩
theorem node_op {op attr side n : Int} {len : Nat} (h : nodeB op attr side n len = true) : (op = 1 ∨ ((op = 2 ∨ op = 3 ∨ op = 4 ∨ op = 5 ∨ op = 6) ∧ 0 ≤ attr ∧ attr ≤ 7) ∨ (op = 7 ∧ len = 1) ∨ op = 8 ∨ op = 9) := by
  unfold nodeB nodeBx at h
  split at h
  · exact .inl ‹_›
  split at h
  · simp at h; right; left; constructor <;> omega
  split at h
  · simp at h; right; left; constructor <;> omega
  split at h
  · simp at h; right; left; constructor <;> omega
  split at h
  · simp at h; right; left; constructor <;> omega
  split at h
  · simp at h; right; right; left; constructor <;> omega
  split at h
  · rename_i h8; right; right; right; exact h8
  · cases h
theorem shTs_get : ∀ {l : List Tst} {k : Nat} {x : Tst}, shTs l = true → l[k]? = some x → shT x = true
  | [], k, x, _, h => by simp at h
  | y :: l, 0, x, hw, h => by simp at h; subst h; simp only [shTs, Bool.and_eq_true] at hw; exact hw.1
  | y :: l, k + 1, x, hw, h => by simp only [shTs, Bool.and_eq_true] at hw; exact shTs_get hw.2 (by simpa using h)

section
variable {m : Nat} (hc : Cts Tryz.B [(80, R80.below m), (125, R125)]) {op attr side n : Int} {of : List Tst} (hlen : of.length ≤ 9223372036854775807) (hwf : wfTs of) (hsh : shTs of = true) (hsz : avSizeL (encTs of) + 22 ≤ m) {p q : Prf} {Q : CR → Prop}
include hc hlen hwf hsh hsz
set_option maxHeartbeats 4000000 in
theorem holdp_loop (h89 : op = 8 ∨ op = 9) : ∀ (d i : Nat), of.length - i = d → i ≤ of.length → Q (rB (hoL op (of.drop i) p q)) →
    WLoop (Tryz.X80 m) (cd PP 80 [1, 1, 1, 1, 0, 1, 0, 0]) ([X, X, X, .ptr 0 0, .ptr 1 0, .ptr 2 0] ++ List.replicate 75 X ++ [.vs (encTs of) of.length .none, I of.length, I i] ++ List.replicate 18 X) ⟨[some (.cells [U op, U attr, U side, I n, .vs (encTs of) of.length .none] 71), some (.cells (encP p) 40), some (.cells (encP q) 40)], [], []⟩ (kBlock 1 (kSeq (Tryz.X80 m) (cd PP 80 [1, 1, 1, 1, 1]) (kRet (Tryz.X80 m) 80 Q))) := by
  intro d
  induction d with
  | zero =>
    intro i hd hi hQ
    have hi' : i = of.length := by omega
    subst hi'
    refine WLoop_step Tryz.bok hc ((v80l m op attr side n _ _ _ p q Q).mpr (cIf_neg (by simp) ?_))
    rw [show (op == 8) = decide (op = 8) from rfl]
    simpa [hoL] using hQ
  | succ d ih =>
    intro i hd hi hQ
    have hlt : i < of.length := by omega
    obtain ⟨x, hx, hdr⟩ := drop_cons hlt
    rw [hdr] at hQ
    refine WLoop_step Tryz.bok hc ((v80l m op attr side n _ _ _ p q Q).mpr (cIf_pos (by simp; omega) ?_))
    refine cIf_pos (by simpa using hlt) (cIf_pos (by simp [encTs_len]) (cIf_pos (by have := enc_drop_len (encTs_len of) hlt; simpa using this) ?_))
    rw [encTs_el hx, encT_w]
    have hs := size_get hx
    refine cIf_pos (encT_like x) (cIf_pos (by simp [noHL, noH, noH_encT, noH_encP]) ⟨⟨⟨⟨x, rfl, wfTs_get hwf hx, shTs_get hsh hx⟩, ⟨p, rfl⟩, ⟨q, rfl⟩⟩, ?_⟩, rfl, ?_⟩)
    · simp only [List.nil_append, List.append_nil, avSizeL, avSize, size_encP]
      omega
    · rw [onEnc_eq (fun _ _ => encT_inj _ _), onEnc_eq encP_inj, onEnc_eq encP_inj, wrap_id (x := (i : Int) + 1) (by omega) (by omega)]
      refine cIf_intro (fun h => ?_) (fun h => ?_)
      · refine (congrArg Q (rB_eq (b := hoL op (x :: of.drop (i + 1)) p q) ?_)).mpr hQ
        rcases h89 with rfl | rfl <;> simp_all [hoL]
      · refine cIf_pos (by simp [noHL, noH, noH_encTs]) (cIf_pos (by simp [okBlk, noHB, noHL, noH, noH_encTs, noH_encP]) ?_)
        refine ih (i + 1) (by omega) (by omega) ?_
        refine (congrArg Q (rB_eq (b := hoL op (x :: of.drop (i + 1)) p q) ?_)).mpr hQ
        rcases h89 with rfl | rfl <;> simp_all [hoL]
set_option maxHeartbeats 4000000 in
theorem holdp_a (hn : nodeB op attr side n of.length = true) (o : Prf) (ho : o = if side = 2 then q else p) (hQ : Q (rB (hoT (.mk op attr side n of) p q))) : WCut (Tryz.X80 m) (cd PP 80 [1, 1, 1]) ([X, X, X, .ptr 0 0, .ptr 1 0, .ptr 2 0, X, .ptr 3 0] ++ List.replicate 94 X) ⟨[some (.cells [U op, U attr, U side, I n, .vs (encTs of) of.length .none] 71), some (.cells (encP p) 40), some (.cells (encP q) 40), some (.cells (encP o) 40)], [], []⟩ (kRet (Tryz.X80 m) 80 Q) := by
  refine WCut_step Tryz.bok hc ((v80a m op attr side n _ _ p q o Q).mpr ?_)
  simp only [onEnc_eq encP_inj]
  have hat : atI attr o = if side = 2 then atI attr q else atI attr p := by rw [ho]; split <;> rfl
  rcases node_op hn with h | ⟨h, ha0, ha1⟩ | ⟨h, hl⟩ | h
  · refine cIf_pos (by simp [h]) ?_
    simpa [hoT, h] using hQ
  · rcases h with h | h | h | h | h
    · refine cIf_neg (by simp [h]) (cIf_pos (by simp [h]) ⟨⟨⟨p, rfl⟩, ha0, ha1⟩, trivial, ⟨⟨q, rfl⟩, ha0, ha1⟩, trivial, ?_⟩)
      simpa [hoT, h] using hQ
    · refine cIf_neg (by simp [h]) (cIf_neg (by simp [h]) (cIf_pos (by simp [h]) ⟨⟨⟨p, rfl⟩, ha0, ha1⟩, trivial, ⟨⟨q, rfl⟩, ha0, ha1⟩, trivial, ?_⟩))
      simpa [hoT, h] using hQ
    · refine cIf_neg (by simp [h]) (cIf_neg (by simp [h]) (cIf_neg (by simp [h]) (cIf_pos (by simp [h]) ⟨⟨⟨p, rfl⟩, ha0, ha1⟩, trivial, ⟨⟨q, rfl⟩, ha0, ha1⟩, trivial, ?_⟩)))
      simpa [hoT, h] using hQ
    · refine cIf_neg (by simp [h]) (cIf_neg (by simp [h]) (cIf_neg (by simp [h]) (cIf_neg (by simp [h]) (cIf_pos (by simp [h]) ⟨⟨⟨o, rfl⟩, ha0, ha1⟩, trivial, ?_⟩))))
      rw [hat]
      simpa [hoT, h] using hQ
    · refine cIf_neg (by simp [h]) (cIf_neg (by simp [h]) (cIf_neg (by simp [h]) (cIf_neg (by simp [h]) (cIf_neg (by simp [h]) (cIf_pos (by simp [h]) ⟨⟨⟨o, rfl⟩, ha0, ha1⟩, trivial, ?_⟩)))))
      rw [hat]
      simpa [hoT, h] using hQ
  · refine cIf_neg (by simp [h]) (cIf_neg (by simp [h]) (cIf_neg (by simp [h]) (cIf_neg (by simp [h]) (cIf_neg (by simp [h]) (cIf_neg (by simp [h]) (cIf_pos (by simp [h]) ?_))))))
    obtain ⟨x, rfl⟩ : ∃ x, of = [x] := by
      match of, hl with
      | [x], _ => exact ⟨x, rfl⟩
    have he : el (encTs [x]) 0 5 = encT x := encTs_get (l := [x]) (k := 0) rfl
    have hs := size_get (l := [x]) (k := 0) rfl
    refine cIf_pos rfl (cIf_pos (by simp [encTs_len]) (cIf_pos (by simp [encTs_len]) ?_))
    rw [he, encT_w]
    refine cIf_pos (encT_like x) (cIf_pos (by simp [noHL, noH, noH_encT, noH_encP]) ⟨⟨⟨⟨x, rfl, hwf.1, by simpa [shTs] using hsh⟩, ⟨p, rfl⟩, ⟨q, rfl⟩⟩, ?_⟩, trivial, ?_⟩)
    · simp only [List.nil_append, List.append_nil, avSizeL, avSize, size_encP]
      omega
    · rw [onEnc_eq (fun _ _ => encT_inj _ _)]
      simpa [hoT, hoL, h] using hQ
  · have h' : ¬ op = 1 ∧ ¬ op = 2 ∧ ¬ op = 3 ∧ ¬ op = 4 ∧ ¬ op = 5 ∧ ¬ op = 6 ∧ ¬ op = 7 := by omega
    refine cIf_neg (by simp [h']) (cIf_neg (by simp [h']) (cIf_neg (by simp [h']) (cIf_neg (by simp [h']) (cIf_neg (by simp [h']) (cIf_neg (by simp [h']) (cIf_neg (by simp [h']) ?_))))))
    refine cIf_pos (by simp [noHL, noH, noH_encTs]) (cIf_pos (by simp [okBlk, noHB, noHL, noH, noH_encTs, noH_encP]) ?_)
    refine holdp_loop hc hlen hwf hsh hsz h _ 0 rfl (Nat.zero_le _) ?_
    simpa [hoT, h'] using hQ
end
set_option maxHeartbeats 2000000 in
theorem ct80 : Ct Tryz.B.c0 80 R80 := Ct.of_rec (lm := lm80) (ct := [4]) (sm := [(20, 3)]) Tryz.bok ((Cts.nil _).cons ct125) ⟨_, _, Tryz.func80, rfl⟩ fun m args D r hc hR hD hm => by
  unfold R80 at hR
  split at hR <;> cases hR
  obtain ⟨⟨⟨op, attr, side, k, of⟩, rfl, hw, hs⟩, ⟨p, rfl⟩, ⟨q, rfl⟩⟩ := hD
  simp only [wfT] at hw
  simp only [shT, Bool.and_eq_true] at hs
  refine ⟨by simp [noHL, noH, noH_encT, noH_encP], ?_⟩
  rw [show scrubL 0 [AV.agg (encT (.mk op attr side k of)), .agg (encP p), .agg (encP q)] = [AV.agg (encT (.mk op attr side k of)), .agg (encP p), .agg (encP q)] by simp [scrubL, scrub, sc_encT, sc_encP]]
  rw [onEnc_eq (fun _ _ => encT_inj _ _), onEnc_eq encP_inj, onEnc_eq encP_inj]
  have hsz : avSizeL (encTs of) + 22 ≤ m := by simp only [avSizeL, avSize, encT, size_encP] at hm; omega
  refine (v80 m op attr side k _ _ p q _).mpr (cIf_intro (fun h => ?_) (fun h => ?_))
  · simp only [beq_iff_eq] at h
    exact holdp_a hc hw.2.2.2.2.2.2.2.2.1 hw.2.2.2.2.2.2.2.2.2 hs.2 hsz hs.1 q (by simp [h]) rfl
  · simp only [beq_eq_false_iff_ne, ne_eq] at h
    exact holdp_a hc hw.2.2.2.2.2.2.2.2.1 hw.2.2.2.2.2.2.2.2.2 hs.2 hsz hs.1 p (by simp [h]) rfl
end Go.Proofs
