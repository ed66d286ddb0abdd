/- Contracts of functions of the program and of the reference. -/
import Derived.Test.YtljjkomdibkjpaaGreatDoorK2
import Derived.Laws.RangeAny
set_option linter.unusedVariables false
set_option linter.unusedSimpArgs false
/-! VC7 -/
set_option maxRecDepth 100000
set_option linter.unusedVariables false
namespace Go.Proofs
open Go Go.Ev
def R118 : Spc := fun args => match args with
  | [.int .i32 c] => some (True, rB (!joinsI c))
  | _ => none
def njL : List UInt8 → Int → Int
  | [], _ => -1
  | c :: l, i => if joinsI (c.toNat : Int) = true then njL l (i + 1) else i
def R197 : Spc := fun args => match args with
  | [.str s, .fn (.func 118) [] [], .bool true] => some (s.length ≤ 9223372036854775807, rI (njL s 0))
  | _ => none
def R155 : Spc := fun args => match args with
  | [.str s, .fn (.func 118) [] []] => some (s.length ≤ 9223372036854775807, rI (njL s 0))
  | _ => none
def R117 : Spc := fun args => match args with
  | [.str s, .fn (.func 118) [] []] => some (s.length ≤ 9223372036854775807, rB (decide (njL s 0 ≥ 0)))
  | _ => none
noncomputable def Tryz.X155 : WCx := Tryz.B.wcx [(197, R197)]
noncomputable def Tryz.X117 : WCx := Tryz.B.wcx [(155, R155)]
noncomputable def Tryz.X72 : WCx := Tryz.B.wcx [(117, R117)]
noncomputable def Tryz.X118 : WCx := Tryz.B.wcx [(97, R97)]
noncomputable def Tryz.X197 : WCx := Tryz.B.wcx [(118, R118)] [(2, [1, 2, 10]), (6, [])]
theorem v118 (c : Int) (Q : CR → Prop) : wpF Tryz.X118 118 [.int .i32 c] Q =
  (True ∧ Q (CR.ret (Bo !joinsI c))) := by kernel_rfl
theorem v197 (s : List UInt8) (Q : CR → Prop) : wpF Tryz.X197 197 [.str s, .fn (.func 118) [] [], .bool true] Q =
  (WLoop Tryz.X197 (cd Tryz.X197.P 197 [1, 0, 1, 0, 0]) ([X, AV.fn (Fn.func 118) [] [], Bo true, X, X, X, X, X, X, X, AV.ptr 0 0] ++ List.replicate 10 X) (St.mk [some (HB.iter s 0)] [] []) (kBlock 0 (kSeq Tryz.X197 (cd Tryz.X197.P 197 [1, 1]) (kRet Tryz.X197 197 Q)))) := by kernel_rfl
theorem v197l (s : List UInt8) (i : Nat) (Q : CR → Prop) : wpC Tryz.X197 (cd PP 197 [1, 0, 1, 0, 0]) ([X, .fn (.func 118) [] [], .bool true, X, X, X, X, X, X, X, .ptr 0 0] ++ List.replicate 10 X) ⟨[some (.iter s i)], [], []⟩ (kLoop Tryz.X197 (cd PP 197 [1, 0, 1, 0, 0]) (kBlock 0 (kSeq Tryz.X197 (cd PP 197 [1, 1]) (kRet Tryz.X197 197 Q)))) =
  (cIf (decide (i < s.length)) (True ∧ cIf ((!joinsI (↑(Utf8.decode (ByteArray.mk s.toArray) i).fst : Int)) == true) (Q (CR.ret (I (↑i : Int)))) (WLoop Tryz.X197 (cd PP 197 [1, 0, 1, 0, 0]) ([X, AV.fn (Fn.func 118) [] [], Bo true, X, X, X, X, X, X, X, AV.ptr 0 0] ++ List.replicate 10 X) (St.mk [some (HB.iter s (i + (Utf8.decode (ByteArray.mk s.toArray) i).snd))] [] []) (kBlock 0 (kSeq Tryz.X197 (cd PP 197 [1, 1]) (kRet Tryz.X197 197 Q))))) (Q (CR.ret (I (-1 : Int))))) := by kernel_rfl
theorem v155 (s : List UInt8) (Q : CR → Prop) : wpF Tryz.X155 155 [.str s, .fn (.func 118) [] []] Q =
  (s.length ≤ 9223372036854775807 ∧ Q (CR.ret (I (njL s (0 : Int))))) := by kernel_rfl
theorem v117 (s : List UInt8) (Q : CR → Prop) : wpF Tryz.X117 117 [.str s, .fn (.func 118) [] []] Q =
  (s.length ≤ 9223372036854775807 ∧ Q (CR.ret (Bo (decide (njL s (0 : Int) ≥ (0 : Int)))))) := by kernel_rfl
theorem v72 (s : List UInt8) (Q : CR → Prop) : wpF Tryz.X72 72 [.str s] Q =
  (cIf (s == (ByteArray.mk #[]).data.toList) (Q (CR.ret (Bo false))) (cIf (decide ((↑s.length : Int) > (24 : Int))) (Q (CR.ret (Bo false))) (cIf (decide (0 < s.length)) (cIf (decide ((↑(s.getD 0 (0 : UInt8)).toNat : Int) < (97 : Int))) (Q (CR.ret (Bo false))) (cIf (decide (0 < s.length)) (cIf (decide ((↑(s.getD 0 (0 : UInt8)).toNat : Int) > (122 : Int))) (Q (CR.ret (Bo false))) (s.length ≤ 9223372036854775807 ∧ Q (CR.ret (Bo !decide (njL s (0 : Int) ≥ (0 : Int)))))) False)) False))) := by kernel_rfl
end Go.Proofs
/-! C7 -/
set_option maxRecDepth 100000
set_option linter.unusedVariables false
namespace Go.Proofs
open Go Go.Ev
theorem ct118 : Ct Tryz.B.c0 118 R118 := Ct.of_wp (lm := []) Tryz.bok ((Cts.nil _).cons ct97) ⟨_, _, Tryz.func118, rfl⟩ fun args D r hR hD => by
  unfold R118 at hR
  split at hR <;> cases hR
  exact ⟨rfl, (v118 _ _).mpr ⟨trivial, rfl⟩⟩
theorem dec_low {s : List UInt8} {i : Nat} {x : UInt8} (hx : s[i]? = some x) (h : x.toNat < 128) : Utf8.decode (ByteArray.mk s.toArray) i = (x.toNat, 1) := by
  have hlt := (List.getElem?_eq_some_iff.1 hx).1
  have hg : ((ByteArray.mk s.toArray).get! (i + 0)).toNat = x.toNat := by
    have : (ByteArray.mk s.toArray).get! (i + 0) = x := by
      simp only [Nat.add_zero, ByteArray.get!]
      rw [List.getElem?_eq_getElem hlt] at hx
      have : s.toArray[i]! = s[i] := by simp [hlt]
      rw [this]; exact Option.some.inj hx
    rw [this]
  simp only [Utf8.decode, hg, h, if_true]
theorem dec_high {s : List UInt8} {i : Nat} {x : UInt8} (hx : s[i]? = some x) (h : ¬ x.toNat < 128) : 128 ≤ (Utf8.decode (ByteArray.mk s.toArray) i).1 := by
  have hlt := (List.getElem?_eq_some_iff.1 hx).1
  have hs : i < (ByteArray.mk s.toArray).size := by simpa [ByteArray.size] using hlt
  refine (decode_high (ByteArray.mk s.toArray) i hs ?_).1
  have : (ByteArray.mk s.toArray)[i]'hs = x := by
    rw [List.getElem?_eq_getElem hlt] at hx
    have h1 := Option.some.inj hx
    rw [← h1]; rfl
  rw [this]; omega
theorem joins_high {c : Int} (h : 128 ≤ c) : joinsI c = false := by simp [joinsI]; omega
theorem nj_loop {s : List UInt8} (hlen : s.length ≤ 9223372036854775807) {Q : CR → Prop} : ∀ (d i : Nat), s.length - i = d → i ≤ s.length → Q (rI (njL (s.drop i) i)) →
    WLoop Tryz.X197 (cd PP 197 [1, 0, 1, 0, 0]) ([X, .fn (.func 118) [] [], .bool true, X, X, X, X, X, X, X, .ptr 0 0] ++ List.replicate 10 X) ⟨[some (.iter s i)], [], []⟩ (kBlock 0 (kSeq Tryz.X197 (cd PP 197 [1, 1]) (kRet Tryz.X197 197 Q))) := by
  have c197 : Cts Tryz.B [(118, R118)] := (Cts.nil _).cons ct118
  intro d
  induction d with
  | zero =>
    intro i hd hi hQ
    have hi' : i = s.length := by omega
    subst hi'
    refine WLoop_step Tryz.bok c197 ((v197l _ _ Q).mpr (cIf_neg (by simp) ?_))
    simpa [njL] using hQ
  | succ d ih =>
    intro i hd hi hQ
    have hlt : i < s.length := by omega
    obtain ⟨x, hx, hdr⟩ := drop_cons hlt
    rw [hdr] at hQ
    refine WLoop_step Tryz.bok c197 ((v197l _ _ Q).mpr (cIf_pos (by simpa using hlt) ⟨trivial, ?_⟩))
    by_cases hl : x.toNat < 128
    · rw [dec_low hx hl]
      refine cIf_intro (fun h => ?_) (fun h => ?_)
      · have h : joinsI (x.toNat : Int) = false := by simpa using h
        simpa [njL, h] using hQ
      · have h : joinsI (x.toNat : Int) = true := by simpa using h
        refine ih (i + 1) (by omega) (by omega) ?_
        simpa [njL, h] using hQ
    · have hh := dec_high hx hl
      have h1 : joinsI ((Utf8.decode (ByteArray.mk s.toArray) i).1 : Int) = false := joins_high (by omega)
      have h2 : joinsI (x.toNat : Int) = false := joins_high (by omega)
      refine cIf_pos (by simp [h1]) ?_
      simpa [njL, h2] using hQ
theorem ct197 : Ct Tryz.B.c0 197 R197 := Ct.of_wp (lm := [(2, [1, 2, 10]), (6, [])]) Tryz.bok ((Cts.nil _).cons ct118) ⟨_, _, Tryz.func197, rfl⟩ fun args D r hR hD => by
  unfold R197 at hR
  split at hR <;> cases hR
  exact ⟨rfl, (v197 _ _).mpr (nj_loop hD _ 0 rfl (Nat.zero_le _) rfl)⟩
theorem ct155 : Ct Tryz.B.c0 155 R155 := Ct.of_wp (lm := []) Tryz.bok ((Cts.nil _).cons ct197) ⟨_, _, Tryz.func155, rfl⟩ fun args D r hR hD => by
  unfold R155 at hR
  split at hR <;> cases hR
  exact ⟨rfl, (v155 _ _).mpr ⟨hD, rfl⟩⟩
theorem ct117 : Ct Tryz.B.c0 117 R117 := Ct.of_wp (lm := []) Tryz.bok ((Cts.nil _).cons ct155) ⟨_, _, Tryz.func117, rfl⟩ fun args D r hR hD => by
  unfold R117 at hR
  split at hR <;> cases hR
  exact ⟨rfl, (v117 _ _).mpr ⟨hD, rfl⟩⟩
theorem njL_all : ∀ (s : List UInt8) (i : Int), 0 ≤ i → (0 ≤ njL s i ↔ ¬ (s.all fun c => joinsI (c.toNat : Int)) = true)
  | [], i, h => by simp [njL]
  | c :: l, i, h => by
    simp only [njL]
    split
    · rename_i hc
      rw [njL_all l (i + 1) (by omega)]
      simp [hc]
    · rename_i hc
      simp [hc, h]
def R72 : Spc := fun args => match args with
  | [.str s] => some (s.length ≤ 9223372036854775807, rB (isWordB s))
  | _ => none
theorem ct72 : Ct Tryz.B.c0 72 R72 := Ct.of_wp (lm := []) Tryz.bok ((Cts.nil _).cons ct117) ⟨_, _, Tryz.func72, rfl⟩ fun args D r hR hD => by
  unfold R72 at hR
  split at hR <;> cases hR
  rename_i s
  refine ⟨rfl, (v72 _ _).mpr ?_⟩
  have hnil : (ByteArray.mk #[]).data.toList = ([] : List UInt8) := rfl
  rw [hnil]
  by_cases h0 : s = []
  · subst h0
    exact cIf_pos rfl rfl
  · have hpos : 0 < s.length := by
      cases s with
      | nil => exact absurd rfl h0
      | cons a l => simp
    refine cIf_neg (by simpa using h0) (cIf_intro (fun h1 => ?_) (fun h1 => cIf_pos (by simpa using hpos) (cIf_intro (fun h2 => ?_) (fun h2 => cIf_pos (by simpa using hpos) (cIf_intro (fun h3 => ?_) (fun h3 => ⟨hD, ?_⟩))))))
    · apply rB_eq; simp [isWordB] at *; omega
    · apply rB_eq; simp [isWordB] at *; omega
    · apply rB_eq; simp [isWordB] at *; omega
    · apply rB_eq
      have ha := njL_all s 0 (by omega)
      simp only [isWordB, Bool.and_eq_true, decide_eq_true_eq, Bool.not_eq_true', decide_eq_false_iff_not, ge_iff_le]
      rw [ha]
      simp at h1 h2 h3
      constructor
      · intro hh; exact ⟨⟨⟨⟨by omega, by omega⟩, by simpa using h2⟩, by simpa using h3⟩, Classical.not_not.1 hh⟩
      · intro hh; exact fun hn => hn hh.2
end Go.Proofs
/-! VC8 -/
set_option maxRecDepth 100000
set_option linter.unusedVariables false
namespace Go.Proofs
open Go Go.Ev
def RV (f : Prf → Int) : List AV → Option (Prop × CR) := fun args => match args with
  | [.agg [.int .i64 a, .int .i64 b, .bool c, .bool d, .bool e, .int .i64 g, .int .i64 h]] => some (True, rI (f ⟨a, b, c, d, e, g, h⟩))
  | _ => none
noncomputable def R125 : Spc := fun args => match args with
  | [.int .u8 a, .agg p] => some ((∃ q, p = encP q) ∧ 0 ≤ a ∧ a ≤ 7, rI (onEnc encP (atI a) 0 p))
  | _ => none
noncomputable def R80 : Spc := fun args => match args with
  | [.agg l, .agg p, .agg q] => some ((∃ t, l = encT t ∧ wfT t ∧ shT t = true) ∧ (∃ a, p = encP a) ∧ ∃ b, q = encP b, rB (onEnc encT (fun t => onEnc encP (fun a => onEnc encP (fun b => hoT t a b) false q) false p) false l))
  | _ => none
end Go.Proofs
/-! C8 -/
set_option maxRecDepth 100000
set_option linter.unusedVariables false
namespace Go.Proofs
open Go Go.Ev
theorem node_op {op attr side n : Int} {len : Nat} (h : nodeB op attr side n len = true) : (op = 1 ∨ ((op = 2 ∨ op = 3 ∨ op = 4 ∨ op = 5 ∨ op = 6) ∧ 0 ≤ attr ∧ attr ≤ 7) ∨ (op = 7 ∧ len = 1) ∨ op = 8 ∨ op = 9) := by
  unfold nodeB nodeBx at h
  split at h
  · exact .inl ‹_›
  split at h
  · simp at h; right; left; constructor <;> omega
  split at h
  · simp at h; right; left; constructor <;> omega
  split at h
  · simp at h; right; left; constructor <;> omega
  split at h
  · simp at h; right; left; constructor <;> omega
  split at h
  · simp at h; right; right; left; constructor <;> omega
  split at h
  · rename_i h8; right; right; right; exact h8
  · cases h
theorem shTs_get : ∀ {l : List Tst} {k : Nat} {x : Tst}, shTs l = true → l[k]? = some x → shT x = true
  | [], k, x, _, h => by simp at h
  | y :: l, 0, x, hw, h => by simp at h; subst h; simp only [shTs, Bool.and_eq_true] at hw; exact hw.1
  | y :: l, k + 1, x, hw, h => by simp only [shTs, Bool.and_eq_true] at hw; exact shTs_get hw.2 (by simpa using h)

section
variable {m : Nat} (hc : Cts Tryz.B [(80, R80.below m), (125, R125)]) {op attr side n : Int} {of : List Tst} (hlen : of.length ≤ 9223372036854775807) (hwf : wfTs of) (hsh : shTs of = true) (hsz : avSizeL (encTs of) + 22 ≤ m) {p q : Prf} {Q : CR → Prop}
include hc hlen hwf hsh hsz
end
end Go.Proofs
