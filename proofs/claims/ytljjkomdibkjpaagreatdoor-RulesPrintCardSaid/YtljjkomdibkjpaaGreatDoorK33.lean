/- Contracts of functions of the program and of the reference. -/
import Derived.Test.YtljjkomdibkjpaaGreatDoorK31
import Derived.Test.YtljjkomdibkjpaaGreatDoorE6
import Derived.Test.YtljjkomdibkjpaaGreatDoorK32
import Derived.Test.YtljjkomdibkjpaaGreatDoorK10
set_option linter.unusedVariables false
set_option linter.unusedSimpArgs false
/-! VP1 -/
set_option maxRecDepth 100000
set_option linter.unusedVariables false
namespace Go.Proofs
open Go Go.Ev
/-- Bytes as cells. -/
def byA (s : List UInt8) : List AV := s.map fun b => .int .u8 (b.toNat : Int)
def R110 : SpcT := fun args S => match args, S with
  | [.ptr 1 0], ⟨[a, some (.cells [.raw .nilPtr, .vs [] 0 .zero] 97), c], [], ws⟩ => some (True, .ret (.tup []), ⟨[a, some (.cells [.ptr 1 0, .vs [] 0 .zero] 97), c], [], addAll [1] ws⟩)
  | [.ptr 1 0], ⟨[a, some (.cells [.ptr 1 0, .vs l n (.own 0)] 97), c], [t], ws⟩ => some (True, .ret (.tup []), ⟨[a, some (.cells [.ptr 1 0, .vs l n (.own 0)] 97), c], [t], ws⟩)
  | _, _ => none
/-- WriteString of a builder in block 1 of three. -/
def R66 : SpcT := fun args S => match args, S with
  | [.ptr 1 0, .str s], ⟨[a, some (.cells [.raw .nilPtr, .vs [] 0 .zero] 97), c], [], ws⟩ => some (0 < s.length ∧ s.length ≤ 1000000000, .ret (.tup [I s.length, .raw .nilIface]), ⟨[a, some (.cells [.ptr 1 0, .vs (byA s) s.length (.own 0)] 97), c], [(s.length, 1, 5)], addAll [1] ws⟩)
  | [.ptr 1 0, .str s], ⟨[a, some (.cells [.ptr 1 0, .vs l n (.own 0)] 97), c], [t], ws⟩ => some ((∃ u, l = byA u ∧ n = u.length) ∧ t = (n, 1, 5) ∧ 0 < s.length ∧ n + s.length ≤ 1000000000, .ret (.tup [I s.length, .raw .nilIface]), ⟨[a, some (.cells [.ptr 1 0, .vs (l ++ byA s) (n + s.length) (.own 0)] 97), c], [(n + s.length, 1, 5)], addAll [1] ws⟩)
  | _, _ => none
noncomputable def Tryz.X110 : WCx := Tryz.B.wcx []
noncomputable def Tryz.B110 : Base := Tryz.B.hk 110 (specT R110)
noncomputable def Tryz.X66 : WCx := Tryz.B110.wcx []
theorem v110u (a c : Option HB) (v : AV) (T : List (Nat × (Nat × Nat))) (k : Kont) : wpC Tryz.X110 (cd PP 110 []) ([.ptr 1 0] ++ List.replicate 19 X) ⟨[a, some (.cells [.ptr 1 0, v] 97), c], T, []⟩ k =
  (k EX.normal [AV.ptr 1 0, X, AV.ptr 1 0, AV.ptr 1 0, AV.ptr 1 0, AV.ptr 1 0, Bo false, X, X, X, X, X, X, X, AV.ptr 1 0, AV.ptr 1 0, AV.ptr 1 0, AV.ptr 1 0, AV.ptr 1 0, Bo false] (St.mk [a, some (HB.cells [AV.ptr 1 0, v] 97), c] T [])) := by kernel_rfl
theorem v110f (a c : Option HB) (v : AV) (T : List (Nat × (Nat × Nat))) (k : Kont) : wpC Tryz.X110 (cd PP 110 []) ([.ptr 1 0] ++ List.replicate 19 X) ⟨[a, some (.cells [.raw .nilPtr, v] 97), c], T, []⟩ k =
  (k EX.normal ([AV.ptr 1 0, X, AV.ptr 1 0, AV.ptr 1 0, AV.ptr 1 0, AV.raw RV.nilPtr, Bo true, AV.ptr 1 0, AV.ptr 1 0, AV.ptr 1 0, AV.ptr 1 0, AV.ptr 1 0, AV.ptr 1 0, AV.ptr 1 0] ++ List.replicate 6 X) (St.mk [a, some (HB.cells [AV.ptr 1 0, v] 97), c] T [1])) := by kernel_rfl
theorem v66f (a c : Option HB) (s : List UInt8) (k : Kont) : wpC Tryz.X66 (cd PP 66 []) ([.ptr 1 0, .str s] ++ List.replicate 17 X) ⟨[a, some (.cells [.raw .nilPtr, .vs [] 0 .zero] 97), c], [], []⟩ k =
  (True ∧ cIf ((List.map (fun (c : UInt8) => U (↑c.toNat : Int)) s).all AV.one) (cIf (decide ((0 + s.length) * 1 ≤ 140737488355328)) (cIf (decide (0 + s.length ≤ 140737488355328)) (cIf (decide (s.length = 0)) (k EX.ret [AV.ptr 1 0, AV.str s, X, X, I (↑s.length : Int), AV.raw RV.nilIface, AV.ptr 1 0, AV.tup [], AV.ptr 1 0, AV.ptr 1 0, AV.ptr 1 0, AV.ptr 1 1, AV.vs [] 0 Tok.zero, AV.str s, AV.vs [] 0 Tok.zero, AV.ptr 1 0, AV.ptr 1 1, AV.str s, I (↑s.length : Int)] (St.mk [a, some (HB.cells [AV.ptr 1 0, AV.vs [] 0 Tok.zero] 97), c] [] [1])) (k EX.ret [AV.ptr 1 0, AV.str s, X, X, I (↑s.length : Int), AV.raw RV.nilIface, AV.ptr 1 0, AV.tup [], AV.ptr 1 0, AV.ptr 1 0, AV.ptr 1 0, AV.ptr 1 1, AV.vs [] 0 Tok.zero, AV.str s, AV.vs (List.map (fun (c : UInt8) => U (↑c.toNat : Int)) s) s.length (Tok.own 0), AV.ptr 1 0, AV.ptr 1 1, AV.str s, I (↑s.length : Int)] (St.mk [a, some (HB.cells [AV.ptr 1 0, AV.vs (List.map (fun (c : UInt8) => U (↑c.toNat : Int)) s) s.length (Tok.own 0)] 97), c] [(s.length, 1, 5)] [1]))) False) False) False) := by kernel_rfl
theorem v66u (a c : Option HB) (l : List AV) (n : Nat) (t : Nat × (Nat × Nat)) (s : List UInt8) (k : Kont) : wpC Tryz.X66 (cd PP 66 []) ([.ptr 1 0, .str s] ++ List.replicate 17 X) ⟨[a, some (.cells [.ptr 1 0, .vs l n (.own 0)] 97), c], [t], []⟩ k =
  (True ∧ cIf ((List.map (fun (c : UInt8) => U (↑c.toNat : Int)) s).all AV.one) (cIf (decide ((n + s.length) * 1 ≤ 140737488355328)) (cIf (decide (n + s.length ≤ 140737488355328)) (cIf (decide (l.length = n * 1)) (cIf (decide (s.length = 0)) (k EX.ret [AV.ptr 1 0, AV.str s, X, X, I (↑s.length : Int), AV.raw RV.nilIface, AV.ptr 1 0, AV.tup [], AV.ptr 1 0, AV.ptr 1 0, AV.ptr 1 0, AV.ptr 1 1, AV.vs l n (Tok.own 0), AV.str s, AV.vs l n (Tok.own 0), AV.ptr 1 0, AV.ptr 1 1, AV.str s, I (↑s.length : Int)] (St.mk [a, some (HB.cells [AV.ptr 1 0, AV.vs l n (Tok.own 0)] 97), c] [t] [1])) (cIf (decide ([t][0]? = some (n, 1, 5))) (k EX.ret [AV.ptr 1 0, AV.str s, X, X, I (↑s.length : Int), AV.raw RV.nilIface, AV.ptr 1 0, AV.tup [], AV.ptr 1 0, AV.ptr 1 0, AV.ptr 1 0, AV.ptr 1 1, AV.vs l n (Tok.own 0), AV.str s, AV.vs (l ++ List.map (fun (c : UInt8) => U (↑c.toNat : Int)) s) (n + s.length) (Tok.own 0), AV.ptr 1 0, AV.ptr 1 1, AV.str s, I (↑s.length : Int)] (St.mk [a, some (HB.cells [AV.ptr 1 0, AV.vs (l ++ List.map (fun (c : UInt8) => U (↑c.toNat : Int)) s) (n + s.length) (Tok.own 0)] 97), c] [(n + s.length, 1, 5)] [1])) False)) False) False) False) False) := by kernel_rfl
end Go.Proofs
/-! P1 -/
set_option maxRecDepth 100000
set_option linter.unusedVariables false
namespace Go.Proofs
open Go Go.Ev
/-! The builder's calls. -/
theorem byA_noH (n : Nat) : ∀ s : List UInt8, noHL n (byA s) = true
  | [] => rfl
  | b :: s => by show (true && noHL n (byA s)) = true; rw [byA_noH n s]; rfl
theorem byA_sc (n : Nat) : ∀ s : List UInt8, scrubL n (byA s) = byA s
  | [] => rfl
  | b :: s => by show AV.int .u8 (b.toNat : Int) :: scrubL n (byA s) = _; rw [byA_sc n s]; rfl
theorem byA_one : ∀ s : List UInt8, (byA s).all AV.one = true
  | [] => rfl
  | b :: s => by show (true && (byA s).all AV.one) = true; rw [byA_one s]; rfl
theorem byA_app (s u : List UInt8) : byA s ++ byA u = byA (s ++ u) := by simp [byA]
theorem byA_len (s : List UInt8) : (byA s).length = s.length := by simp [byA]
theorem byA_inj : ∀ a b : List UInt8, byA a = byA b → a = b
  | [], [], _ => rfl
  | [], b :: l, h => by simp [byA] at h
  | a :: l, [], h => by simp [byA] at h
  | a :: l, b :: m, h => by
    simp only [byA, List.map_cons, List.cons.injEq, AV.int.injEq, true_and] at h
    have h1 : a.toNat = b.toNat := by have := h.1; omega
    rw [byA_inj l m h.2, UInt8.toNat_inj.1 h1]
theorem bytesR_byA : ∀ s : List UInt8, bytesR (byA s) = some s
  | [] => rfl
  | b :: s => by
    have hb := b.toNat_lt
    show bytesR (AV.int .u8 (b.toNat : Int) :: byA s) = _
    unfold bytesR
    rw [if_pos (by omega), bytesR_byA s]
    simp
theorem nt110 : Tryz.f110.ntmps = 20 := by kernel_rfl
theorem bd110 : Tryz.f110.body = some (cd PP 110 []) := by kernel_rfl
theorem nt66 : Tryz.f66.ntmps = 19 := by kernel_rfl
theorem bd66 : Tryz.f66.body = some (cd PP 66 []) := by kernel_rfl
theorem hk110 : HookOk Tryz.B.c0 110 (specT R110) := HookOk.of_T ⟨_, _, Tryz.func110, bd110⟩ fun args S D r S' hR hD => by
  unfold R110 at hR
  split at hR
  · cases hR
    refine call_of_T Tryz.bok (l := []) (Cts.nil _) (c := cd PP 110 []) Tryz.func110 bd110 (by kernel_rfl) ?_
    rw [nt110]
    refine (v110f _ _ (.vs [] 0 .zero) [] _).mpr ?_
    exact ⟨.inl rfl, .tup [], by kernel_rfl, by kernel_rfl, by kernel_rfl⟩
  · cases hR
    refine call_of_T Tryz.bok (l := []) (Cts.nil _) (c := cd PP 110 []) Tryz.func110 bd110 (by kernel_rfl) ?_
    rw [nt110]
    refine (v110u _ _ (.vs _ _ (.own 0)) [_] _).mpr ?_
    exact ⟨.inl rfl, .tup [], by kernel_rfl, by kernel_rfl, by kernel_rfl⟩
  · cases hR
theorem bok110 : BaseOk Tryz.B110 := Tryz.bok.hk hk110
theorem fin66 (C : Cx) (a b0 c : Option HB) (T0 : List (Nat × (Nat × Nat))) (ws : List Nat) (u : List UInt8) (d : Nat) (z : Int) (hT : T0 = [] ∨ ∃ t, T0 = [t]) : finish C ⟨[a, b0, c], T0, ws⟩ ⟨[a, some (.cells [.ptr 1 0, .vs (byA u) d (.own 0)] 97), c], [(d, 1, 5)], [1]⟩ (.tup [I z, .raw .nilIface]) = (.tup [I z, .raw .nilIface], ⟨[a, some (.cells [.ptr 1 0, .vs (byA u) d (.own 0)] 97), c], [(d, 1, 5)], addAll [1] ws⟩) := by
  have ht : finTb ⟨[a, b0, c], T0, ws⟩ ⟨[a, some (.cells [.ptr 1 0, .vs (byA u) d (.own 0)] 97), c], [(d, 1, 5)], [1]⟩ = 1 := by
    rcases hT with rfl | ⟨t, rfl⟩
    · unfold finTb
      rw [if_neg (by simp [wrTok, noTB, noTL, noT])]
      rfl
    · unfold finTb
      split <;> rfl
  have hp : pub C [a, some (.cells [.ptr 1 0, .vs (byA u) d (.own 0)] 97), c] 3 (.tup [I z, .raw .nilIface]) = some (.tup [I z, .raw .nilIface]) := rfl
  have hw : wrOk 3 [a, some (.cells [.ptr 1 0, .vs (byA u) d (.own 0)] 97), c] [1] = true := by
    simp [wrOk, noHB, noHL, noH, byA_noH]
  have hf : (List.filter (fun h => decide (h < 3)) [1] : List Nat) = [1] := rfl
  have e : finish C ⟨[a, b0, c], T0, ws⟩ ⟨[a, some (.cells [.ptr 1 0, .vs (byA u) d (.own 0)] 97), c], [(d, 1, 5)], [1]⟩ (.tup [I z, .raw .nilIface]) = (scrub (finTb ⟨[a, b0, c], T0, ws⟩ ⟨[a, some (.cells [.ptr 1 0, .vs (byA u) d (.own 0)] 97), c], [(d, 1, 5)], [1]⟩) (.tup [I z, .raw .nilIface]), ⟨(scrubAt (finTb ⟨[a, b0, c], T0, ws⟩ ⟨[a, some (.cells [.ptr 1 0, .vs (byA u) d (.own 0)] 97), c], [(d, 1, 5)], [1]⟩) [1] [a, some (.cells [.ptr 1 0, .vs (byA u) d (.own 0)] 97), c]).take 3, [(d, 1, 5)].take (finTb ⟨[a, b0, c], T0, ws⟩ ⟨[a, some (.cells [.ptr 1 0, .vs (byA u) d (.own 0)] 97), c], [(d, 1, 5)], [1]⟩), addAll [1] ws⟩) := by
    unfold finish
    exact if_pos hw
  rw [e, ht]
  show (AV.tup [I z, .raw .nilIface], (⟨[a, some (.cells [.ptr 1 0, .vs (scrubL 1 (byA u)) d (.own 0)] 97), c], [(d, 1, 5)], addAll [1] ws⟩ : St)) = _
  rw [byA_sc]
theorem hk66 : HookOk Tryz.B.c0 66 (specT R66) := HookOk.of_T ⟨_, _, Tryz.func66, bd66⟩ fun args S D r S' hR hD => by
  unfold R66 at hR
  split at hR
  · cases hR
    rename_i s a c ws
    refine call_of_T bok110 (l := []) (Cts.nil _) (c := cd PP 66 []) Tryz.func66 bd66 (by kernel_rfl) ?_
    rw [nt66]
    refine (v66f a c s _).mpr ?_
    refine ⟨trivial, cIf_pos (byA_one s) (cIf_pos (decide_eq_true (by omega)) (cIf_pos (decide_eq_true (by omega)) (cIf_neg (decide_eq_false (by omega)) ?_)))⟩
    refine ⟨.inr rfl, .tup [I s.length, .raw .nilIface], by kernel_rfl, ?_, ?_⟩
    · exact (congrArg (fun x : AV × St => CR.ret x.1) (fin66 Tryz.X66.cx a _ c [] ws s s.length s.length (.inl rfl))).symm
    · exact (congrArg (fun x : AV × St => x.2) (fin66 Tryz.X66.cx a _ c [] ws s s.length s.length (.inl rfl))).symm
  · cases hR
    rename_i s a l n c t ws
    obtain ⟨⟨u, rfl, rfl⟩, rfl, h1, h2⟩ := hD
    refine call_of_T bok110 (l := []) (Cts.nil _) (c := cd PP 66 []) Tryz.func66 bd66 (by kernel_rfl) ?_
    rw [nt66]
    refine (v66u a c (byA u) u.length (u.length, 1, 5) s _).mpr ?_
    refine ⟨trivial, cIf_pos (byA_one s) (cIf_pos (decide_eq_true (by omega)) (cIf_pos (decide_eq_true (by omega)) (cIf_pos (decide_eq_true (by rw [byA_len]; omega)) (cIf_neg (decide_eq_false (by omega)) (cIf_pos (decide_eq_true rfl) ?_)))))⟩
    rw [show byA u ++ List.map (fun (c : UInt8) => U (↑c.toNat : Int)) s = byA (u ++ s) from byA_app u s]
    refine ⟨.inr rfl, .tup [I s.length, .raw .nilIface], by kernel_rfl, ?_, ?_⟩
    · exact (congrArg (fun x : AV × St => CR.ret x.1) (fin66 Tryz.X66.cx a _ c [_] ws (u ++ s) (u.length + s.length) s.length (.inr ⟨_, rfl⟩))).symm
    · rw [byA_app]
      exact (congrArg (fun x : AV × St => x.2) (fin66 Tryz.X66.cx a _ c [_] ws (u ++ s) (u.length + s.length) s.length (.inr ⟨_, rfl⟩))).symm
  · cases hR
theorem hk69 {ws : List Nat} {a : Option HB} {u : List UInt8} (h0 : 0 < u.length) (h1 : u.length ≤ 1000000000) : CallOk Tryz.B.c0 69 [.ptr 1 0] ⟨[a, some (.cells [.ptr 1 0, .vs (byA u) u.length (.own 0)] 97)], [(u.length, 1, 5)], ws⟩ (.ret (.str u)) ⟨[a, some (.cells [.ptr 1 0, .vs (byA u) u.length (.own 0)] 97)], [(u.length, 1, 5)], ws⟩ := by
  refine strHk_ok (C := Tryz.B.c0) (ρ := Tryz.lays169_ren) Tryz.lays169 Tryz.bextra ?_
  unfold strHk
  refine (if_pos ⟨rfl, rfl, byA_len u, h0, by omega⟩).trans ?_
  rw [bytesR_byA]
  rfl
theorem str_ok {ws : List Nat} {a : Option HB} {u : List UInt8} (h0 : 0 < u.length) (h1 : u.length ≤ 1000000000) : CallOk Tryz.B.c0 69 [.ptr 1 0] ⟨[a, some (.cells [.ptr 1 0, .vs (byA u) u.length (.own 0)] 97)], [(u.length, 1, 5)], ws⟩ (.ret (.str u)) ⟨[a, some (.cells [.ptr 1 0, .vs (byA u) u.length (.own 0)] 97)], [(u.length, 1, 5)], ws⟩ := hk69 h0 h1
/-- String of a written builder in block 1 of two. -/
noncomputable def R69u : SpcT := fun args S => match args, S with
  | [.ptr 1 0], ⟨[a, some (.cells [.ptr 1 0, .vs l n (.own 0)] 97)], [t], ws⟩ => some ((∃ u, l = byA u ∧ n = u.length ∧ 0 < n ∧ n ≤ 1000000000) ∧ t = (n, 1, 5), .ret (.str (onEnc byA id [] l)), ⟨[a, some (.cells [.ptr 1 0, .vs l n (.own 0)] 97)], [t], ws⟩)
  | _, _ => none
theorem hk69u : HookOk Tryz.B.c0 69 (specT R69u) := HookOk.of_T ⟨_, _, Tryz.func69, rfl⟩ fun args S D r S' hR hD => by
  unfold R69u at hR
  split at hR
  · cases hR
    obtain ⟨⟨u, rfl, rfl, h0, h1⟩, rfl⟩ := hD
    rw [onEnc_eq byA_inj]
    exact ⟨str_ok h0 h1, Wl.refl _⟩
  · cases hR
end Go.Proofs
/-! VP2 -/
set_option maxRecDepth 100000
set_option linter.unusedVariables false
namespace Go.Proofs
open Go Go.Ev
def lm25 : List (Nat × List Nat) := [(5, [3, 10, 11, 12]), (9, [3])]
noncomputable def Tryz.B25 : Base := (Tryz.B.hk 66 (specT R66)).hk 69 (specT R69u)
noncomputable def Tryz.X25 (it : Int → List UInt8) : WCx := Tryz.B25.wcx [(27, R27), (67, R67 it), (68, R68 it)] lm25 [] [] [(5, 2)]
theorem v25 (it : Int → List UInt8) (l : List AV) (len : Nat) (Q : CR → Prop) : wpF (Tryz.X25 it) 25 [.agg [.vs l len .none]] Q =
  ((∃ (rs : List Rul), l = encRs rs ∧ len = rs.length ∧ wfRs rs) ∧ cIf (onEnc encRs chk (0 : Int) l != (0 : Int)) (Q (CR.ret (AV.str []))) (cIf (noHL 2 ([X, X, X, AV.ptr 1 0, X, X, X, X, X, X, AV.vs l len Tok.none, I (↑len : Int), I (0 : Int)] ++ List.replicate 25 X)) (cIf ([some (HB.cells [AV.vs l len Tok.none] 25), some (HB.cells [AV.raw RV.nilPtr, AV.vs [] 0 Tok.zero] 97)].all (okBlk 2)) (WLoop (Tryz.X25 it) (cd (Tryz.X25 it).P 25 [1, 1, 1, 0, 1, 0, 0]) ([X, X, X, AV.ptr 1 0, X, X, X, X, X, X, AV.vs l len Tok.none, I (↑len : Int), I (0 : Int)] ++ List.replicate 25 X) (St.mk [some (HB.cells [AV.vs l len Tok.none] 25), some (HB.cells [AV.raw RV.nilPtr, AV.vs [] 0 Tok.zero] 97)] [] []) (kBlock 0 (kSeq (Tryz.X25 it) (cd (Tryz.X25 it).P 25 [1, 1, 1, 1]) (kRet (Tryz.X25 it) 25 Q)))) False) False)) := by kernel_rfl
theorem v25z (it : Int → List UInt8) (l : List AV) (len : Nat) (i : Int) (Q : CR → Prop) : wpC (Tryz.X25 it) (cd PP 25 [1, 1, 1, 0, 1, 0, 0]) ([X, X, X, .ptr 1 0, X, X, X, X, X, X, .vs l len .none, I len, I i] ++ List.replicate 25 X) ⟨[some (.cells [.vs l len .none] 25), some (.cells [.raw .nilPtr, .vs [] 0 .zero] 97)], [], []⟩ (kLoop (Tryz.X25 it) (cd PP 25 [1, 1, 1, 0, 1, 0, 0]) (kBlock 0 (kSeq (Tryz.X25 it) (cd PP 25 [1, 1, 1, 1]) (kRet (Tryz.X25 it) 25 Q)))) =
  (cIf (decide (i < (↑len : Int))) (cIf (decide ((0 : Int) ≤ i)) (cIf (decide (i.toNat < len)) (cIf (decide (len * 8 = l.length)) (cIf (decide (8 ≤ (List.drop (i.toNat * 8) l).length)) (cIf (like zR (el (List.drop (i.toNat * 8) l) 0 8)) (cIf (decide ([114, 117, 108, 101, 32].length + (cS (el (List.drop (i.toNat * 8) l) 0 8) 0).length ≤ 9223372036854775807)) (cIf (decide (([114, 117, 108, 101, 32] ++ cS (el (List.drop (i.toNat * 8) l) 0 8) 0).length + [32, 114, 97, 110, 107, 32].length ≤ 9223372036854775807)) (((0 : Int) ≤ cI (el (List.drop (i.toNat * 8) l) 0 8) 1 ∧ cI (el (List.drop (i.toNat * 8) l) 0 8) 1 ≤ (1000 : Int)) ∧ St.mk [some (HB.cells [AV.vs l len Tok.none] 25), some (HB.cells [AV.raw RV.nilPtr, AV.vs [] 0 Tok.zero] 97), some (HB.cells (elR (el (List.drop (i.toNat * 8) l) 0 8)) 73)] [] [2] = St.mk [some (HB.cells [AV.vs l len Tok.none] 25), some (HB.cells [AV.raw RV.nilPtr, AV.vs [] 0 Tok.zero] 97), some (HB.cells (elR (el (List.drop (i.toNat * 8) l) 0 8)) 73)] [] [2] ∧ cIf (decide (([114, 117, 108, 101, 32] ++ cS (el (List.drop (i.toNat * 8) l) 0 8) 0 ++ [32, 114, 97, 110, 107, 32]).length + (it (cI (el (List.drop (i.toNat * 8) l) 0 8) 1)).length ≤ 9223372036854775807)) (cIf (decide (([114, 117, 108, 101, 32] ++ cS (el (List.drop (i.toNat * 8) l) 0 8) 0 ++ [32, 114, 97, 110, 107, 32] ++ it (cI (el (List.drop (i.toNat * 8) l) 0 8) 1)).length + [32, 119, 101, 105, 103, 104, 116, 32].length ≤ 9223372036854775807)) (((0 : Int) ≤ cI (el (List.drop (i.toNat * 8) l) 0 8) 2 ∧ cI (el (List.drop (i.toNat * 8) l) 0 8) 2 ≤ (1000 : Int)) ∧ St.mk [some (HB.cells [AV.vs l len Tok.none] 25), some (HB.cells [AV.raw RV.nilPtr, AV.vs [] 0 Tok.zero] 97), some (HB.cells (elR (el (List.drop (i.toNat * 8) l) 0 8)) 73)] [] [2] = St.mk [some (HB.cells [AV.vs l len Tok.none] 25), some (HB.cells [AV.raw RV.nilPtr, AV.vs [] 0 Tok.zero] 97), some (HB.cells (elR (el (List.drop (i.toNat * 8) l) 0 8)) 73)] [] [2] ∧ cIf (decide (([114, 117, 108, 101, 32] ++ cS (el (List.drop (i.toNat * 8) l) 0 8) 0 ++ [32, 114, 97, 110, 107, 32] ++ it (cI (el (List.drop (i.toNat * 8) l) 0 8) 1) ++ [32, 119, 101, 105, 103, 104, 116, 32]).length + (it (cI (el (List.drop (i.toNat * 8) l) 0 8) 2)).length ≤ 9223372036854775807)) (cIf (decide (([114, 117, 108, 101, 32] ++ cS (el (List.drop (i.toNat * 8) l) 0 8) 0 ++ [32, 114, 97, 110, 107, 32] ++ it (cI (el (List.drop (i.toNat * 8) l) 0 8) 1) ++ [32, 119, 101, 105, 103, 104, 116, 32] ++ it (cI (el (List.drop (i.toNat * 8) l) 0 8) 2)).length + [32, 58, 32].length ≤ 9223372036854775807)) (cIf (noHL [some (HB.cells [AV.vs l len Tok.none] 25), some (HB.cells [AV.raw RV.nilPtr, AV.vs [] 0 Tok.zero] 97), some (HB.cells (elR (el (List.drop (i.toNat * 8) l) 0 8)) 73)].length ([] ++ [AV.agg (elT3 (el (List.drop (i.toNat * 8) l) 0 8)), I (0 : Int)] ++ [])) (((∃ (t : Tst), (elT3 (el (List.drop (i.toNat * 8) l) 0 8)) = encT t ∧ wfT t ∧ shT t = true ∧ ndT t ≤ 1000) ∧ (0 : Int) ≤ (0 : Int) ∧ (0 : Int) ≤ (3 : Int)) ∧ St.mk [some (HB.cells [AV.vs l len Tok.none] 25), some (HB.cells [AV.raw RV.nilPtr, AV.vs [] 0 Tok.zero] 97), some (HB.cells (elR (el (List.drop (i.toNat * 8) l) 0 8)) 73)] [] [2] = St.mk [some (HB.cells [AV.vs l len Tok.none] 25), some (HB.cells [AV.raw RV.nilPtr, AV.vs [] 0 Tok.zero] 97), some (HB.cells (elR (el (List.drop (i.toNat * 8) l) 0 8)) 73)] [] [2] ∧ cIf (decide (([114, 117, 108, 101, 32] ++ cS (el (List.drop (i.toNat * 8) l) 0 8) 0 ++ [32, 114, 97, 110, 107, 32] ++ it (cI (el (List.drop (i.toNat * 8) l) 0 8) 1) ++ [32, 119, 101, 105, 103, 104, 116, 32] ++ it (cI (el (List.drop (i.toNat * 8) l) 0 8) 2) ++ [32, 58, 32]).length + (onEnc encT (fun (t : Tst) => wrT it t (0 : Int)) [] (elT3 (el (List.drop (i.toNat * 8) l) 0 8))).length ≤ 9223372036854775807)) (cIf (decide (([114, 117, 108, 101, 32] ++ cS (el (List.drop (i.toNat * 8) l) 0 8) 0 ++ [32, 114, 97, 110, 107, 32] ++ it (cI (el (List.drop (i.toNat * 8) l) 0 8) 1) ++ [32, 119, 101, 105, 103, 104, 116, 32] ++ it (cI (el (List.drop (i.toNat * 8) l) 0 8) 2) ++ [32, 58, 32] ++ onEnc encT (fun (t : Tst) => wrT it t (0 : Int)) [] (elT3 (el (List.drop (i.toNat * 8) l) 0 8))).length + [10].length ≤ 9223372036854775807)) ((0 < ([114, 117, 108, 101, 32] ++ cS (el (List.drop (i.toNat * 8) l) 0 8) 0 ++ [32, 114, 97, 110, 107, 32] ++ it (cI (el (List.drop (i.toNat * 8) l) 0 8) 1) ++ [32, 119, 101, 105, 103, 104, 116, 32] ++ it (cI (el (List.drop (i.toNat * 8) l) 0 8) 2) ++ [32, 58, 32] ++ onEnc encT (fun (t : Tst) => wrT it t (0 : Int)) [] (elT3 (el (List.drop (i.toNat * 8) l) 0 8)) ++ [10]).length ∧ ([114, 117, 108, 101, 32] ++ cS (el (List.drop (i.toNat * 8) l) 0 8) 0 ++ [32, 114, 97, 110, 107, 32] ++ it (cI (el (List.drop (i.toNat * 8) l) 0 8) 1) ++ [32, 119, 101, 105, 103, 104, 116, 32] ++ it (cI (el (List.drop (i.toNat * 8) l) 0 8) 2) ++ [32, 58, 32] ++ onEnc encT (fun (t : Tst) => wrT it t (0 : Int)) [] (elT3 (el (List.drop (i.toNat * 8) l) 0 8)) ++ [10]).length ≤ 1000000000) ∧ cIf (noHL 2 ([X, X, X, AV.ptr 1 0, X, X, X, X, X, X, AV.vs l len Tok.none, I (↑len : Int), I (IntKind.i64.wrap (i + (1 : Int)))] ++ List.replicate 25 X)) (cIf ([some (HB.cells [AV.vs l len Tok.none] 25), some (HB.cells [AV.ptr 1 0, AV.vs (byA ([114, 117, 108, 101, 32] ++ cS (el (List.drop (i.toNat * 8) l) 0 8) 0 ++ [32, 114, 97, 110, 107, 32] ++ it (cI (el (List.drop (i.toNat * 8) l) 0 8) 1) ++ [32, 119, 101, 105, 103, 104, 116, 32] ++ it (cI (el (List.drop (i.toNat * 8) l) 0 8) 2) ++ [32, 58, 32] ++ onEnc encT (fun (t : Tst) => wrT it t (0 : Int)) [] (elT3 (el (List.drop (i.toNat * 8) l) 0 8)) ++ [10])) ([114, 117, 108, 101, 32] ++ cS (el (List.drop (i.toNat * 8) l) 0 8) 0 ++ [32, 114, 97, 110, 107, 32] ++ it (cI (el (List.drop (i.toNat * 8) l) 0 8) 1) ++ [32, 119, 101, 105, 103, 104, 116, 32] ++ it (cI (el (List.drop (i.toNat * 8) l) 0 8) 2) ++ [32, 58, 32] ++ onEnc encT (fun (t : Tst) => wrT it t (0 : Int)) [] (elT3 (el (List.drop (i.toNat * 8) l) 0 8)) ++ [10]).length (Tok.own 0)] 97)].all (okBlk 2)) (WLoop (Tryz.X25 it) (cd PP 25 [1, 1, 1, 0, 1, 0, 0]) ([X, X, X, AV.ptr 1 0, X, X, X, X, X, X, AV.vs l len Tok.none, I (↑len : Int), I (IntKind.i64.wrap (i + (1 : Int)))] ++ List.replicate 25 X) (St.mk [some (HB.cells [AV.vs l len Tok.none] 25), some (HB.cells [AV.ptr 1 0, AV.vs (byA ([114, 117, 108, 101, 32] ++ cS (el (List.drop (i.toNat * 8) l) 0 8) 0 ++ [32, 114, 97, 110, 107, 32] ++ it (cI (el (List.drop (i.toNat * 8) l) 0 8) 1) ++ [32, 119, 101, 105, 103, 104, 116, 32] ++ it (cI (el (List.drop (i.toNat * 8) l) 0 8) 2) ++ [32, 58, 32] ++ onEnc encT (fun (t : Tst) => wrT it t (0 : Int)) [] (elT3 (el (List.drop (i.toNat * 8) l) 0 8)) ++ [10])) ([114, 117, 108, 101, 32] ++ cS (el (List.drop (i.toNat * 8) l) 0 8) 0 ++ [32, 114, 97, 110, 107, 32] ++ it (cI (el (List.drop (i.toNat * 8) l) 0 8) 1) ++ [32, 119, 101, 105, 103, 104, 116, 32] ++ it (cI (el (List.drop (i.toNat * 8) l) 0 8) 2) ++ [32, 58, 32] ++ onEnc encT (fun (t : Tst) => wrT it t (0 : Int)) [] (elT3 (el (List.drop (i.toNat * 8) l) 0 8)) ++ [10]).length (Tok.own 0)] 97)] [(([114, 117, 108, 101, 32] ++ cS (el (List.drop (i.toNat * 8) l) 0 8) 0 ++ [32, 114, 97, 110, 107, 32] ++ it (cI (el (List.drop (i.toNat * 8) l) 0 8) 1) ++ [32, 119, 101, 105, 103, 104, 116, 32] ++ it (cI (el (List.drop (i.toNat * 8) l) 0 8) 2) ++ [32, 58, 32] ++ onEnc encT (fun (t : Tst) => wrT it t (0 : Int)) [] (elT3 (el (List.drop (i.toNat * 8) l) 0 8)) ++ [10]).length, 1, 5)] []) (kBlock 0 (kSeq (Tryz.X25 it) (cd PP 25 [1, 1, 1, 1]) (kRet (Tryz.X25 it) 25 Q)))) False) False) False) False) False) False) False) False) False) False) False) False) False) False) False) False) False) := by kernel_rfl
theorem v25o (it : Int → List UInt8) (l : List AV) (len : Nat) (i : Int) (cs : List AV) (n : Nat) (t : Nat × (Nat × Nat)) (Q : CR → Prop) : wpC (Tryz.X25 it) (cd PP 25 [1, 1, 1, 0, 1, 0, 0]) ([X, X, X, .ptr 1 0, X, X, X, X, X, X, .vs l len .none, I len, I i] ++ List.replicate 25 X) ⟨[some (.cells [.vs l len .none] 25), some (.cells [.ptr 1 0, .vs cs n (.own 0)] 97)], [t], []⟩ (kLoop (Tryz.X25 it) (cd PP 25 [1, 1, 1, 0, 1, 0, 0]) (kBlock 0 (kSeq (Tryz.X25 it) (cd PP 25 [1, 1, 1, 1]) (kRet (Tryz.X25 it) 25 Q)))) =
  (cIf (decide (i < (↑len : Int))) (cIf (decide ((0 : Int) ≤ i)) (cIf (decide (i.toNat < len)) (cIf (decide (len * 8 = l.length)) (cIf (decide (8 ≤ (List.drop (i.toNat * 8) l).length)) (cIf (like zR (el (List.drop (i.toNat * 8) l) 0 8)) (cIf (decide ([114, 117, 108, 101, 32].length + (cS (el (List.drop (i.toNat * 8) l) 0 8) 0).length ≤ 9223372036854775807)) (cIf (decide (([114, 117, 108, 101, 32] ++ cS (el (List.drop (i.toNat * 8) l) 0 8) 0).length + [32, 114, 97, 110, 107, 32].length ≤ 9223372036854775807)) (((0 : Int) ≤ cI (el (List.drop (i.toNat * 8) l) 0 8) 1 ∧ cI (el (List.drop (i.toNat * 8) l) 0 8) 1 ≤ (1000 : Int)) ∧ St.mk [some (HB.cells [AV.vs l len Tok.none] 25), some (HB.cells [AV.ptr 1 0, AV.vs cs n (Tok.own 0)] 97), some (HB.cells (elR (el (List.drop (i.toNat * 8) l) 0 8)) 73)] [t] [2] = St.mk [some (HB.cells [AV.vs l len Tok.none] 25), some (HB.cells [AV.ptr 1 0, AV.vs cs n (Tok.own 0)] 97), some (HB.cells (elR (el (List.drop (i.toNat * 8) l) 0 8)) 73)] [t] [2] ∧ cIf (decide (([114, 117, 108, 101, 32] ++ cS (el (List.drop (i.toNat * 8) l) 0 8) 0 ++ [32, 114, 97, 110, 107, 32]).length + (it (cI (el (List.drop (i.toNat * 8) l) 0 8) 1)).length ≤ 9223372036854775807)) (cIf (decide (([114, 117, 108, 101, 32] ++ cS (el (List.drop (i.toNat * 8) l) 0 8) 0 ++ [32, 114, 97, 110, 107, 32] ++ it (cI (el (List.drop (i.toNat * 8) l) 0 8) 1)).length + [32, 119, 101, 105, 103, 104, 116, 32].length ≤ 9223372036854775807)) (((0 : Int) ≤ cI (el (List.drop (i.toNat * 8) l) 0 8) 2 ∧ cI (el (List.drop (i.toNat * 8) l) 0 8) 2 ≤ (1000 : Int)) ∧ St.mk [some (HB.cells [AV.vs l len Tok.none] 25), some (HB.cells [AV.ptr 1 0, AV.vs cs n (Tok.own 0)] 97), some (HB.cells (elR (el (List.drop (i.toNat * 8) l) 0 8)) 73)] [t] [2] = St.mk [some (HB.cells [AV.vs l len Tok.none] 25), some (HB.cells [AV.ptr 1 0, AV.vs cs n (Tok.own 0)] 97), some (HB.cells (elR (el (List.drop (i.toNat * 8) l) 0 8)) 73)] [t] [2] ∧ cIf (decide (([114, 117, 108, 101, 32] ++ cS (el (List.drop (i.toNat * 8) l) 0 8) 0 ++ [32, 114, 97, 110, 107, 32] ++ it (cI (el (List.drop (i.toNat * 8) l) 0 8) 1) ++ [32, 119, 101, 105, 103, 104, 116, 32]).length + (it (cI (el (List.drop (i.toNat * 8) l) 0 8) 2)).length ≤ 9223372036854775807)) (cIf (decide (([114, 117, 108, 101, 32] ++ cS (el (List.drop (i.toNat * 8) l) 0 8) 0 ++ [32, 114, 97, 110, 107, 32] ++ it (cI (el (List.drop (i.toNat * 8) l) 0 8) 1) ++ [32, 119, 101, 105, 103, 104, 116, 32] ++ it (cI (el (List.drop (i.toNat * 8) l) 0 8) 2)).length + [32, 58, 32].length ≤ 9223372036854775807)) (cIf (noHL [some (HB.cells [AV.vs l len Tok.none] 25), some (HB.cells [AV.ptr 1 0, AV.vs cs n (Tok.own 0)] 97), some (HB.cells (elR (el (List.drop (i.toNat * 8) l) 0 8)) 73)].length ([] ++ [AV.agg (elT3 (el (List.drop (i.toNat * 8) l) 0 8)), I (0 : Int)] ++ [])) (((∃ (t : Tst), (elT3 (el (List.drop (i.toNat * 8) l) 0 8)) = encT t ∧ wfT t ∧ shT t = true ∧ ndT t ≤ 1000) ∧ (0 : Int) ≤ (0 : Int) ∧ (0 : Int) ≤ (3 : Int)) ∧ St.mk [some (HB.cells [AV.vs l len Tok.none] 25), some (HB.cells [AV.ptr 1 0, AV.vs cs n (Tok.own 0)] 97), some (HB.cells (elR (el (List.drop (i.toNat * 8) l) 0 8)) 73)] [t] [2] = St.mk [some (HB.cells [AV.vs l len Tok.none] 25), some (HB.cells [AV.ptr 1 0, AV.vs cs n (Tok.own 0)] 97), some (HB.cells (elR (el (List.drop (i.toNat * 8) l) 0 8)) 73)] [t] [2] ∧ cIf (decide (([114, 117, 108, 101, 32] ++ cS (el (List.drop (i.toNat * 8) l) 0 8) 0 ++ [32, 114, 97, 110, 107, 32] ++ it (cI (el (List.drop (i.toNat * 8) l) 0 8) 1) ++ [32, 119, 101, 105, 103, 104, 116, 32] ++ it (cI (el (List.drop (i.toNat * 8) l) 0 8) 2) ++ [32, 58, 32]).length + (onEnc encT (fun (t : Tst) => wrT it t (0 : Int)) [] (elT3 (el (List.drop (i.toNat * 8) l) 0 8))).length ≤ 9223372036854775807)) (cIf (decide (([114, 117, 108, 101, 32] ++ cS (el (List.drop (i.toNat * 8) l) 0 8) 0 ++ [32, 114, 97, 110, 107, 32] ++ it (cI (el (List.drop (i.toNat * 8) l) 0 8) 1) ++ [32, 119, 101, 105, 103, 104, 116, 32] ++ it (cI (el (List.drop (i.toNat * 8) l) 0 8) 2) ++ [32, 58, 32] ++ onEnc encT (fun (t : Tst) => wrT it t (0 : Int)) [] (elT3 (el (List.drop (i.toNat * 8) l) 0 8))).length + [10].length ≤ 9223372036854775807)) (((∃ (u : List UInt8), cs = byA u ∧ n = u.length) ∧ t = (n, 1, 5) ∧ 0 < ([114, 117, 108, 101, 32] ++ cS (el (List.drop (i.toNat * 8) l) 0 8) 0 ++ [32, 114, 97, 110, 107, 32] ++ it (cI (el (List.drop (i.toNat * 8) l) 0 8) 1) ++ [32, 119, 101, 105, 103, 104, 116, 32] ++ it (cI (el (List.drop (i.toNat * 8) l) 0 8) 2) ++ [32, 58, 32] ++ onEnc encT (fun (t : Tst) => wrT it t (0 : Int)) [] (elT3 (el (List.drop (i.toNat * 8) l) 0 8)) ++ [10]).length ∧ n + ([114, 117, 108, 101, 32] ++ cS (el (List.drop (i.toNat * 8) l) 0 8) 0 ++ [32, 114, 97, 110, 107, 32] ++ it (cI (el (List.drop (i.toNat * 8) l) 0 8) 1) ++ [32, 119, 101, 105, 103, 104, 116, 32] ++ it (cI (el (List.drop (i.toNat * 8) l) 0 8) 2) ++ [32, 58, 32] ++ onEnc encT (fun (t : Tst) => wrT it t (0 : Int)) [] (elT3 (el (List.drop (i.toNat * 8) l) 0 8)) ++ [10]).length ≤ 1000000000) ∧ cIf (noHL 2 ([X, X, X, AV.ptr 1 0, X, X, X, X, X, X, AV.vs l len Tok.none, I (↑len : Int), I (IntKind.i64.wrap (i + (1 : Int)))] ++ List.replicate 25 X)) (cIf ([some (HB.cells [AV.vs l len Tok.none] 25), some (HB.cells [AV.ptr 1 0, AV.vs (cs ++ byA ([114, 117, 108, 101, 32] ++ cS (el (List.drop (i.toNat * 8) l) 0 8) 0 ++ [32, 114, 97, 110, 107, 32] ++ it (cI (el (List.drop (i.toNat * 8) l) 0 8) 1) ++ [32, 119, 101, 105, 103, 104, 116, 32] ++ it (cI (el (List.drop (i.toNat * 8) l) 0 8) 2) ++ [32, 58, 32] ++ onEnc encT (fun (t : Tst) => wrT it t (0 : Int)) [] (elT3 (el (List.drop (i.toNat * 8) l) 0 8)) ++ [10])) (n + ([114, 117, 108, 101, 32] ++ cS (el (List.drop (i.toNat * 8) l) 0 8) 0 ++ [32, 114, 97, 110, 107, 32] ++ it (cI (el (List.drop (i.toNat * 8) l) 0 8) 1) ++ [32, 119, 101, 105, 103, 104, 116, 32] ++ it (cI (el (List.drop (i.toNat * 8) l) 0 8) 2) ++ [32, 58, 32] ++ onEnc encT (fun (t : Tst) => wrT it t (0 : Int)) [] (elT3 (el (List.drop (i.toNat * 8) l) 0 8)) ++ [10]).length) (Tok.own 0)] 97)].all (okBlk 2)) (WLoop (Tryz.X25 it) (cd PP 25 [1, 1, 1, 0, 1, 0, 0]) ([X, X, X, AV.ptr 1 0, X, X, X, X, X, X, AV.vs l len Tok.none, I (↑len : Int), I (IntKind.i64.wrap (i + (1 : Int)))] ++ List.replicate 25 X) (St.mk [some (HB.cells [AV.vs l len Tok.none] 25), some (HB.cells [AV.ptr 1 0, AV.vs (cs ++ byA ([114, 117, 108, 101, 32] ++ cS (el (List.drop (i.toNat * 8) l) 0 8) 0 ++ [32, 114, 97, 110, 107, 32] ++ it (cI (el (List.drop (i.toNat * 8) l) 0 8) 1) ++ [32, 119, 101, 105, 103, 104, 116, 32] ++ it (cI (el (List.drop (i.toNat * 8) l) 0 8) 2) ++ [32, 58, 32] ++ onEnc encT (fun (t : Tst) => wrT it t (0 : Int)) [] (elT3 (el (List.drop (i.toNat * 8) l) 0 8)) ++ [10])) (n + ([114, 117, 108, 101, 32] ++ cS (el (List.drop (i.toNat * 8) l) 0 8) 0 ++ [32, 114, 97, 110, 107, 32] ++ it (cI (el (List.drop (i.toNat * 8) l) 0 8) 1) ++ [32, 119, 101, 105, 103, 104, 116, 32] ++ it (cI (el (List.drop (i.toNat * 8) l) 0 8) 2) ++ [32, 58, 32] ++ onEnc encT (fun (t : Tst) => wrT it t (0 : Int)) [] (elT3 (el (List.drop (i.toNat * 8) l) 0 8)) ++ [10]).length) (Tok.own 0)] 97)] [(n + ([114, 117, 108, 101, 32] ++ cS (el (List.drop (i.toNat * 8) l) 0 8) 0 ++ [32, 114, 97, 110, 107, 32] ++ it (cI (el (List.drop (i.toNat * 8) l) 0 8) 1) ++ [32, 119, 101, 105, 103, 104, 116, 32] ++ it (cI (el (List.drop (i.toNat * 8) l) 0 8) 2) ++ [32, 58, 32] ++ onEnc encT (fun (t : Tst) => wrT it t (0 : Int)) [] (elT3 (el (List.drop (i.toNat * 8) l) 0 8)) ++ [10]).length, 1, 5)] []) (kBlock 0 (kSeq (Tryz.X25 it) (cd PP 25 [1, 1, 1, 1]) (kRet (Tryz.X25 it) 25 Q)))) False) False) False) False) False) False) False) False) False) False) False) False) False) False) False) False) (((∃ (u : List UInt8), cs = byA u ∧ n = u.length ∧ 0 < n ∧ n ≤ 1000000000) ∧ t = (n, 1, 5)) ∧ Q (CR.ret (AV.str (onEnc byA id [] cs))))) := by kernel_rfl
end Go.Proofs
/-! P2 -/
set_option maxRecDepth 100000
set_option linter.unusedVariables false
namespace Go.Proofs
open Go Go.Ev
/-! The program's print. -/
theorem bok25 : BaseOk Tryz.B25 := (Tryz.bok.hk hk66).hk hk69u
theorem e25 (rs : List Rul) (i : Int) : noHL 2 ([X, X, X, AV.ptr 1 0, X, X, X, X, X, X, AV.vs (encRs rs) rs.length Tok.none, I (rs.length : Int), I i] ++ List.replicate 25 X) = true := by
  refine noHL_app ?_ (noHL_rep 2 25)
  simp [noHL, noH, noH_encRs]
theorem b25 (rs : List Rul) (u : List UInt8) (n : Nat) (t : Tok) : [some (HB.cells [AV.vs (encRs rs) rs.length Tok.none] 25), some (HB.cells [AV.ptr 1 0, AV.vs (byA u) n t] 97)].all (okBlk 2) = true := by
  simp [okBlk, noHB, noHL, noH, noH_encRs, byA_noH]
theorem a25 (t : Tst) (n : Nat) : noHL n ([] ++ [AV.agg (encT t), I (0 : Int)] ++ []) = true := by simp [noHL, noH, noH_encT]
section
variable {it : Int → List UInt8} (hit : ∀ z, (it z).length ≤ 20) (hc : Cts Tryz.B25 [(27, R27), (67, R67 it), (68, R68 it)]) {rs : List Rul} (hrs : okRs rs) (hsh : ∀ x ∈ rs, shT x.t = true) (hok : ∀ x ∈ rs, smallB x.t = true ∧ rangesB x = true ∧ isWordB x.name = true) {Q : CR → Prop}
include hit hc hrs hsh hok
theorem l25o : ∀ (d i : Nat) (u : List UInt8), rs.length - i = d → i ≤ rs.length → 0 < u.length → u.length ≤ 2000 * i → Q (.ret (.str (prL it (rs.drop i) u))) →
    WLoop (Tryz.X25 it) (cd PP 25 [1, 1, 1, 0, 1, 0, 0]) ([X, X, X, .ptr 1 0, X, X, X, X, X, X, .vs (encRs rs) rs.length .none, I rs.length, I i] ++ List.replicate 25 X) ⟨[some (.cells [.vs (encRs rs) rs.length .none] 25), some (.cells [.ptr 1 0, .vs (byA u) u.length (.own 0)] 97)], [(u.length, 1, 5)], []⟩ (kBlock 0 (kSeq (Tryz.X25 it) (cd PP 25 [1, 1, 1, 1]) (kRet (Tryz.X25 it) 25 Q))) := by
  have hn := hrs.2.1
  intro d
  induction d with
  | zero =>
    intro i u hd hi h0 hb hQ
    have hi' : i = rs.length := by omega
    subst hi'
    rw [List.drop_length, prL] at hQ
    refine WLoop_unroll (C := Tryz.X25 it) (wcx_ones bok25 hc) (wcx_ok bok25 hc) ?_
    rw [v25o, onEnc_eq byA_inj]
    exact cIf_neg (decide_eq_false (by omega)) ⟨⟨⟨u, rfl, rfl, h0, by omega⟩, rfl⟩, hQ⟩
  | succ d ih =>
    intro i u hd hi h0 hb hQ
    have hlt : i < rs.length := by omega
    obtain ⟨x, hx, hdr⟩ := drop_cons hlt
    have hxm := List.mem_of_getElem? hx
    obtain ⟨o1, o2, o3⟩ := hok x hxm
    have hnd := nd_small o1
    have hwl := wrT_len hit x.t 0
    have hnl := word_len o3
    have i1 := hit x.rank
    have i2 := hit x.weight
    simp only [rangesB, Bool.and_eq_true, decide_eq_true_eq] at o2
    rw [hdr, prL] at hQ
    have hl : (lineR it x).length ≤ 2000 ∧ 0 < (lineR it x).length := by
      unfold lineR
      simp only [List.length_append, List.length_cons, List.length_nil]
      omega
    have st : ∀ {a b : Nat}, a + b ≤ 100000 → decide (a + b ≤ 9223372036854775807) = true := fun h => decide_eq_true (by omega)
    refine WLoop_unroll (C := Tryz.X25 it) (wcx_ones bok25 hc) (wcx_ok bok25 hc) ?_
    rw [v25o, Int.toNat_natCast i, encRs_el hx, encR_w, elT3_enc, wA1 (a := i) (by omega), onEnc_eq (fun _ _ => encT_inj _ _), show cS (encR x) 0 = x.name from rfl, show cI (encR x) 1 = x.rank from rfl, show cI (encR x) 2 = x.weight from rfl, show [114, 117, 108, 101, 32] ++ x.name ++ [32, 114, 97, 110, 107, 32] ++ it x.rank ++ [32, 119, 101, 105, 103, 104, 116, 32] ++ it x.weight ++ [32, 58, 32] ++ wrT it x.t 0 ++ [10] = lineR it x from rfl, byA_app]
    have hs := ih (i + 1) (u ++ lineR it x) (by omega) (by omega) (by rw [List.length_append]; omega) (by rw [List.length_append]; omega) hQ
    have hbk := b25 rs (u ++ lineR it x) (u ++ lineR it x).length (.own 0)
    rw [List.length_append] at hs hbk
    refine cIf_pos (decide_eq_true (by omega)) (cIf_pos (decide_eq_true (by omega)) (cIf_pos (decide_eq_true hlt) (cIf_pos (decide_eq_true (encRs_len rs).symm) (cIf_pos (decide_eq_true (enc_drop_len (encRs_len rs) hlt)) (cIf_pos (encR_like x) ?_)))))
    refine cIf_pos (st (by simp only [List.length_append, List.length_cons, List.length_nil]; omega)) (cIf_pos (st (by simp only [List.length_append, List.length_cons, List.length_nil]; omega)) ⟨⟨by omega, by omega⟩, rfl, ?_⟩)
    refine cIf_pos (st (by simp only [List.length_append, List.length_cons, List.length_nil]; omega)) (cIf_pos (st (by simp only [List.length_append, List.length_cons, List.length_nil]; omega)) ⟨⟨by omega, by omega⟩, rfl, ?_⟩)
    refine cIf_pos (st (by simp only [List.length_append, List.length_cons, List.length_nil]; omega)) (cIf_pos (st (by simp only [List.length_append, List.length_cons, List.length_nil]; omega)) (cIf_pos (a25 x.t _) ⟨⟨⟨x.t, rfl, (hrs.1.2 x hxm).1, hsh x hxm, by omega⟩, by omega, by omega⟩, rfl, ?_⟩))
    refine cIf_pos (st (by simp only [List.length_append, List.length_cons, List.length_nil]; omega)) (cIf_pos (st (by simp only [List.length_append, List.length_cons, List.length_nil]; omega)) ⟨⟨⟨u, rfl, rfl⟩, rfl, hl.2, by omega⟩, ?_⟩)
    exact cIf_pos (e25 _ _) (cIf_pos hbk hs)
theorem l25z (hne : 0 < rs.length) (hQ : Q (.ret (.str (prL it rs [])))) :
    WLoop (Tryz.X25 it) (cd PP 25 [1, 1, 1, 0, 1, 0, 0]) ([X, X, X, .ptr 1 0, X, X, X, X, X, X, .vs (encRs rs) rs.length .none, I rs.length, I 0] ++ List.replicate 25 X) ⟨[some (.cells [.vs (encRs rs) rs.length .none] 25), some (.cells [.raw .nilPtr, .vs [] 0 .zero] 97)], [], []⟩ (kBlock 0 (kSeq (Tryz.X25 it) (cd PP 25 [1, 1, 1, 1]) (kRet (Tryz.X25 it) 25 Q))) := by
  have hn := hrs.2.1
  obtain ⟨x, hx, hdr⟩ := drop_cons hne
  rw [List.drop_zero] at hdr
  have hxm := List.mem_of_getElem? hx
  obtain ⟨o1, o2, o3⟩ := hok x hxm
  have hnd := nd_small o1
  have hwl := wrT_len hit x.t 0
  have hnl := word_len o3
  have i1 := hit x.rank
  have i2 := hit x.weight
  simp only [rangesB, Bool.and_eq_true, decide_eq_true_eq] at o2
  have hQ : Q (.ret (.str (prL it (rs.drop 1) (lineR it x)))) := by
    rw [hdr, prL] at hQ
    exact hQ
  have hl : (lineR it x).length ≤ 2000 ∧ 0 < (lineR it x).length := by
    unfold lineR
    simp only [List.length_append, List.length_cons, List.length_nil]
    omega
  have st : ∀ {a b : Nat}, a + b ≤ 100000 → decide (a + b ≤ 9223372036854775807) = true := fun h => decide_eq_true (by omega)
  refine WLoop_unroll (C := Tryz.X25 it) (wcx_ones bok25 hc) (wcx_ok bok25 hc) ?_
  rw [v25z, show Int.toNat 0 = 0 from rfl, encRs_el hx, encR_w, elT3_enc, show IntKind.i64.wrap ((0 : Int) + 1) = ((1 : Nat) : Int) from wA1 (a := 0) (by omega), onEnc_eq (fun _ _ => encT_inj _ _), show cS (encR x) 0 = x.name from rfl, show cI (encR x) 1 = x.rank from rfl, show cI (encR x) 2 = x.weight from rfl, show [114, 117, 108, 101, 32] ++ x.name ++ [32, 114, 97, 110, 107, 32] ++ it x.rank ++ [32, 119, 101, 105, 103, 104, 116, 32] ++ it x.weight ++ [32, 58, 32] ++ wrT it x.t 0 ++ [10] = lineR it x from rfl]
  have hs := l25o hit hc hrs hsh hok (Q := Q) (rs.length - 1) 1 (lineR it x) rfl (by omega) hl.2 (by omega) hQ
  have hbk := b25 rs (lineR it x) (lineR it x).length (.own 0)
  refine cIf_pos (decide_eq_true (by omega)) (cIf_pos (decide_eq_true (by omega)) (cIf_pos (decide_eq_true hne) (cIf_pos (decide_eq_true (encRs_len rs).symm) (cIf_pos (decide_eq_true (enc_drop_len (encRs_len rs) hne)) (cIf_pos (encR_like x) ?_)))))
  refine cIf_pos (st (by simp only [List.length_append, List.length_cons, List.length_nil]; omega)) (cIf_pos (st (by simp only [List.length_append, List.length_cons, List.length_nil]; omega)) ⟨⟨by omega, by omega⟩, rfl, ?_⟩)
  refine cIf_pos (st (by simp only [List.length_append, List.length_cons, List.length_nil]; omega)) (cIf_pos (st (by simp only [List.length_append, List.length_cons, List.length_nil]; omega)) ⟨⟨by omega, by omega⟩, rfl, ?_⟩)
  refine cIf_pos (st (by simp only [List.length_append, List.length_cons, List.length_nil]; omega)) (cIf_pos (st (by simp only [List.length_append, List.length_cons, List.length_nil]; omega)) (cIf_pos (a25 x.t _) ⟨⟨⟨x.t, rfl, (hrs.1.2 x hxm).1, hsh x hxm, by omega⟩, by omega, by omega⟩, rfl, ?_⟩))
  refine cIf_pos (st (by simp only [List.length_append, List.length_cons, List.length_nil]; omega)) (cIf_pos (st (by simp only [List.length_append, List.length_cons, List.length_nil]; omega)) ⟨⟨hl.2, by omega⟩, ?_⟩)
  exact cIf_pos (e25 _ _) (cIf_pos hbk hs)
end
theorem w25 {it : Int → List UInt8} (hit : ∀ z, (it z).length ≤ 20) (hc : Cts Tryz.B25 [(27, R27), (67, R67 it), (68, R68 it)]) {rs : List Rul} (hw : wfRs rs) (hne : 0 < rs.length) {Q : CR → Prop} (hQ : Q (.ret (.str (prR it rs)))) : wpF (Tryz.X25 it) 25 [.agg [.vs (encRs rs) rs.length .none]] Q := by
  rw [v25, onEnc_eq encRs_inj]
  unfold prR at hQ
  refine ⟨⟨rs, rfl, rfl, hw⟩, cIf_intro (fun h => ?_) (fun h => ?_)⟩
  · have h : ¬ chk rs = 0 := by simpa using h
    rw [if_neg h] at hQ; exact hQ
  · have h : chk rs = 0 := by simpa using h
    obtain ⟨h1, h2, h3⟩ := chk_ok hw h
    rw [if_pos h] at hQ
    exact cIf_pos (e25 rs 0) (cIf_pos (by simp [okBlk, noHB, noHL, noH, noH_encRs]) (l25z hit hc h1 h2 h3 hne hQ))
end Go.Proofs
/-! VP3 -/
set_option maxRecDepth 100000
set_option linter.unusedVariables false
namespace Go.Proofs
open Go Go.Ev
noncomputable def Tryz.X25n : WCx := Tryz.B.wcx [(27, R27)]
theorem n25a (k : Kont) : wpC Tryz.X25n (cd PP 25 [0]) ([.agg [.vs [] 0 .none]] ++ List.replicate 37 X) ⟨[], [], []⟩ k =
  (k EX.normal ([AV.agg [AV.vs [] 0 Tok.none], AV.ptr 0 0, AV.str []] ++ List.replicate 35 X) (St.mk [some (HB.cells [AV.vs [] 0 Tok.none] 25)] [] [])) := by kernel_rfl
theorem n25b (k : Kont) : wpC Tryz.X25n (cd PP 25 [1, 0]) ([.agg [.vs [] 0 .none], .ptr 0 0, .str []] ++ List.replicate 35 X) ⟨[some (.cells [.vs [] 0 .none] 25)], [], []⟩ k =
  ((∃ (rs : List Rul), [] = encRs rs ∧ 0 = rs.length ∧ wfRs rs) ∧ cIf (onEnc encRs chk (0 : Int) [] != (0 : Int)) (k EX.ret ([AV.agg [AV.vs [] 0 Tok.none], AV.ptr 0 0, AV.str [], X, X, X, AV.agg [AV.vs [] 0 Tok.none], I (onEnc encRs chk (0 : Int) []), Bo (onEnc encRs chk (0 : Int) [] != (0 : Int))] ++ List.replicate 29 X) (St.mk [some (HB.cells [AV.vs [] 0 Tok.none] 25)] [] [])) (k EX.normal ([AV.agg [AV.vs [] 0 Tok.none], AV.ptr 0 0, AV.str [], X, X, X, AV.agg [AV.vs [] 0 Tok.none], I (onEnc encRs chk (0 : Int) []), Bo (onEnc encRs chk (0 : Int) [] != (0 : Int))] ++ List.replicate 29 X) (St.mk [some (HB.cells [AV.vs [] 0 Tok.none] 25)] [] []))) := by kernel_rfl
end Go.Proofs
/-! P3 -/
set_option maxRecDepth 100000
set_option linter.unusedVariables false
namespace Go.Proofs
open Go Go.Ev
/-! The print of no rules: String of a builder that was never written. -/
theorem q25_ : cd PP 25 [] = .seq (cd PP 25 [0]) (cd PP 25 [1]) := by kernel_rfl
theorem q25_1 : cd PP 25 [1] = .seq (cd PP 25 [1, 0]) (cd PP 25 [1, 1]) := by kernel_rfl
theorem q25_11 : cd PP 25 [1, 1] = .seq (cd PP 25 [1, 1, 0]) (cd PP 25 [1, 1, 1]) := by kernel_rfl
theorem q25_111 : cd PP 25 [1, 1, 1] = .seq (cd PP 25 [1, 1, 1, 0]) (cd PP 25 [1, 1, 1, 1]) := by kernel_rfl
theorem q25_1111 : cd PP 25 [1, 1, 1, 1] = .seq (cd PP 25 [1, 1, 1, 1, 0]) .ret := by kernel_rfl
theorem bd25 : Tryz.f25.body = some (cd PP 25 []) := by kernel_rfl
def oA : Oper := { dst := some 3, op := .alloc 97, type := 0, pos := "source.go:327", after := #[], guard := none }
def oB : Oper := { dst := some 37, op := .call { callee := .value (.func 69), args := #[.tmp 3], argTypes := #[97] }, type := 9, pos := "source.go:331", after := #[], guard := none }
def oC : Oper := { dst := some 2, op := .assign (.tmp 37), type := 9, pos := "source.go:331", after := #[{ on := 0, ground := .data }, { on := 0, ground := .chain }, { on := 0, ground := .phase }], guard := none }
theorem r25_3 : cd PP 25 [1, 1, 0] = .region 3 #[oA] false := by kernel_rfl
theorem r25_9 : cd PP 25 [1, 1, 1, 1, 0] = .region 9 #[oB, oC] false := by kernel_rfl
theorem sem_of {C : WCx} (ho : C.Ones) (hC : CxOk C.cx) {c : Code} {env e : Env} {S s : St} {x : EX} (h : wpC C c env S fun x' e' s' => x' = x ∧ e' = e ∧ s' = s) : CSem C.pc C.bs c env S x e s := by
  obtain ⟨x', e', s', h1, rfl, rfl, rfl⟩ := wpC_ok ho hC _ _ _ _ h
  exact h1
theorem c25n : Cts Tryz.B [(27, R27)] := (Cts.nil _).cons (ct27 ct75)
abbrev sB : St := ⟨[some (.cells [.vs [] 0 .none] 25)], [], []⟩
abbrev eA : Env := [.agg [.vs [] 0 .none]] ++ List.replicate 37 X
abbrev eB : Env := [.agg [.vs [] 0 .none], .ptr 0 0, .str []] ++ List.replicate 35 X
abbrev eC : Env := [.agg [.vs [] 0 .none], .ptr 0 0, .str [], X, X, X, .agg [.vs [] 0 .none], I 0, Bo false] ++ List.replicate 29 X
abbrev eD (b : Nat) : Env := [.agg [.vs [] 0 .none], .ptr 0 0, .str [], .raw (.glob b), X, X, .agg [.vs [] 0 .none], I 0, Bo false] ++ List.replicate 29 X
theorem s25a : CSem Tryz.X25n.pc 0 (cd PP 25 [0]) eA ⟨[], [], []⟩ .normal eB sB :=
  sem_of (wcx_ones Tryz.bok c25n) (wcx_ok Tryz.bok c25n) ((n25a _).mpr ⟨rfl, rfl, rfl⟩)
theorem s25b : CSem Tryz.X25n.pc 0 (cd PP 25 [1, 0]) eB sB .normal eC sB := by
  have h0 : onEnc encRs chk (0 : Int) [] = 0 := by
    rw [show ([] : List AV) = encRs [] from rfl, onEnc_eq encRs_inj]; rfl
  refine sem_of (wcx_ones Tryz.bok c25n) (wcx_ok Tryz.bok c25n) ((n25b _).mpr ?_)
  rw [h0]
  exact ⟨⟨[], rfl, rfl, by simp [wfRs]⟩, cIf_neg rfl ⟨rfl, rfl, rfl⟩⟩
def eE (b : Nat) : Env := [.agg [.vs [] 0 .none], .ptr 0 0, .str [], .raw (.glob b), X, X, .agg [.vs [] 0 .none], I 0, Bo false, .ptr 0 0, .vs [] 0 .none, I 0, I 0, Bo false] ++ List.replicate 24 X
theorem v25c (b : Nat) : evC Tryz.C0 (lev Tryz.C0 3) (cd PP 25 [1, 1, 1, 0]) (eD b) sB = some (.normal, eE b, sB) := by kernel_rfl

theorem zero97 : ∃ i, Tryz.prog.info? 97 = some i ∧ i.zero = some (.agg #[.pointer none, .slice none 0 0]) := by
  have h : (Tryz.prog.info? 97).bind (·.zero) = some (.agg #[.pointer none, .slice none 0 0]) := by kernel_rfl
  rw [Option.bind_eq_some_iff] at h
  exact h
theorem nil25 : CallOk Tryz.B.c0 25 [.agg [.vs [] 0 .none]] St.nil (.ret (.str [])) St.nil := by
  intro G w us hI hg has
  refine (callsIn_wide (n := 0)).1 (callsIn_of_wp (P := Tryz.prog) Tryz.func25 bd25 trivial ?_)
  have hb : G.Under 0 := ⟨fun h _ => by
    cases hs : G.σ h with
    | none => rfl
    | some b => obtain ⟨hb, hx⟩ := hI.dom _ _ hs; simp [St.nil] at hx, fun k => by
    cases hs : G.tk k with
    | none => rfl
    | some x => obtain ⟨b, c, m, z⟩ := x; have := (hI.tdom _ _ _ _ _ hs).1; simp [St.nil] at this⟩
  have he := args_ER has Tryz.f25.ntmps
  rw [show [AV.agg [.vs [] 0 .none]] ++ List.replicate (Tryz.f25.ntmps - [AV.agg [AV.vs [] 0 .none]].length) AV.bad = eA from by kernel_rfl] at he
  rw [q25_]
  refine wpIn_seq ?_
  refine s25a.run (by kernel_rfl) G w hb hg none 0 [] G w _ (Evo.refl G w) hI he rfl _ ?_
  rintro e a1 w1 ⟨G1, i1, v1, r1, f1, x1⟩
  simp only [ExR] at x1; subst x1
  rw [q25_1]
  refine wpIn_seq ?_
  refine s25b.run (by kernel_rfl) G w hb hg none 0 [] G1 w1 a1 v1 i1 r1 f1 _ ?_
  rintro e a2 w2 ⟨G2, i2, v2, r2, f2, x2⟩
  simp only [ExR] at x2; subst x2
  rw [q25_11]
  refine wpIn_seq ?_
  rw [r25_3]
  refine wpIn_region ?_
  have hrange : List.range (#[oA] : Array Oper).size = [0] := rfl
  rw [hrange]
  have gA : (#[oA] : Array Oper)[0]? = some oA := rfl
  have wA : ∀ t, Region.wanted oA t = true := fun t => by simp [Region.wanted, oA]
  have hsem : ∀ (ρ : Operand → Value) (o : Oper), Oper.semAt Fence.wide.round ρ o = execOp ρ o := fun _ _ => rfl
  have hA := Adds.alloc w2 (.cells #[.pointer none, .slice none 0 0] 97 (0, 0))
  have hrunA : (execOp a2.eval oA).run Tryz.prog w2 = .ok (.value (.pointer (some ⟨w2.heap.size, 0, none⟩))) (w2.alloc (.cells #[.pointer none, .slice none 0 0] 97 (0, 0))) := by
    obtain ⟨i, h1, h2⟩ := zero97
    simp [execOp, oA, Instr.alloc, zeroValue, typeInfo, h1, h2, newVar, newRow, Value.cells]
  simp only [wpOpsIn, gA, wA, if_true, Oper.wpIn]
  refine ⟨fun _ _ => trivial, ?_⟩
  rw [hsem, hrunA]
  simp only [Oper.uponIn]
  have i3 := Inv.adds hA i2
  have v23 := Evo.adds hA i2
  have r3 : ER G2 (w2.alloc (.cells #[.pointer none, .slice none 0 0] 97 (0, 0))) (eD w2.heap.size) (a2.put (some 3) (.pointer (some ⟨w2.heap.size, 0, none⟩))) := (r2.mono v23).put (VR.raw (.glob w2.heap.size)) (some 3)
  rw [q25_111]
  refine wpIn_seq ?_
  refine evC_sound Tryz.c0ok (lev_ok Tryz.c0ok Tryz.c0w 3) (cd PP 25 [1, 1, 1, 0]) _ _ _ _ _ (by kernel_rfl) (v25c w2.heap.size) none 0 [] G2 _ _ i3 ((hg.mono v2).mono v23) r3 (by rw [Act.put_defers']; exact f2) _ ?_
  rintro e a4 w4 ⟨G4, i4, v4, r4, f4, x4⟩
  simp only [ExR] at x4; subst x4
  have hbk : w4.heap[w2.heap.size]? = some (.cells #[.pointer none, .slice none 0 0] 97 (0, 0)) := by
    rw [v4.frame w2.heap.size (by rw [hA.size]; omega) (Inv.fresh i2) (Inv.freshT i2)]
    exact hA.new
  rw [q25_1111]
  refine wpIn_seq ?_
  rw [r25_9]
  refine wpIn_region ?_
  have hrange9 : List.range (#[oB, oC] : Array Oper).size = [0, 1] := rfl
  rw [hrange9]
  have gB : (#[oB, oC] : Array Oper)[0]? = some oB := rfl
  have gC : (#[oB, oC] : Array Oper)[1]? = some oC := rfl
  have wB : ∀ t, Region.wanted oB t = true := fun t => by simp [Region.wanted, oB]
  have wC : ∀ t, Region.wanted oC t = true := fun t => by simp [Region.wanted, oC]
  have ht3 : a4.eval (.tmp 3) = .pointer (some ⟨w2.heap.size, 0, none⟩) := by
    have h3 := r4.2 3 (.raw (.glob w2.heap.size)) rfl
    generalize hv : a4.tmps.getD 3 undef = v at h3
    cases h3
    exact hv
  have hcall := (Go.Proofs.Any.Builder_String_nil (P := Tryz.prog) (ρ := Tryz.lays169_ren) Tryz.lays169 Tryz.bextra (w4.heap.size + 1) w2.heap.size (.pointer none) w4 hbk)
  have hrunB : (execOp a4.eval oB).run Tryz.prog w4 = .ok (.enter 69 #[.pointer (some ⟨w2.heap.size, 0, none⟩)]) w4 := by
    have hq : ∀ ρ : Operand → Value, ρ (.tmp 3) = .pointer (some ⟨w2.heap.size, 0, none⟩) → ρ (.func 69) = .func (.func 69) #[] #[] → (execOp ρ oB).run Tryz.prog w4 = .ok (.enter 69 #[.pointer (some ⟨w2.heap.size, 0, none⟩)]) w4 := by
      intro ρ h1 h2
      have hfn : Tryz.prog.funcs[69]? = some Tryz.f69 := Tryz.func69
      have hbody : Tryz.f69.body = some (cd PP 69 []) := by kernel_rfl
      have hnm := Tryz.c0ok.names 69 _ _ hfn hbody
      simp [execOp, oB, resolve, h1, h2, Deferred.ofValue, invoke, callFunc, hfn, hbody]
      intro e; rw [e] at hnm; simp at hnm
    exact hq _ ht3 rfl
  simp only [wpOpsIn, gB, wB, if_true, Oper.wpIn]
  refine ⟨fun _ _ => trivial, ?_⟩
  rw [hsem, hrunB]
  refine ⟨fun h => (by simp [Fence.wide] at h), (calls_WF none _ hcall).mono fun e w5 he5 => ?_⟩
  obtain ⟨rfl, hB⟩ := he5
  have hrunC : (execOp (a4.put oB.dst (.string ⟨#[]⟩)).eval oC).run Tryz.prog w5 = .ok (.value (.string ⟨#[]⟩)) w5 := by
    have hsz : 37 < a4.tmps.size := by rw [r4.1]; simp [eE]
    have hq : ∀ ρ : Operand → Value, ρ (.tmp 37) = .string ⟨#[]⟩ → (execOp ρ oC).run Tryz.prog w5 = .ok (.value (.string ⟨#[]⟩)) w5 := by
      intro ρ h1
      simp [execOp, oC, h1]
    exact hq _ (by simp [Act.eval, Act.put, oB, hsz])
  simp only [gC, wC, if_true]
  refine ⟨fun _ _ => trivial, ?_⟩
  rw [hsem, hrunC]
  simp only [Oper.uponIn]
  refine wpIn_ret ?_
  -- the world is the same
  have hsz : w5.heap.size = w4.heap.size := by
    have h1 := hB.size
    have h2 := hB.block w4.heap.size (by omega)
    rw [Array.getElem?_eq_none (Nat.le_refl _), Array.getElem?_eq_none_iff] at h2
    omega
  have hall : ∀ k : Nat, w5.heap[k]? = w4.heap[k]? := fun k => by
    rcases Nat.lt_or_ge k (w4.heap.size + 1) with h | h
    · exact hB.block k h
    · rw [Array.getElem?_eq_none (by omega), Array.getElem?_eq_none (by omega)]
  obtain ⟨b0, o0, hσ, hb0, hr0⟩ := i4.blk 0 _ rfl
  have hm : Mods w4 w5 b0 o0 := ⟨by rw [hall]; exact hb0, fun k _ => hall k, hsz, hB.os, hB.tape, hB.output⟩
  have i5 : Ev.Inv G4 w5 sB := (Inv.put hm i4 hσ hr0).congr (fun k x => Iff.rfl) rfl
  have v45 : Evo G4 w4 G4 w5 := Evo.mods hm i4 hσ
  have r5 : ER G4 w5 (putA (putA (eE w2.heap.size) oB.dst (.str [])) oC.dst (.str [])) ((a4.put oB.dst (.string ⟨#[]⟩)).put oC.dst (.string ⟨#[]⟩)) := ((r4.mono v45).put (.str []) oB.dst).put (.str []) oC.dst
  obtain ⟨u, u1, u2⟩ := resultsA_sound (C := Tryz.B.c0) (fn := Tryz.f25) i5 r5 (r := .str []) (by kernel_rfl)
  have v5 : Evo G w G4 w5 := ((v2.trans v23).trans v4).trans v45
  have hW : Wl { St.nil with wl := [] } sB := ⟨Nat.zero_le _, Nat.zero_le _, fun h hh => by simp at hh, fun h hh => by simp [St.nil] at hh⟩
  obtain ⟨G6, p1, p2, p3⟩ := finish_sound (C := Tryz.B.c0) hI i5 v5 hW u1
  refine ⟨by rw [Act.put_defers', Act.put_defers']; exact f4, u, u2, G6, p1, p2, u, rfl, p3⟩
end Go.Proofs
/-! VP4 -/
set_option maxRecDepth 100000
set_option linter.unusedVariables false
namespace Go.Proofs
open Go Go.Ev
def R4 : Spc := fun args => match args with
  | [.agg [.vs l len .none]] => some (∃ rs, l = encRs rs ∧ len = rs.length ∧ wfRs rs, rB true)
  | _ => none
noncomputable def l4 : List (FuncId × Spc) := [(20, R20), (24, R24), (25, R26 itM), (26, R26 itM)]
noncomputable def Tryz.X4 : WCx := Tryz.B.wcx l4
theorem v4 (l : List AV) (len : Nat) (Q : CR → Prop) : wpF Tryz.X4 4 [.agg [.vs l len .none]] Q =
  ((∃ (rs : List Rul), l = encRs rs ∧ len = rs.length ∧ wfRs rs ∧ (0 : Int) ≤ (200 : Int) ∧ (200 : Int) ≤ (1000 : Int)) ∧ cIf (!onEnc encRs (fewB (200 : Int)) false l) (True ∧ Q (CR.ret (Bo true))) (True ∧ St.mk [some (HB.cells [AV.vs l len Tok.none] 25)] [] [] = St.mk [some (HB.cells [AV.vs l len Tok.none] 25)] [] [] ∧ cIf (noHL [some (HB.cells [AV.vs l len Tok.none] 25)].length ([] ++ [AV.agg [AV.vs l len Tok.none]] ++ [])) ((∃ (rs : List Rul), l = encRs rs ∧ len = rs.length ∧ wfRs rs) ∧ St.mk [some (HB.cells [AV.vs l len Tok.none] 25)] [] [] = St.mk [some (HB.cells [AV.vs l len Tok.none] 25)] [] [] ∧ cIf (noHL [some (HB.cells [AV.vs l len Tok.none] 25)].length ([] ++ [AV.agg [AV.vs l len Tok.none]] ++ [])) ((∃ (rs : List Rul), l = encRs rs ∧ len = rs.length ∧ wfRs rs) ∧ St.mk [some (HB.cells [AV.vs l len Tok.none] 25)] [] [] = St.mk [some (HB.cells [AV.vs l len Tok.none] 25)] [] [] ∧ Q (CR.ret (Bo (onEnc encRs (prR itM) [] l == onEnc encRs (prR itM) [] l)))) False) False)) := by kernel_rfl
end Go.Proofs
/-! P4 -/
set_option maxRecDepth 100000
set_option linter.unusedVariables false
namespace Go.Proofs
open Go Go.Ev
/-! The law of the print. -/
section
attribute [local irreducible] wpF
theorem c25 : Cts Tryz.B25 [(27, R27), (67, R67 itM), (68, R68 itM)] := (((Cts.nil _).cons (B := Tryz.B25) (g := 68) (R := R68 itM) ct68').cons (B := Tryz.B25) (g := 67) (R := R67 itM) ct67).cons (B := Tryz.B25) (g := 27) (R := R27) (ct27 ct75)
theorem ct25 : Ct Tryz.B.c0 25 (R26 itM) where
  body := ⟨_, _, Tryz.func25, bd25⟩
  ok := fun args D r hR hD => by
    unfold R26 at hR
    split at hR <;> cases hR
    obtain ⟨rs, rfl, rfl, hw⟩ := hD
    refine ⟨by simp [noHL, noH, noH_encRs], ?_⟩
    rw [show scrubL 0 [AV.agg [.vs (encRs rs) rs.length .none]] = [AV.agg [.vs (encRs rs) rs.length .none]] by simp [scrubL, scrub, sc_encRs, Tok.scrub], onEnc_eq encRs_inj]
    cases rs with
    | nil => exact nil25
    | cons x l => exact call_of_wp (B := Tryz.B25) (l := [(27, R27), (67, R67 itM), (68, R68 itM)]) (lm := lm25) (tp := []) (ct := []) (sm := [(5, 2)]) bok25 c25 (w25 itM_len c25 hw (by simp) rfl)
theorem ct26' : Ct Tryz.B.c0 26 (R26 itM) := ct26 itM_len ct67 ct71'
theorem c4 : Cts Tryz.B l4 := ((((Cts.nil _).cons ct26').cons ct25).cons ct24).cons ct20
theorem ct4 : Ct Tryz.B.c0 4 R4 := Ct.of_wp (l := l4) (lm := []) (tp := []) (ct := []) (sm := []) Tryz.bok c4 ⟨_, _, Tryz.func4, rfl⟩ fun args D r hR hD => by
  unfold R4 at hR
  split at hR <;> cases hR
  obtain ⟨rs, rfl, rfl, hw⟩ := hD
  refine ⟨by simp [noHL, noH, noH_encRs], ?_⟩
  rw [show scrubL 0 [AV.agg [.vs (encRs rs) rs.length .none]] = [AV.agg [.vs (encRs rs) rs.length .none]] by simp [scrubL, scrub, sc_encRs, Tok.scrub]]
  show wpF Tryz.X4 4 _ _
  rw [v4]
  refine ⟨⟨rs, rfl, rfl, hw, by omega, by omega⟩, cIf_intro (fun h => ⟨trivial, rfl⟩) (fun h => ⟨trivial, rfl, cIf_pos (by simp [noHL, noH, noH_encRs]) ⟨⟨rs, rfl, rfl, hw⟩, rfl, cIf_pos (by simp [noHL, noH, noH_encRs]) ⟨⟨rs, rfl, rfl, hw⟩, rfl, by simp⟩⟩⟩)⟩
end
end Go.Proofs
