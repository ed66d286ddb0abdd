/- Contracts of functions of the program and of the reference. -/
import Derived.Test.YtdpfgjljehajbaaGreatDoorProg
import Derived.KernelRfl
import Derived.Shelf.Spec.SlicesGrow
import Derived.Test.YtdpfgjljehajbaaGreatDoorK2
import Derived.Test.YtdpfgjljehajbaaGreatDoorE7
import Derived.Test.YtdpfgjljehajbaaGreatDoorE5
import Derived.Test.YtdpfgjljehajbaaGreatDoorKD
set_option linter.unusedVariables false
set_option linter.unusedSimpArgs false
/-! GrwW -/
set_option linter.unusedVariables false
set_option linter.unusedSimpArgs false
namespace Go.Proofs
open Go.Shelf Go.RowKit Go.Lib
theorem Tryz.cinfo77 : ∃ i0 z, Tryz.prog.info? 77 = some i0 ∧ i0.zero = some z ∧ z.cells.size = 3 ∧ i0.size = 3 ∧ i0.bytes = 24 := by
  have h : (Tryz.prog.info? 77).bind (fun i => i.zero.map fun z => (z.cells.size, i.size, i.bytes)) = some (3, 3, 24) := by kernel_rfl
  obtain ⟨i0, h1, h2⟩ := Option.bind_eq_some_iff.1 h
  obtain ⟨z, h3, h4⟩ := Option.map_eq_some_iff.1 h2
  simp only [Prod.mk.injEq] at h4
  exact ⟨i0, z, h1, h3, h4.1, h4.2.1, h4.2.2⟩
set_option maxHeartbeats 4000000 in
set_option maxRecDepth 100000 in
theorem Tryz.grow171 (base : Option Addr) (n : Nat) (w : World) (hroom : 0 < n) (hbig : n * 24 ≤ 140737488355328) (h63 : n ≤ 4611686018427387904) :
    Calls Tryz.prog 171 #[.slice base 0 0, .int .i64 n] w fun e w' => ∃ (c : Nat) (cur : Array Value), e = .returned (.slice (some ⟨w.heap.size, 0, none⟩) 0 c) ∧ w' = w.drew.alloc (.cells cur 77) ∧ cur.size = c * 3 ∧ c ≤ maxLen := by
  obtain ⟨i0, z, hi0, hz0, hzs, hs0, hby⟩ := Tryz.cinfo77
  have mixed : Tryz.prog.follows .mixedOrders = true := by kernel_rfl
  have h1 : ¬ ((n : Int) < 0) := by omega
  have h2 : wrap64 (((0 : Nat) : Int) - ((0 : Nat) : Int)) = 0 := by unfold wrap64; omega
  have h3 : wrap64 ((n : Int) - 0) = (n : Int) := by unfold wrap64; omega
  have h4 : (n : Int) > 0 := by omega
  have hold : (Builtin.firstCells i0.size 0 (.slice base 0 0)).run Tryz.prog w.drew = .ok (#[] : Array Value) w.drew := by
    cases base with
    | none => exact run_firstCells_none w.drew i0.size 0 0 0
    | some a => exact run_firstCells_some w.drew i0.size 0 a 0 0 [] (by simp) (fun j v hj => by simp at hj)
  have hrz : ∀ ty, (Builtin.append_ #[67, 3] ty #[.slice base 0 0, .int .i64 (n : Int)]).run Tryz.prog w =
      .ok (.slice (some ⟨w.heap.size, 0, none⟩) n (grownCap w n 0 77)) (w.drew.alloc (.cells (#[] ++ Builtin.zeroCells z.cells n ++ Builtin.zeroCells z.cells (grownCap w n 0 77 - n)) 77)) := fun ty => by
    have h := Lib.run_append_grow_zeros w 67 3 ty 77 i0 z .i64 .i64 Tryz.underlying67 Tryz.underlying3 hi0 hz0 base 0 0 [] (by simpa using hold) n (by omega) (by omega) (by omega) (by omega)
      (by rw [hby]; omega)
      (by rw [Nat.zero_add]; exact growslice_fits hroom (by rw [hby]; exact hbig))
    simpa using h
  have hGn : n ≤ grownCap w n 0 77 := grownCap_ge w _ _ _
  obtain ⟨G, hG⟩ : ∃ G, G = grownCap w n 0 77 := ⟨_, rfl⟩
  rw [← hG] at hrz hGn
  have hG63 : G ≤ 9223372036854775807 := by
    have := grownCap_le_maxLen w n 0 77 (by unfold maxLen; omega)
    rw [← hG] at this
    unfold maxLen at this
    omega
  obtain ⟨cur, hcur⟩ : ∃ cur, cur = #[] ++ Builtin.zeroCells z.cells n ++ Builtin.zeroCells z.cells (G - n) := ⟨_, rfl⟩
  rw [← hcur] at hrz
  have hsz : cur.size = G * 3 := by rw [hcur]; simp [size_zeroCells, hzs]; omega
  have hGm : G ≤ maxLen := by unfold maxLen; omega
  clear hold hG hcur hzs hz0
  go_enter Tryz.func171, Tryz.ntmps171
  cases base with
  | none =>
    go_wp2_with (at_builtin; refine Lib.wpList_append_run _ rfl _ _ _ _ rfl _ _ rfl rfl _ _ (hrz _) ?_)
    all_goals (go_ret; exact ⟨G, rfl, cur, rfl, hsz, hGm⟩)
  | some a =>
    obtain ⟨ab, ao, asp⟩ := a
    go_wp2_with (at_builtin; refine Lib.wpList_append_run _ rfl _ _ _ _ rfl _ _ rfl rfl _ _ (hrz _) ?_)
    all_goals (go_ret; exact ⟨G, rfl, cur, rfl, hsz, hGm⟩)
end Go.Proofs
/-! GR -/
set_option linter.unusedVariables false
set_option linter.unusedSimpArgs false
set_option maxRecDepth 100000
namespace Go.Ev
open Go.RowKit
def GrowSpec (P : Program) (g : FuncId) (e : TypeId) (sz by_ : Nat) : Prop := ∀ (A : Option Addr) (n : Nat) (w : World), 0 < n → n * by_ ≤ 140737488355328 → n ≤ 4611686018427387904 →
  Calls P g #[.slice A 0 0, .int .i64 n] w fun e' w' => ∃ c cur, e' = .returned (.slice (some ⟨w.heap.size, 0, none⟩) 0 c) ∧ w' = w.drew.alloc (.cells cur e) ∧ cur.size = c * sz ∧ c ≤ maxLen
/-- slices.Grow of nil. -/
def growW (e : TypeId) (sz by_ : Nat) (args : List AV) (S : St) (k : CR → St → Prop) : Prop := match args with
  | [.vs [] 0 .zero, .int .i64 n] => (0 < n ∧ n * by_ ≤ 140737488355328 ∧ n ≤ 140737488355328) ∧ k (.ret (.vs [] 0 (.own S.ts.length))) { S with ts := S.ts ++ [(0, (sz, e))] }
  | _ => False
theorem growW_one (e : TypeId) (sz by_ : Nat) : One (growW e sz by_) := by
  intro args S
  unfold growW
  split
  · exact ⟨(_, _), _, fun k => Iff.rfl⟩
  · exact ⟨(.ret .bad, S), False, fun k => by simp⟩
theorem growW_hook {C : Cx} {g : FuncId} {e : TypeId} {sz by_ : Nat} (hb : ∃ (fn : Func) (c : Code), C.P.funcs[g]? = some fn ∧ fn.body = some c) (hsz : 0 < sz) (H : GrowSpec C.P g e sz by_) : HookOk C g (growW e sz by_) where
  one := growW_one e sz by_
  body := hb
  ok := fun args S r S' hw => by
    unfold growW at hw
    split at hw
    rotate_left
    · exact hw.elim
    rename_i n
    obtain ⟨⟨h1, h2, h3⟩, rfl, rfl⟩ := hw
    refine ⟨?_, Wl.ts S _ (by rw [List.length_append]; exact Nat.le_add_right _ _)⟩
    intro G w us hI hg has
    obtain ⟨k, rfl⟩ : ∃ k : Nat, n = k := ⟨n.toNat, (Int.toNat_of_nonneg (by omega)).symm⟩
    obtain ⟨v1, q1, q2⟩ := has.2 0 _ rfl
    obtain ⟨v2, q3, q4⟩ := has.2 1 _ rfl
    have hus : us = [v1, v2] := by
      have hl := has.1
      match us, hl, q1, q3 with
      | [a, b], _, q1, q3 => rw [Option.some.inj q1, Option.some.inj q3]
    subst hus
    have e2 := q4.int_inv
    subst e2
    cases q2 with
    | vs _ _ _ A c f hcc hf hh ht =>
    obtain ⟨_, rfl⟩ := ht
    have h2' : ((k * by_ : Nat) : Int) ≤ ((140737488355328 : Nat) : Int) := by rw [Int.natCast_mul]; exact h2
    refine (H A k w (by omega) (Int.ofNat_le.1 h2') (by omega)).mono ?_
    rintro e' w' ⟨c, cur, rfl, rfl, r1, r2⟩
    have ha := Adds.drewAlloc w (.cells cur e)
    have i1 := Inv.adds ha hI
    have ev1 : Evo G w G (w.drew.alloc (.cells cur e)) := Evo.adds ha hI
    obtain ⟨a1, a2, a3⟩ := adopt (z := (sz, e)) (n := 0) (c := c) (cur := cur) i1 ev1 (FreeB.new hI (Nat.le_refl _)) (Nat.le_refl _) ha.new hsz (Nat.zero_le _) r2 r1 ev1.size hI.bin
    exact ⟨_, a1, a3, _, rfl, .vs [] 0 _ _ c (fun _ => undef) (Nat.zero_le _) (by simp) (.inl rfl) ⟨_, c, 0, (sz, e), upd_same _ _ _, Nat.le_refl _, fun _ => ⟨rfl, rfl⟩⟩⟩
end Go.Ev
namespace Go.Proofs
open Go Go.Ev
theorem Tryz.hook171 : HookOk Tryz.B.c0 171 (growW 77 3 24) := growW_hook ⟨_, _, Tryz.func171, rfl⟩ (by omega) fun A n w h1 h2 h3 => (Tryz.grow171 A n w h1 h2 h3).mono fun e' w' h => h
noncomputable def Tryz.BG : Base := Tryz.B.hk 171 (growW 77 3 24)
theorem Tryz.bgok : BaseOk Tryz.BG := Tryz.bok.hk Tryz.hook171
end Go.Proofs
/-! VTS1 -/
--BASE Tryz.BG
set_option maxRecDepth 100000
set_option linter.unusedVariables false
set_option linter.unusedSimpArgs false
namespace Go.Proofs
open Go Go.Ev
def lm135 : List (Nat × List Nat) := [(3, [0, 3, 9, 10, 11]), (9, [0, 3]), (11, [6, 25, 26, 27]), (15, [6])]
noncomputable def Tryz.X135 : WCx := Tryz.BG.wcx [] lm135 [] [] []
theorem v135a (a b : List AV) (n m : Nat) (t1 t2 tk : Tok) (z : Int) (Q : CR → Prop) : wpC Tryz.X135 (cd PP 135 [1, 1, 0, 1, 0, 0]) ([.vs [.vs a n t1, .vs b m t2] 2 tk, X, X, I z, X, X, X, X, X, .vs [.vs a n t1, .vs b m t2] 2 tk, I 2, I 0] ++ List.replicate 24 X) ⟨[], [], []⟩ (kLoop Tryz.X135 (cd PP 135 [1, 1, 0, 1, 0, 0]) (kBlock 0 (kSeq Tryz.X135 (cd PP 135 [1, 1, 1]) (kRet Tryz.X135 135 Q)))) =
  (cIf (decide (IntKind.i64.wrap (z + (↑(cN [AV.vs a n t1, AV.vs b m t2] 0) : Int)) < (0 : Int))) (Q (CR.pan (AV.ifc 9 (AV.str [(108 : UInt8), (101 : UInt8), (110 : UInt8), (32 : UInt8), (111 : UInt8), (117 : UInt8), (116 : UInt8), (32 : UInt8), (111 : UInt8), (102 : UInt8), (32 : UInt8), (114 : UInt8), (97 : UInt8), (110 : UInt8), (103 : UInt8), (101 : UInt8)])))) (WLoop Tryz.X135 (cd PP 135 [1, 1, 0, 1, 0, 0]) ([AV.vs [AV.vs a n t1, AV.vs b m t2] 2 tk, X, X, I (IntKind.i64.wrap (z + (↑(cN [AV.vs a n t1, AV.vs b m t2] 0) : Int))), X, X, X, X, X, AV.vs [AV.vs a n t1, AV.vs b m t2] 2 tk, I (2 : Int), I (1 : Int)] ++ List.replicate 24 X) (St.mk [] [] []) (kBlock 0 (kSeq Tryz.X135 (cd PP 135 [1, 1, 1]) (kRet Tryz.X135 135 Q))))) := by kernel_rfl
theorem v135b (a b : List AV) (n m : Nat) (t1 t2 tk : Tok) (z : Int) (Q : CR → Prop) : wpC Tryz.X135 (cd PP 135 [1, 1, 0, 1, 0, 0]) ([.vs [.vs a n t1, .vs b m t2] 2 tk, X, X, I z, X, X, X, X, X, .vs [.vs a n t1, .vs b m t2] 2 tk, I 2, I 1] ++ List.replicate 24 X) ⟨[], [], []⟩ (kLoop Tryz.X135 (cd PP 135 [1, 1, 0, 1, 0, 0]) (kBlock 0 (kSeq Tryz.X135 (cd PP 135 [1, 1, 1]) (kRet Tryz.X135 135 Q)))) =
  (cIf (decide (IntKind.i64.wrap (z + (↑(cN [AV.vs b m t2] 0) : Int)) < (0 : Int))) (Q (CR.pan (AV.ifc 9 (AV.str [(108 : UInt8), (101 : UInt8), (110 : UInt8), (32 : UInt8), (111 : UInt8), (117 : UInt8), (116 : UInt8), (32 : UInt8), (111 : UInt8), (102 : UInt8), (32 : UInt8), (114 : UInt8), (97 : UInt8), (110 : UInt8), (103 : UInt8), (101 : UInt8)])))) (WLoop Tryz.X135 (cd PP 135 [1, 1, 0, 1, 0, 0]) ([AV.vs [AV.vs a n t1, AV.vs b m t2] 2 tk, X, X, I (IntKind.i64.wrap (z + (↑(cN [AV.vs b m t2] 0) : Int))), X, X, X, X, X, AV.vs [AV.vs a n t1, AV.vs b m t2] 2 tk, I (2 : Int), I (2 : Int)] ++ List.replicate 24 X) (St.mk [] [] []) (kBlock 0 (kSeq Tryz.X135 (cd PP 135 [1, 1, 1]) (kRet Tryz.X135 135 Q))))) := by kernel_rfl
theorem v135c (a b : List AV) (n m : Nat) (t1 t2 tk : Tok) (z : Int) (Q : CR → Prop) : wpC Tryz.X135 (cd PP 135 [1, 1, 0, 1, 0, 0]) ([.vs [.vs a n t1, .vs b m t2] 2 tk, X, X, I z, X, X, X, X, X, .vs [.vs a n t1, .vs b m t2] 2 tk, I 2, I 2] ++ List.replicate 24 X) ⟨[], [], []⟩ (kLoop Tryz.X135 (cd PP 135 [1, 1, 0, 1, 0, 0]) (kBlock 0 (kSeq Tryz.X135 (cd PP 135 [1, 1, 1]) (kRet Tryz.X135 135 Q)))) =
  (((0 : Int) < z ∧ z * (↑24 : Int) ≤ (140737488355328 : Int) ∧ z ≤ (140737488355328 : Int)) ∧ WLoop Tryz.X135 (cd PP 135 [1, 1, 1, 1, 0, 1, 0, 0]) ([X, X, X, X, X, X, AV.vs [] 0 (Tok.own 0), X, X, X, X, X, X, X, X, X, X, X, X, X, X, X, X, X, X, AV.vs [AV.vs a n t1, AV.vs b m t2] 2 tk, I (2 : Int), I (0 : Int)] ++ List.replicate 8 X) (St.mk [] [(0, 3, 77)] []) (kBlock 2 (kSeq Tryz.X135 (cd PP 135 [1, 1, 1, 1, 1]) (kRet Tryz.X135 135 Q)))) := by kernel_rfl
theorem v135d (a b c : List AV) (n m k : Nat) (t1 t2 tk : Tok) (Q : CR → Prop) : wpC Tryz.X135 (cd PP 135 [1, 1, 1, 1, 0, 1, 0, 0]) ([X, X, X, X, X, X, .vs c k (.own 0), X, X, X, X, X, X, X, X, X, X, X, X, X, X, X, X, X, X, .vs [.vs a n t1, .vs b m t2] 2 tk, I 2, I 0] ++ List.replicate 8 X) ⟨[], [(k, (3, 77))], []⟩ (kLoop Tryz.X135 (cd PP 135 [1, 1, 1, 1, 0, 1, 0, 0]) (kBlock 2 (kSeq Tryz.X135 (cd PP 135 [1, 1, 1, 1, 1]) (kRet Tryz.X135 135 Q)))) =
  (cIf (decide ((cL [AV.vs a n t1, AV.vs b m t2] 0).length = cN [AV.vs a n t1, AV.vs b m t2] 0 * 3)) (cIf ((cL [AV.vs a n t1, AV.vs b m t2] 0).all AV.one) (cIf (decide ((k + cN [AV.vs a n t1, AV.vs b m t2] 0) * 24 ≤ 140737488355328)) (cIf (decide (k + cN [AV.vs a n t1, AV.vs b m t2] 0 ≤ 140737488355328)) (cIf (decide (c.length = k * 3)) (cIf (decide (cN [AV.vs a n t1, AV.vs b m t2] 0 = 0)) (WLoop Tryz.X135 (cd PP 135 [1, 1, 1, 1, 0, 1, 0, 0]) ([X, X, X, X, X, X, AV.vs c k (Tok.own 0), X, X, X, X, X, X, X, X, X, X, X, X, X, X, X, X, X, X, AV.vs [AV.vs a n t1, AV.vs b m t2] 2 tk, I (2 : Int), I (1 : Int)] ++ List.replicate 8 X) (St.mk [] [(k, 3, 77)] []) (kBlock 2 (kSeq Tryz.X135 (cd PP 135 [1, 1, 1, 1, 1]) (kRet Tryz.X135 135 Q)))) (cIf (decide ([(k, 3, 77)][0]? = some (k, 3, 77))) (WLoop Tryz.X135 (cd PP 135 [1, 1, 1, 1, 0, 1, 0, 0]) ([X, X, X, X, X, X, AV.vs (c ++ cL [AV.vs a n t1, AV.vs b m t2] 0) (k + cN [AV.vs a n t1, AV.vs b m t2] 0) (Tok.own 0), X, X, X, X, X, X, X, X, X, X, X, X, X, X, X, X, X, X, AV.vs [AV.vs a n t1, AV.vs b m t2] 2 tk, I (2 : Int), I (1 : Int)] ++ List.replicate 8 X) (St.mk [] [(k + cN [AV.vs a n t1, AV.vs b m t2] 0, 3, 77)] []) (kBlock 2 (kSeq Tryz.X135 (cd PP 135 [1, 1, 1, 1, 1]) (kRet Tryz.X135 135 Q)))) False)) False) False) False) False) False) := by kernel_rfl
theorem v135e (a b c : List AV) (n m k : Nat) (t1 t2 tk : Tok) (Q : CR → Prop) : wpC Tryz.X135 (cd PP 135 [1, 1, 1, 1, 0, 1, 0, 0]) ([X, X, X, X, X, X, .vs c k (.own 0), X, X, X, X, X, X, X, X, X, X, X, X, X, X, X, X, X, X, .vs [.vs a n t1, .vs b m t2] 2 tk, I 2, I 1] ++ List.replicate 8 X) ⟨[], [(k, (3, 77))], []⟩ (kLoop Tryz.X135 (cd PP 135 [1, 1, 1, 1, 0, 1, 0, 0]) (kBlock 2 (kSeq Tryz.X135 (cd PP 135 [1, 1, 1, 1, 1]) (kRet Tryz.X135 135 Q)))) =
  (cIf (decide ((cL [AV.vs b m t2] 0).length = cN [AV.vs b m t2] 0 * 3)) (cIf ((cL [AV.vs b m t2] 0).all AV.one) (cIf (decide ((k + cN [AV.vs b m t2] 0) * 24 ≤ 140737488355328)) (cIf (decide (k + cN [AV.vs b m t2] 0 ≤ 140737488355328)) (cIf (decide (c.length = k * 3)) (cIf (decide (cN [AV.vs b m t2] 0 = 0)) (WLoop Tryz.X135 (cd PP 135 [1, 1, 1, 1, 0, 1, 0, 0]) ([X, X, X, X, X, X, AV.vs c k (Tok.own 0), X, X, X, X, X, X, X, X, X, X, X, X, X, X, X, X, X, X, AV.vs [AV.vs a n t1, AV.vs b m t2] 2 tk, I (2 : Int), I (2 : Int)] ++ List.replicate 8 X) (St.mk [] [(k, 3, 77)] []) (kBlock 2 (kSeq Tryz.X135 (cd PP 135 [1, 1, 1, 1, 1]) (kRet Tryz.X135 135 Q)))) (cIf (decide ([(k, 3, 77)][0]? = some (k, 3, 77))) (WLoop Tryz.X135 (cd PP 135 [1, 1, 1, 1, 0, 1, 0, 0]) ([X, X, X, X, X, X, AV.vs (c ++ cL [AV.vs b m t2] 0) (k + cN [AV.vs b m t2] 0) (Tok.own 0), X, X, X, X, X, X, X, X, X, X, X, X, X, X, X, X, X, X, AV.vs [AV.vs a n t1, AV.vs b m t2] 2 tk, I (2 : Int), I (2 : Int)] ++ List.replicate 8 X) (St.mk [] [(k + cN [AV.vs b m t2] 0, 3, 77)] []) (kBlock 2 (kSeq Tryz.X135 (cd PP 135 [1, 1, 1, 1, 1]) (kRet Tryz.X135 135 Q)))) False)) False) False) False) False) False) := by kernel_rfl
theorem v135f (a b c : List AV) (n m k : Nat) (t1 t2 tk : Tok) (Q : CR → Prop) : wpC Tryz.X135 (cd PP 135 [1, 1, 1, 1, 0, 1, 0, 0]) ([X, X, X, X, X, X, .vs c k (.own 0), X, X, X, X, X, X, X, X, X, X, X, X, X, X, X, X, X, X, .vs [.vs a n t1, .vs b m t2] 2 tk, I 2, I 2] ++ List.replicate 8 X) ⟨[], [(k, (3, 77))], []⟩ (kLoop Tryz.X135 (cd PP 135 [1, 1, 1, 1, 0, 1, 0, 0]) (kBlock 2 (kSeq Tryz.X135 (cd PP 135 [1, 1, 1, 1, 1]) (kRet Tryz.X135 135 Q)))) =
  (kRet Tryz.X135 135 Q EX.ret [X, X, AV.vs c k (Tok.own 0), X, X, X, AV.vs c k (Tok.own 0), X, X, X, X, X, X, X, X, X, X, X, X, X, X, X, X, X, X, X, X, X, X, X, X, X, X, X, X, AV.vs c k (Tok.own 0)] (St.mk [] [(k, 3, 77)] [])) := by kernel_rfl
theorem v135 (a b : List AV) (n m : Nat) (t1 t2 tk : Tok) (Q : CR → Prop) : wpF Tryz.X135 135 [.vs [.vs a n t1, .vs b m t2] 2 tk] Q =
  (WLoop Tryz.X135 (cd Tryz.X135.P 135 [1, 1, 0, 1, 0, 0]) ([AV.vs [AV.vs a n t1, AV.vs b m t2] 2 tk, X, X, I (0 : Int), X, X, X, X, X, AV.vs [AV.vs a n t1, AV.vs b m t2] 2 tk, I (2 : Int), I (0 : Int)] ++ List.replicate 24 X) (St.mk [] [] []) (kBlock 0 (kSeq Tryz.X135 (cd Tryz.X135.P 135 [1, 1, 1]) (kRet Tryz.X135 135 Q)))) := by kernel_rfl
end Go.Proofs
/-! TS1 -/
set_option maxRecDepth 100000
set_option linter.unusedVariables false
set_option linter.unusedSimpArgs false
namespace Go.Proofs
open Go Go.Ev
attribute [local irreducible] wpF wpC cd
def R135 : Spc := fun args => match args with
  | [.vs [.vs a n _, .vs b m _] 2 _] => some (a.length = n * 3 ∧ b.length = m * 3 ∧ a.all AV.one = true ∧ b.all AV.one = true ∧ 0 < n ∧ n ≤ 1000000 ∧ m ≤ 1000000 ∧ noHL 0 a = true ∧ noHL 0 b = true ∧ scrubL 0 a = a ∧ scrubL 0 b = b ∧ zapL a = a ∧ zapL b = b, .ret (.vs (a ++ b) (n + m) .none))
  | _ => none
theorem noHL_app' (l m : List AV) : noHL 0 (l ++ m) = (noHL 0 l && noHL 0 m) := noHL_append 0 l m
theorem ret135 {c : List AV} {k : Nat} (hc : noHL 0 c = true) (hs : scrubL 0 c = c) (Q : CR → Prop) (hQ : Q (.ret (.vs c k .none))) : kRet Tryz.X135 135 Q EX.ret [X, X, AV.vs c k (Tok.own 0), X, X, X, AV.vs c k (Tok.own 0), X, X, X, X, X, X, X, X, X, X, X, X, X, X, X, X, X, X, X, X, X, X, X, X, X, X, X, X, AV.vs c k (Tok.own 0)] (St.mk [] [(k, 3, 77)] []) := by
  have e1 : pub Tryz.X135.pc [] 0 (.vs c k (Tok.own 0)) = some (.vs c k (Tok.own 0)) := by simp [pub, noH, hc]
  have e2 : scrub 0 (.vs c k (Tok.own 0)) = .vs c k .none := by simp [scrub, hs, Tok.scrub]
  have e3 : optW (pub Tryz.X135.pc [] 0 (.vs c k (Tok.own 0))) (fun r' => Q (.ret (scrub 0 r'))) := by
    rw [e1]; show Q (.ret (scrub 0 (.vs c k (Tok.own 0)))); rw [e2]; exact hQ
  exact e3
theorem arith135 {n m : Nat} (h5 : 0 < n) (h6 : n ≤ 1000000) (h7 : m ≤ 1000000) : (¬ ((n : Int) < 0)) ∧ (¬ ((n : Int) + m < 0)) ∧ ((0 : Int) < (n : Int) + m) ∧ (((24 : Nat) : Int) = 24) ∧ (((n : Int) + m) * ((24 : Nat) : Int) ≤ 140737488355328) ∧ ((n : Int) + m ≤ 140737488355328) ∧ ((0 + n) * 24 ≤ 140737488355328) ∧ (0 + n ≤ 140737488355328) ∧ (¬ n = 0) ∧ ((n + m) * 24 ≤ 140737488355328) ∧ (n + m ≤ 140737488355328) ∧ (IntKind.i64.wrap (0 + (n : Int)) = n) ∧ (IntKind.i64.wrap ((n : Int) + m) = n + m) := by
  refine ⟨?_, ?_, ?_, ?_, ?_, ?_, ?_, ?_, ?_, ?_, ?_, ?_, ?_⟩
  all_goals first | rfl | omega | (rw [Int.zero_add]; exact wrap_id (by omega) (by omega)) | exact wrap_id (by omega) (by omega)
theorem step135 {c : Code} {env : Env} {S : St} {k : Kont} (h : wpC Tryz.X135 c env S (kLoop Tryz.X135 c k)) : WLoop Tryz.X135 c env S k := WLoop_step Tryz.bgok (Cts.nil _) h
theorem p135 : Tryz.X135.P = PP := rfl
theorem conc135 {a b : List AV} {n m : Nat} {t1 t2 tk : Tok} {Q : CR → Prop} (h1 : a.length = n * 3) (h2 : b.length = m * 3) (h3 : a.all AV.one = true) (h4 : b.all AV.one = true) (h5 : 0 < n) (h6 : n ≤ 1000000) (h7 : m ≤ 1000000) (h8 : noHL 0 a = true) (h9 : noHL 0 b = true) (h10 : scrubL 0 a = a) (h11 : scrubL 0 b = b) (hQ : Q (.ret (.vs (a ++ b) (n + m) .none))) :
    WLoop Tryz.X135 (cd PP 135 [1, 1, 0, 1, 0, 0]) ([.vs [.vs a n t1, .vs b m t2] 2 tk, X, X, I 0, X, X, X, X, X, .vs [.vs a n t1, .vs b m t2] 2 tk, I 2, I 0] ++ List.replicate 24 X) ⟨[], [], []⟩ (kBlock 0 (kSeq Tryz.X135 (cd PP 135 [1, 1, 1]) (kRet Tryz.X135 135 Q))) := by
  obtain ⟨g1, g2, g3, z24, g4, g5, g6, g7, g8, g9, g10, w0, w1⟩ := arith135 h5 h6 h7
  have c0 : cN [AV.vs a n t1, AV.vs b m t2] 0 = n := rfl
  have c1 : cN [AV.vs b m t2] 0 = m := rfl
  have c2 : cL [AV.vs a n t1, AV.vs b m t2] 0 = a := rfl
  have c3 : cL [AV.vs b m t2] 0 = b := rfl
  refine step135 ((v135a a b n m t1 t2 tk 0 Q).mpr ?_)
  rw [c0, w0]
  refine cIf_neg (df g1) ?_
  refine step135 ((v135b a b n m t1 t2 tk n Q).mpr ?_)
  rw [c1, w1]
  refine cIf_neg (df g2) ?_
  refine step135 ((v135c a b n m t1 t2 tk (n + m) Q).mpr ?_)
  refine ⟨⟨g3, g4, g5⟩, ?_⟩
  refine step135 ((v135d a b [] n m 0 t1 t2 tk Q).mpr ?_)
  rw [c0, c2]
  refine cIf_pos (dt h1) (cIf_pos h3 (cIf_pos (dt g6) (cIf_pos (dt g7) (cIf_pos rfl (cIf_neg (df g8) (cIf_pos rfl ?_))))))
  rw [List.nil_append, Nat.zero_add]
  refine step135 ((v135e a b a n m n t1 t2 tk Q).mpr ?_)
  rw [c1, c3]
  refine cIf_pos (dt h2) (cIf_pos h4 (cIf_pos (dt g9) (cIf_pos (dt g10) (cIf_pos (dt h1) (cIf_intro (fun h0 => ?_) (fun h0 => cIf_pos (by simp) ?_))))))
  · have h0 : m = 0 := of_decide_eq_true h0
    clear g1 g2 g3 g4 g5 g6 g7 g8 g9 g10 w0 w1 c0 c1 c2 c3
    subst h0
    have hb : b = [] := List.length_eq_zero_iff.1 (by rw [h2, Nat.zero_mul])
    subst hb
    refine step135 ((v135f a [] a n 0 n t1 t2 tk Q).mpr ?_)
    exact ret135 h8 h10 _ (by simpa using hQ)
  · refine step135 ((v135f a b (a ++ b) n m (n + m) t1 t2 tk Q).mpr ?_)
    exact ret135 (by rw [noHL_app', h8, h9]; rfl) (by rw [scrubL_append, h10, h11]) _ hQ
theorem ct135 : Ct Tryz.BG.c0 135 R135 := Ct.of_wp (lm := lm135) (tp := []) (ct := []) (sm := []) Tryz.bgok (Cts.nil _) ⟨_, _, Tryz.func135, rfl⟩ fun args D r hR hD => by
  unfold R135 at hR
  split at hR <;> cases hR
  rename_i a n t1 b m t2 tk
  obtain ⟨h1, h2, h3, h4, h5, h6, h7, h8, h9, h10, h11, h12, h13⟩ := hD
  refine ⟨by simp [noHL, noH, h8, h9], ?_⟩
  rw [show scrubL 0 [AV.vs [AV.vs a n t1, AV.vs b m t2] 2 tk] = [.vs [.vs a n (t1.scrub 0), .vs b m (t2.scrub 0)] 2 (tk.scrub 0)] by simp [scrubL, scrub, h10, h11]]
  generalize t1.scrub 0 = t1'
  generalize t2.scrub 0 = t2'
  generalize tk.scrub 0 = tk'
  show wpF Tryz.X135 135 [.vs [.vs a n t1', .vs b m t2'] 2 tk'] _
  rw [v135, p135]
  exact conc135 h1 h2 h3 h4 h5 h6 h7 h8 h9 h10 h11 rfl
end Go.Proofs
