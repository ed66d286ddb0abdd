/- Contracts of functions of the program and of the reference. -/
import Derived.Test.YtdpfgjljehajbaaGreatDoorKD
import Derived.Test.YtdpfgjljehajbaaGreatDoorK2
set_option linter.unusedVariables false
set_option linter.unusedSimpArgs false
/-! BP -/
set_option linter.unusedVariables false
namespace Go.Ev
/-! When salvos can be fired: plain. -/
def okHrs (h : Hrs) : Prop := 0 ≤ h.op ∧ h.op < h.cl ∧ h.cl ≤ 1440
def okZone (z : Int) : Prop := -720 ≤ z ∧ z ≤ 840
def okSal (s : Sal) : Prop := 0 ≤ s.at' ∧ s.at' ≤ 144001439 ∧ 1 ≤ s.gu ∧ s.gu ≤ 21 ∧ 1 ≤ s.ga ∧ s.ga ≤ 60
def lng (s : Sal) : Int := (s.gu - 1) * s.ga
theorem lng_bd {s : Sal} (h : okSal s) : 0 ≤ lng s ∧ lng s ≤ 1200 := by
  obtain ⟨_, _, h1, h2, h3, h4⟩ := h
  unfold lng
  constructor
  · exact Int.mul_nonneg (by omega) (by omega)
  · have : (s.gu - 1) * s.ga ≤ 20 * 60 := Int.mul_le_mul (by omega) (by omega) (by omega) (by omega)
    omega
def dayOn (h : Hrs) (k : Int) : Bool := [h.d0, h.d1, h.d2, h.d3, h.d4, h.d5, h.d6].getD (k % 7).toNat false
theorem dayOn_add (h : Hrs) (k : Int) : dayOn h (k - 7) = dayOn h k := by
  unfold dayOn
  rw [show (k - 7) % 7 = k % 7 by omega]
/-- The salvo can be fired from a minute on. -/
def Fire (h : Hrs) (z : Int) (s : Sal) (m : Int) : Prop :=
  0 ≤ m ∧ m + lng s ≤ 144001439 ∧ 0 ≤ (m + z) / 1440 ∧ (m + z) / 1440 ≤ 100000 ∧ dayOn h ((m + z) / 1440) = true ∧ h.op ≤ (m + z) % 1440 ∧ (m + z) % 1440 + lng s < h.cl
noncomputable instance (h : Hrs) (z : Int) (s : Sal) (m : Int) : Decidable (Fire h z s m) := by unfold Fire; infer_instance
def Least (h : Hrs) (z : Int) (s : Sal) (f m : Int) : Prop := f ≤ m ∧ Fire h z s m ∧ ∀ k, f ≤ k → k < m → ¬ Fire h z s k
theorem least_unique {h : Hrs} {z : Int} {s : Sal} {f m n : Int} (h1 : Least h z s f m) (h2 : Least h z s f n) : m = n := by
  rcases Int.lt_trichotomy m n with q | q | q
  · exact (h2.2.2 m h1.1 q h1.2.1).elim
  · exact q
  · exact (h1.2.2 n h2.1 q h2.2.1).elim
theorem least_exists {h : Hrs} {z : Int} {s : Sal} {f k : Int} (hf : f ≤ k) (hk : Fire h z s k) : ∃ m, Least h z s f m ∧ m ≤ k := by
  have key : ∀ (n : Nat) (k : Int), (k - f).toNat ≤ n → f ≤ k → Fire h z s k → ∃ m, Least h z s f m ∧ m ≤ k := by
    intro n
    induction n with
    | zero =>
      intro k h1 h2 h3
      exact ⟨k, ⟨h2, h3, fun j q1 q2 => by omega⟩, Int.le_refl _⟩
    | succ n ih =>
      intro k h1 h2 h3
      by_cases hx : ∃ j, f ≤ j ∧ j < k ∧ Fire h z s j
      · obtain ⟨j, q1, q2, q3⟩ := hx
        obtain ⟨m, q4, q5⟩ := ih j (by omega) q1 q3
        exact ⟨m, q4, by omega⟩
      · exact ⟨k, ⟨h2, h3, fun j q1 q2 q3 => hx ⟨j, q1, q2, q3⟩⟩, Int.le_refl _⟩
  exact key _ k (Nat.le_refl _) hf hk
open Classical in
noncomputable def earl (h : Hrs) (z : Int) (s : Sal) (f : Int) : Option Int := if hx : ∃ m, Least h z s f m then some hx.choose else none
theorem earl_some {h : Hrs} {z : Int} {s : Sal} {f m : Int} (hm : Least h z s f m) : earl h z s f = some m := by
  have hx : ∃ m, Least h z s f m := ⟨m, hm⟩
  unfold earl
  rw [dif_pos hx, least_unique hx.choose_spec hm]
theorem earl_none {h : Hrs} {z : Int} {s : Sal} {f : Int} (hn : ∀ k, f ≤ k → ¬ Fire h z s k) : earl h z s f = none := by
  unfold earl
  rw [dif_neg fun ⟨m, hm⟩ => hn m hm.1 hm.2.1]
theorem earl_spec {h : Hrs} {z : Int} {s : Sal} {f m : Int} (hm : earl h z s f = some m) : Least h z s f m := by
  unfold earl at hm
  split at hm
  · rename_i hx
    rw [← Option.some.inj hm]
    exact hx.choose_spec
  · cases hm
theorem earl_not {h : Hrs} {z : Int} {s : Sal} {f : Int} (hm : earl h z s f = none) : ∀ k, f ≤ k → ¬ Fire h z s k := by
  unfold earl at hm
  split at hm
  · cases hm
  · rename_i hx
    intro k h1 h2
    obtain ⟨m, q, _⟩ := least_exists h1 h2
    exact hx ⟨m, q⟩
/-- What the program tries. -/
def tri (h : Hrs) (z f d : Int) : Int := max f (((f + z) / 1440 + d) * 1440 + h.op - z)
theorem tri_mono (h : Hrs) (z f : Int) {d e : Int} (hde : d ≤ e) : tri h z f d ≤ tri h z f e := by
  unfold tri; omega
theorem tri_ge (h : Hrs) (z f d : Int) : f ≤ tri h z f d := by unfold tri; omega
theorem least_tri {h : Hrs} {z f m : Int} {s : Sal} (hh : okHrs h) (hz : okZone z) (hs : okSal s) (hf : 0 ≤ f) (hm : Least h z s f m) : ∃ d : Int, 0 ≤ d ∧ d ≤ 8 ∧ m = tri h z f d := by
  obtain ⟨h1, h2, h3⟩ := hh
  obtain ⟨z1, z2⟩ := hz
  obtain ⟨l1, l2⟩ := lng_bd hs
  obtain ⟨m1, ⟨f1, f2, f3, f4, f5, f6, f7⟩, m3⟩ := hm
  refine ⟨(m + z) / 1440 - (f + z) / 1440, by omega, ?_, ?_⟩
  · refine Classical.byContradiction fun hc => ?_
    have hk : f ≤ 1440 * ((m + z) / 1440 - 7) + h.op - z := by omega
    refine m3 _ hk (by omega) ?_
    have e1 : (1440 * ((m + z) / 1440 - 7) + h.op - z + z) / 1440 = (m + z) / 1440 - 7 := by omega
    have e2 : (1440 * ((m + z) / 1440 - 7) + h.op - z + z) % 1440 = h.op := by omega
    unfold Fire
    rw [e1, e2, dayOn_add]
    exact ⟨by omega, by omega, by omega, by omega, f5, Int.le_refl _, by omega⟩
  · unfold tri
    refine Classical.byContradiction fun hc => ?_
    have hk : f ≤ m - 1 := by omega
    have e1 : (m - 1 + z) / 1440 = (m + z) / 1440 := by omega
    refine m3 (m - 1) hk (by omega) ?_
    unfold Fire
    rw [e1]
    exact ⟨by omega, by omega, by omega, by omega, f5, by omega, by omega⟩
/-- The program's search. -/
theorem tri_first {h : Hrs} {z f : Int} {s : Sal} (hh : okHrs h) (hz : okZone z) (hs : okSal s) (hf : 0 ≤ f) {d : Int} (h0 : 0 ≤ d) (hd : d ≤ 8) (hbefore : ∀ e, 0 ≤ e → e < d → ¬ Fire h z s (tri h z f e)) (hF : Fire h z s (tri h z f d)) : earl h z s f = some (tri h z f d) := by
  obtain ⟨m, q1, q2⟩ := least_exists (tri_ge h z f d) hF
  obtain ⟨e, e1, e2, e3⟩ := least_tri hh hz hs hf q1
  rcases Int.lt_or_le e d with q | q
  · exact (hbefore e e1 q (e3 ▸ q1.2.1)).elim
  · have := tri_mono h z f q
    rw [earl_some q1]
    congr 1
    omega
theorem tri_none {h : Hrs} {z f : Int} {s : Sal} (hh : okHrs h) (hz : okZone z) (hs : okSal s) (hf : 0 ≤ f) (hn : ∀ e, 0 ≤ e → e < 9 → ¬ Fire h z s (tri h z f e)) : earl h z s f = none := by
  refine earl_none fun k h1 h2 => ?_
  obtain ⟨m, q1, q2⟩ := least_exists h1 h2
  obtain ⟨e, e1, e2, e3⟩ := least_tri hh hz hs hf q1
  exact hn e e1 (by omega) (e3 ▸ q1.2.1)
theorem earl_mono {h : Hrs} {z : Int} {s : Sal} {f g n : Int} (hfg : f ≤ g) (hg : g ≤ n) (hF : Fire h z s n) : ∃ m, earl h z s f = some m ∧ m ≤ n := by
  obtain ⟨m, q1, q2⟩ := least_exists (Int.le_trans hfg hg) hF
  exact ⟨m, earl_some q1, q2⟩
end Go.Ev
/-! VBA -/
set_option maxRecDepth 100000
set_option linter.unusedVariables false
set_option linter.unusedSimpArgs false
namespace Go.Ev
def salB (s : Sal) : Bool := (decide (0 ≤ s.at') && decide (s.at' ≤ 144001439)) && ((decide (1 ≤ s.gu) && decide (s.gu ≤ 21)) && (decide (1 ≤ s.ga) && decide (s.ga ≤ 60)))
def hrsB (op cl z : Int) : Bool := decide (0 ≤ op) && decide (op < cl) && decide (cl ≤ 1440) && (decide (-720 ≤ z) && decide (z ≤ 840))
def salsE (op cl z : Int) (l : List Sal) : Int := if hrsB op cl z then (if l.length > 100 then 2 else if l.all salB then 0 else 1) else 1
/-- The first salvo that is not valid. -/
def badF : List Sal → Int → Int
  | [], _ => -1
  | s :: l, i => if salB s then badF l (i + 1) else i
noncomputable def fireB (h : Hrs) (z : Int) (s : Sal) (m : Int) : Bool := decide (Fire h z s m)
noncomputable def earlV (h : Hrs) (z : Int) (s : Sal) (f : Int) : Int × Bool := match earl h z s f with
  | some m => (m, true)
  | none => (0, false)
end Go.Ev
namespace Go.Proofs
open Go Go.Ev
def R169 : Spc := fun args => match args with
  | [.agg [.int .i64 _, .int .i64 g, .int .i64 p]] => some (1 ≤ g ∧ g ≤ 21 ∧ 1 ≤ p ∧ p ≤ 60, rI ((g - 1) * p))
  | _ => none
def R167 : Spc := fun args => match args with
  | [.agg [.int .i64 a, .int .i64 g, .int .i64 p]] => some (True, rB (salB ⟨a, g, p⟩))
  | _ => none
def R166 : Spc := fun args => match args with
  | [.agg [.int .i64 a, .int .i64 g, .int .i64 p]] => some (True, rB (!salB ⟨a, g, p⟩))
  | _ => none
noncomputable def R205 : Spc := fun args => match args with
  | [.vs l n .none, .fn (.func 166) [] []] => some (∃ x, l = encL encSv x ∧ n = x.length ∧ x.length ≤ 1000, rI (onEnc (encL encSv) (fun x => badF x 0) 0 l))
  | _ => none
noncomputable def R165 : Spc := fun args => match args with
  | [.vs l n .none, .fn (.func 166) [] []] => some (∃ x, l = encL encSv x ∧ n = x.length ∧ x.length ≤ 1000, rB (onEnc (encL encSv) (fun x => !x.all salB) false l))
  | _ => none
noncomputable def R126 : Spc := fun args => match args with
  | [.agg [.int .i64 op, .int .i64 cl, .bool _, .bool _, .bool _, .bool _, .bool _, .bool _, .bool _], .int .i64 z, .vs l n .none] => some (∃ x, l = encL encSv x ∧ n = x.length ∧ x.length ≤ 1000, rI (onEnc (encL encSv) (fun x => salsE op cl z x) 0 l))
  | _ => none
noncomputable def R130 : Spc := fun args => match args with
  | [.agg [.int .i64 op, .int .i64 cl, .bool d0, .bool d1, .bool d2, .bool d3, .bool d4, .bool d5, .bool d6], .int .i64 z, .int .i64 m, .agg [.int .i64 a, .int .i64 g, .int .i64 p]] => some (okHrs ⟨op, cl, d0, d1, d2, d3, d4, d5, d6⟩ ∧ okZone z ∧ okSal ⟨a, g, p⟩, rB (fireB ⟨op, cl, d0, d1, d2, d3, d4, d5, d6⟩ z ⟨a, g, p⟩ m))
  | _ => none
noncomputable def R131 : Spc := fun args => match args with
  | [.agg [.int .i64 op, .int .i64 cl, .bool d0, .bool d1, .bool d2, .bool d3, .bool d4, .bool d5, .bool d6], .int .i64 z, .agg [.int .i64 a, .int .i64 g, .int .i64 p], .int .i64 m] => some (okHrs ⟨op, cl, d0, d1, d2, d3, d4, d5, d6⟩ ∧ okZone z ∧ okSal ⟨a, g, p⟩ ∧ -9223372036854775808 ≤ m ∧ m ≤ 144001439, rB (fireB ⟨op, cl, d0, d1, d2, d3, d4, d5, d6⟩ z ⟨a, g, p⟩ m))
  | _ => none
noncomputable def R127 : Spc := fun args => match args with
  | [.agg [.int .i64 op, .int .i64 cl, .bool d0, .bool d1, .bool d2, .bool d3, .bool d4, .bool d5, .bool d6], .int .i64 z, .int .i64 f, .agg [.int .i64 a, .int .i64 g, .int .i64 p]] => some (okHrs ⟨op, cl, d0, d1, d2, d3, d4, d5, d6⟩ ∧ okZone z ∧ okSal ⟨a, g, p⟩ ∧ 0 ≤ f ∧ f ≤ 144001440, .ret (.tup [I (earlV ⟨op, cl, d0, d1, d2, d3, d4, d5, d6⟩ z ⟨a, g, p⟩ f).1, Bo (earlV ⟨op, cl, d0, d1, d2, d3, d4, d5, d6⟩ z ⟨a, g, p⟩ f).2]))
  | _ => none
def lm169 : List (Nat × List Nat) := []
noncomputable def Tryz.X169 : WCx := Tryz.B.wcx [] lm169 [] [] []
def lm167 : List (Nat × List Nat) := []
noncomputable def Tryz.X167 : WCx := Tryz.B.wcx [(115, R115)] lm167 [] [] []
def lm166 : List (Nat × List Nat) := []
noncomputable def Tryz.X166 : WCx := Tryz.B.wcx [(167, R167)] lm166 [] [] []
def lm205 : List (Nat × List Nat) := [(2, [0, 1, 7, 8]), (7, [])]
noncomputable def Tryz.X205 : WCx := Tryz.B.wcx [(166, R166)] lm205 [] [] []
def lm165 : List (Nat × List Nat) := []
noncomputable def Tryz.X165 : WCx := Tryz.B.wcx [(205, R205)] lm165 [] [] []
def lm126 : List (Nat × List Nat) := []
noncomputable def Tryz.X126 : WCx := Tryz.B.wcx [(120, R120), (165, R165)] lm126 [] [] []
def lm130 : List (Nat × List Nat) := []
noncomputable def Tryz.X130 : WCx := Tryz.B.wcx [(115, R115), (169, R169), (89, R89)] lm130 [0] [] []
def lm127 : List (Nat × List Nat) := [(3, [1, 2, 4, 7, 10, 21]), (9, [])]
noncomputable def Tryz.X127 : WCx := Tryz.B.wcx [(89, R89), (130, R130)] lm127 [] [] [(3, 2)]
theorem v169 (a g p : Int) (Q : CR → Prop) : wpF Tryz.X169 169 [.agg [I a, I g, I p]] Q =
  (Q (CR.ret (I (IntKind.i64.wrap (IntKind.i64.wrap (g - (1 : Int)) * p))))) := by kernel_rfl
theorem v167 (a g p : Int) (Q : CR → Prop) : wpF Tryz.X167 167 [.agg [I a, I g, I p]] Q =
  (True ∧ cIf (decide ((0 : Int) ≤ a) && decide (a ≤ (144001439 : Int))) (cIf (decide (g ≥ (1 : Int))) (cIf (decide (g ≤ (21 : Int))) (cIf (decide (p ≥ (1 : Int))) (Q (CR.ret (Bo (decide (p ≤ (60 : Int)))))) (Q (CR.ret (Bo false)))) (Q (CR.ret (Bo false)))) (Q (CR.ret (Bo false)))) (Q (CR.ret (Bo false)))) := by kernel_rfl
theorem v166 (a g p : Int) (Q : CR → Prop) : wpF Tryz.X166 166 [.agg [I a, I g, I p]] Q =
  (True ∧ Q (CR.ret (Bo !salB (Sal.mk a g p)))) := by kernel_rfl
theorem v205 (l : List AV) (n : Nat) (Q : CR → Prop) : wpF Tryz.X205 205 [.vs l n .none, .fn (.func 166) [] []] Q =
  (WLoop Tryz.X205 (cd Tryz.X205.P 205 [1, 0, 1, 0, 0]) ([AV.vs l n Tok.none, AV.fn (Fn.func 166) [] [], X, X, X, X, X, I (↑n : Int), I (0 : Int)] ++ List.replicate 10 X) (St.mk [] [] []) (kBlock 0 (kSeq Tryz.X205 (cd Tryz.X205.P 205 [1, 1]) (kRet Tryz.X205 205 Q)))) := by kernel_rfl
theorem v205l (l : List AV) (n i : Nat) (Q : CR → Prop) : wpC Tryz.X205 (cd PP 205 [1, 0, 1, 0, 0]) ([.vs l n .none, .fn (.func 166) [] [], X, X, X, X, X, I n, I i] ++ List.replicate 10 X) ⟨[], [], []⟩ (kLoop Tryz.X205 (cd PP 205 [1, 0, 1, 0, 0]) (kBlock 0 (kSeq Tryz.X205 (cd PP 205 [1, 1]) (kRet Tryz.X205 205 Q)))) =
  (cIf (decide ((↑i : Int) < (↑n : Int))) (cIf (decide (i < n)) (cIf (decide (n * 3 = l.length)) (cIf (decide (3 ≤ (List.drop (i * 3) l).length)) (cIf (like [I (0 : Int), I (0 : Int), I (0 : Int)] (el (List.drop (i * 3) l) 0 3)) (True ∧ cIf (!salB (Sal.mk (cI (el (List.drop (i * 3) l) 0 3) 0) (cI (el (List.drop (i * 3) l) 0 3) 1) (cI (el (List.drop (i * 3) l) 0 3) 2))) (Q (CR.ret (I (↑i : Int)))) (WLoop Tryz.X205 (cd PP 205 [1, 0, 1, 0, 0]) ([AV.vs l n Tok.none, AV.fn (Fn.func 166) [] [], X, X, X, X, X, I (↑n : Int), I (IntKind.i64.wrap ((↑i : Int) + (1 : Int)))] ++ List.replicate 10 X) (St.mk [] [] []) (kBlock 0 (kSeq Tryz.X205 (cd PP 205 [1, 1]) (kRet Tryz.X205 205 Q))))) False) False) False) False) (Q (CR.ret (I (-1 : Int))))) := by kernel_rfl
theorem v165 (l : List AV) (n : Nat) (Q : CR → Prop) : wpF Tryz.X165 165 [.vs l n .none, .fn (.func 166) [] []] Q =
  ((∃ (x : List Sal), l = encL encSv x ∧ n = x.length ∧ x.length ≤ 1000) ∧ Q (CR.ret (Bo (decide (onEnc (encL encSv) (fun (x : List Sal) => badF x (0 : Int)) (0 : Int) l ≥ (0 : Int)))))) := by kernel_rfl
theorem v126 (op cl z : Int) (d0 d1 d2 d3 d4 d5 d6 : Bool) (l : List AV) (n : Nat) (Q : CR → Prop) : wpF Tryz.X126 126 [.agg [I op, I cl, Bo d0, Bo d1, Bo d2, Bo d3, Bo d4, Bo d5, Bo d6], I z, .vs l n .none] Q =
  (cIf (decide (op < (0 : Int))) (Q (CR.ret (I (1 : Int)))) (cIf (decide (op ≥ cl)) (Q (CR.ret (I (1 : Int)))) (cIf (decide (cl > (1440 : Int))) (Q (CR.ret (I (1 : Int)))) (True ∧ cIf (!(decide ((-720 : Int) ≤ z) && decide (z ≤ (840 : Int)))) (Q (CR.ret (I (1 : Int)))) (cIf (decide ((↑n : Int) > (100 : Int))) (Q (CR.ret (I (2 : Int)))) ((∃ (x : List Sal), l = encL encSv x ∧ n = x.length ∧ x.length ≤ 1000) ∧ cIf (onEnc (encL encSv) (fun (x : List Sal) => !x.all salB) false l) (Q (CR.ret (I (1 : Int)))) (Q (CR.ret (I (0 : Int)))))))))) := by kernel_rfl
theorem v130 (op cl z m a g p : Int) (d0 d1 d2 d3 d4 d5 d6 : Bool) (Q : CR → Prop) : wpF Tryz.X130 130 [.agg [I op, I cl, Bo d0, Bo d1, Bo d2, Bo d3, Bo d4, Bo d5, Bo d6], I z, I m, .agg [I a, I g, I p]] Q =
  (True ∧ cIf (!(decide ((0 : Int) ≤ m) && decide (m ≤ (144001439 : Int)))) (Q (CR.ret (Bo false))) (((1 : Int) ≤ g ∧ g ≤ (21 : Int) ∧ (1 : Int) ≤ p ∧ p ≤ (60 : Int)) ∧ True ∧ cIf (!(decide ((0 : Int) ≤ IntKind.i64.wrap (m + (g - (1 : Int)) * p)) && decide (IntKind.i64.wrap (m + (g - (1 : Int)) * p) ≤ (144001439 : Int)))) (Q (CR.ret (Bo false))) (((-1000000000 : Int) ≤ IntKind.i64.wrap (m + z) ∧ IntKind.i64.wrap (m + z) ≤ (1000000000 : Int)) ∧ cIf (decide (IntKind.i64.wrap (m + z) / (1440 : Int) ≥ (0 : Int))) (cIf (decide (IntKind.i64.wrap (m + z) / (1440 : Int) ≤ (100000 : Int))) (cIf (decide ((0 : Int) ≤ (IntKind.i64.wrap (m + z) / (1440 : Int)).tmod (7 : Int))) (cIf (decide (((IntKind.i64.wrap (m + z) / (1440 : Int)).tmod (7 : Int)).toNat < 7)) (cIf (decide (2 + ((IntKind.i64.wrap (m + z) / (1440 : Int)).tmod (7 : Int)).toNat * 1 < [I op, I cl, Bo d0, Bo d1, Bo d2, Bo d3, Bo d4, Bo d5, Bo d6].length)) (cIf (likeOk (AV.ofVal (Value.bool false)) ([I op, I cl, Bo d0, Bo d1, Bo d2, Bo d3, Bo d4, Bo d5, Bo d6].getD (2 + ((IntKind.i64.wrap (m + z) / (1440 : Int)).tmod (7 : Int)).toNat * 1) X)) (cIf (cB [I op, I cl, Bo d0, Bo d1, Bo d2, Bo d3, Bo d4, Bo d5, Bo d6] (2 + ((IntKind.i64.wrap (m + z) / (1440 : Int)).tmod (7 : Int)).toNat * 1)) (cIf (decide (IntKind.i64.wrap (m + z) % (1440 : Int) ≥ cI [I op, I cl, Bo d0, Bo d1, Bo d2, Bo d3, Bo d4, Bo d5, Bo d6] 0)) (((1 : Int) ≤ g ∧ g ≤ (21 : Int) ∧ (1 : Int) ≤ p ∧ p ≤ (60 : Int)) ∧ St.mk [some (HB.cells [I op, I cl, Bo d0, Bo d1, Bo d2, Bo d3, Bo d4, Bo d5, Bo d6] 81), some (HB.cells [I a, I g, I p] 103)] [] [] = St.mk [some (HB.cells [I op, I cl, Bo d0, Bo d1, Bo d2, Bo d3, Bo d4, Bo d5, Bo d6] 81), some (HB.cells [I a, I g, I p] 103)] [] [] ∧ Q (CR.ret (AV.bool (decide (IntKind.i64.wrap (IntKind.i64.wrap (m + z) % (1440 : Int) + (g - (1 : Int)) * p) < cI [I op, I cl, Bo d0, Bo d1, Bo d2, Bo d3, Bo d4, Bo d5, Bo d6] 1))))) (Q (CR.ret (Bo false)))) (Q (CR.ret (Bo false)))) False) False) False) False) (Q (CR.ret (Bo false)))) (Q (CR.ret (Bo false)))))) := by kernel_rfl
theorem v127 (op cl z f a g p : Int) (d0 d1 d2 d3 d4 d5 d6 : Bool) (Q : CR → Prop) : wpF Tryz.X127 127 [.agg [I op, I cl, Bo d0, Bo d1, Bo d2, Bo d3, Bo d4, Bo d5, Bo d6], I z, I f, .agg [I a, I g, I p]] Q =
  (((-1000000000 : Int) ≤ IntKind.i64.wrap (f + z) ∧ IntKind.i64.wrap (f + z) ≤ (1000000000 : Int)) ∧ WLoop Tryz.X127 (cd Tryz.X127.P 127 [1, 1, 0, 1, 0, 0]) ([X, I z, I f, X, AV.ptr 0 0, X, X, AV.ptr 1 0, X, X, I (IntKind.i64.wrap (f + z) / (1440 : Int)), X, X, X, X, X, X, X, X, X, X, I (0 : Int)] ++ List.replicate 20 X) (St.mk [some (HB.cells [I op, I cl, Bo d0, Bo d1, Bo d2, Bo d3, Bo d4, Bo d5, Bo d6] 81), some (HB.cells [I a, I g, I p] 103)] [] []) (kBlock 0 (kSeq Tryz.X127 (cd Tryz.X127.P 127 [1, 1, 1]) (kRet Tryz.X127 127 Q)))) := by kernel_rfl
theorem v127l (op cl z f a g p dy : Int) (d0 d1 d2 d3 d4 d5 d6 : Bool) (i : Nat) (Q : CR → Prop) : wpC Tryz.X127 (cd PP 127 [1, 1, 0, 1, 0, 0]) ([X, I z, I f, X, .ptr 0 0, X, X, .ptr 1 0, X, X, I dy, X, X, X, X, X, X, X, X, X, X, I i] ++ List.replicate 20 X) ⟨[some (.cells [I op, I cl, Bo d0, Bo d1, Bo d2, Bo d3, Bo d4, Bo d5, Bo d6] 81), some (.cells [I a, I g, I p] 103)], [], []⟩ (kLoop Tryz.X127 (cd PP 127 [1, 1, 0, 1, 0, 0]) (kBlock 0 (kSeq Tryz.X127 (cd PP 127 [1, 1, 1]) (kRet Tryz.X127 127 Q)))) =
  (cIf (decide ((↑i : Int) < (9 : Int))) ((okHrs (Hrs.mk op cl d0 d1 d2 d3 d4 d5 d6) ∧ okZone z ∧ okSal (Sal.mk a g p)) ∧ cIf (fireB (Hrs.mk op cl d0 d1 d2 d3 d4 d5 d6) z (Sal.mk a g p) (if IntKind.i64.wrap (IntKind.i64.wrap (IntKind.i64.wrap (IntKind.i64.wrap (dy + (↑i : Int)) * (1440 : Int)) + op) - z) > f then IntKind.i64.wrap (IntKind.i64.wrap (IntKind.i64.wrap (IntKind.i64.wrap (dy + (↑i : Int)) * (1440 : Int)) + op) - z) else f)) (Q (CR.ret (AV.tup [AV.int IntKind.i64 (if IntKind.i64.wrap (IntKind.i64.wrap (IntKind.i64.wrap (IntKind.i64.wrap (dy + (↑i : Int)) * (1440 : Int)) + op) - z) > f then IntKind.i64.wrap (IntKind.i64.wrap (IntKind.i64.wrap (IntKind.i64.wrap (dy + (↑i : Int)) * (1440 : Int)) + op) - z) else f), Bo true]))) (WLoop Tryz.X127 (cd PP 127 [1, 1, 0, 1, 0, 0]) ([X, I z, I f, X, AV.ptr 0 0, X, X, AV.ptr 1 0, X, X, I dy, X, X, X, X, X, X, X, X, X, X, I (IntKind.i64.wrap ((↑i : Int) + (1 : Int)))] ++ List.replicate 20 X) (St.mk [some (HB.cells [I op, I cl, Bo d0, Bo d1, Bo d2, Bo d3, Bo d4, Bo d5, Bo d6] 81), some (HB.cells [I a, I g, I p] 103)] [] []) (kBlock 0 (kSeq Tryz.X127 (cd PP 127 [1, 1, 1]) (kRet Tryz.X127 127 Q))))) (Q (CR.ret (AV.tup [I (0 : Int), Bo false])))) := by kernel_rfl
end Go.Proofs
/-! BA -/
set_option maxRecDepth 100000
set_option linter.unusedVariables false
set_option linter.unusedSimpArgs false
namespace Go.Ev
theorem lng_bd' {g p : Int} (h1 : 1 ≤ g) (h2 : g ≤ 21) (h3 : 1 ≤ p) (h4 : p ≤ 60) : 0 ≤ (g - 1) * p ∧ (g - 1) * p ≤ 1200 := lng_bd (s := ⟨0, g, p⟩) ⟨Int.le_refl 0, (by decide : (0 : Int) ≤ 144001439), h1, h2, h3, h4⟩
theorem badF_nn : ∀ (l : List Sal) (i : Int), 0 ≤ i → decide (badF l i ≥ 0) = !l.all salB
  | [], i, h => by simp [badF]
  | s :: l, i, h => by
    unfold badF
    rw [List.all_cons]
    cases hs : salB s with
    | true => simp only [if_true, Bool.true_and]; exact badF_nn l (i + 1) (by omega)
    | false => simp only [Bool.false_eq_true, if_false, Bool.false_and, Bool.not_false]; exact decide_eq_true h
theorem salB_ok {s : Sal} : salB s = true ↔ okSal s := by
  unfold salB okSal
  simp only [Bool.and_eq_true, decide_eq_true_eq]
  constructor
  · rintro ⟨⟨a, b⟩, ⟨c, d⟩, e, f⟩; exact ⟨a, b, c, d, e, f⟩
  · rintro ⟨a, b, c, d, e, f⟩; exact ⟨⟨a, b⟩, ⟨c, d⟩, e, f⟩
abbrev HH (h : Hrs) : List AV := [I h.op, I h.cl, Bo h.d0, Bo h.d1, Bo h.d2, Bo h.d3, Bo h.d4, Bo h.d5, Bo h.d6]
theorem hh_day (h : Hrs) {k : Nat} (hk : k < 7) : decide (2 + k * 1 < (HH h).length) = true ∧ likeOk (AV.ofVal (Value.bool false)) ((HH h).getD (2 + k * 1) X) = true ∧ cB (HH h) (2 + k * 1) = [h.d0, h.d1, h.d2, h.d3, h.d4, h.d5, h.d6].getD k false := by
  have : k = 0 ∨ k = 1 ∨ k = 2 ∨ k = 3 ∨ k = 4 ∨ k = 5 ∨ k = 6 := by omega
  rcases this with rfl | rfl | rfl | rfl | rfl | rfl | rfl <;> exact ⟨rfl, rfl, rfl⟩
theorem day_mod {d : Int} (h : 0 ≤ d) : 0 ≤ d.tmod 7 ∧ (d.tmod 7).toNat < 7 ∧ (d.tmod 7).toNat = (d % 7).toNat := by
  have e : d.tmod 7 = d % 7 := Int.tmod_eq_emod_of_nonneg h
  rw [e]
  exact ⟨by omega, by omega, rfl⟩
theorem fire_no {h : Hrs} {z m : Int} {s : Sal} (hn : ¬ Fire h z s m) : CR.ret (Bo false) = rB (fireB h z s m) := by
  unfold fireB; rw [decide_eq_false hn]
end Go.Ev
namespace Go.Proofs
open Go Go.Ev
attribute [local irreducible] wpF wpC cd
theorem ct169 : Ct Tryz.B.c0 169 R169 := Ct.of_wp (lm := lm169) (tp := []) (ct := []) (sm := []) Tryz.bok (Cts.nil _) ⟨_, _, Tryz.func169, rfl⟩ fun args D r hR hD => by
  unfold R169 at hR
  split at hR <;> cases hR
  rename_i a g p
  obtain ⟨h1, h2, h3, h4⟩ := hD
  refine ⟨rfl, ?_⟩
  show wpF Tryz.X169 169 [.agg [I a, I g, I p]] _
  rw [v169]
  have := lng_bd' h1 h2 h3 h4
  rw [wrap_id (x := g - 1) (by omega) (by omega), wrap_id (by omega) (by omega)]
theorem ct167 : Ct Tryz.B.c0 167 R167 := Ct.of_wp (lm := lm167) (tp := []) (ct := []) (sm := []) Tryz.bok ((Cts.nil _).cons ct115) ⟨_, _, Tryz.func167, rfl⟩ fun args D r hR hD => by
  unfold R167 at hR
  split at hR <;> cases hR
  rename_i a g p
  refine ⟨rfl, ?_⟩
  show wpF Tryz.X167 167 [.agg [I a, I g, I p]] _
  rw [v167]
  refine ⟨trivial, ?_⟩
  repeat' (refine cIf_intro (fun h => ?_) (fun h => ?_))
  all_goals (apply rB_eq; simp [salB] at *; omega)
theorem ct166 : Ct Tryz.B.c0 166 R166 := Ct.of_wp (lm := lm166) (tp := []) (ct := []) (sm := []) Tryz.bok ((Cts.nil _).cons ct167) ⟨_, _, Tryz.func166, rfl⟩ fun args D r hR hD => by
  unfold R166 at hR
  split at hR <;> cases hR
  rename_i a g p
  refine ⟨rfl, ?_⟩
  show wpF Tryz.X166 166 [.agg [I a, I g, I p]] _
  rw [v166]
  exact ⟨trivial, rfl⟩
section
variable {xs : List Sal} (hlen : xs.length ≤ 1000)
include hlen
theorem bad_loop (Q : CR → Prop) : ∀ (d i : Nat), xs.length - i = d → i ≤ xs.length → Q (rI (badF (xs.drop i) i)) →
    WLoop Tryz.X205 (cd PP 205 [1, 0, 1, 0, 0]) ([.vs (encL encSv xs) xs.length .none, .fn (.func 166) [] [], X, X, X, X, X, I xs.length, I i] ++ List.replicate 10 X) ⟨[], [], []⟩ (kBlock 0 (kSeq Tryz.X205 (cd PP 205 [1, 1]) (kRet Tryz.X205 205 Q))) := by
  have hc : Cts Tryz.B [(166, R166)] := (Cts.nil _).cons ct166
  intro d
  induction d with
  | zero =>
    intro i hd hi hQ
    have hi' : i = xs.length := by omega
    subst hi'
    refine WLoop_step Tryz.bok hc ((v205l _ _ _ Q).mpr (cIf_neg (by simp) ?_))
    rw [List.drop_length] at hQ
    exact hQ
  | succ d ih =>
    intro i hd hi hQ
    have hlt : i < xs.length := by omega
    have e1 : xs.length - (i + 1) = d := by omega
    have w1 : IntKind.i64.wrap ((i : Int) + 1) = ((i + 1 : Nat) : Int) := wrap_id (by omega) (by omega)
    have h1 : (i : Int) < xs.length := by omega
    obtain ⟨x, hx, hdr⟩ := drop_cons hlt
    rw [hdr] at hQ
    unfold badF at hQ
    refine WLoop_step Tryz.bok hc ((v205l _ _ _ Q).mpr ?_)
    simp only [dt h1, dt hlt, eSv.gl, eSv.gd hlt, eSv.g0 hlt (by decide), eSv.el hx, eSv.ld0 hx (by decide), Sv_like, eSv.cI0 hx (by decide), Sv_lk0, Sv_c0, eSv.gf hlt 1 (by decide), eSv.ld hx 1 (by decide), eSv.cI hx 1 (by decide), Sv_lk1, Sv_c1, eSv.gf hlt 2 (by decide), eSv.ld hx 2 (by decide), eSv.cI hx 2 (by decide), Sv_lk2, Sv_c2, cIf_true, true_and, w1]
    refine cIf_intro (fun h => ?_) (fun h => ?_)
    · have h : salB x = false := by simpa using h
      rw [h] at hQ
      simpa using hQ
    · have h : salB x = true := by simpa using h
      rw [h] at hQ
      exact ih (i + 1) e1 hlt (by simpa using hQ)
end
theorem ct205 : Ct Tryz.B.c0 205 R205 := Ct.of_wp (lm := lm205) (tp := []) (ct := []) (sm := []) Tryz.bok ((Cts.nil _).cons ct166) ⟨_, _, Tryz.func205, rfl⟩ fun args D r hR hD => by
  unfold R205 at hR
  split at hR <;> cases hR
  obtain ⟨xs, rfl, rfl, hlen⟩ := hD
  refine ⟨by simp [noHL, noH, eSv.noHL'], ?_⟩
  rw [show scrubL 0 [AV.vs (encL encSv xs) xs.length .none, AV.fn (Fn.func 166) [] []] = [.vs (encL encSv xs) xs.length .none, .fn (.func 166) [] []] by simp [scrubL, scrub, eSv.scL, Tok.scrub], eSv.on (by decide)]
  show wpF Tryz.X205 205 _ _
  rw [v205]
  exact bad_loop hlen _ _ 0 rfl (Nat.zero_le _) rfl
theorem ct165 : Ct Tryz.B.c0 165 R165 := Ct.of_wp (lm := lm165) (tp := []) (ct := []) (sm := []) Tryz.bok ((Cts.nil _).cons ct205) ⟨_, _, Tryz.func165, rfl⟩ fun args D r hR hD => by
  unfold R165 at hR
  split at hR <;> cases hR
  obtain ⟨xs, rfl, rfl, hlen⟩ := hD
  refine ⟨by simp [noHL, noH, eSv.noHL'], ?_⟩
  rw [show scrubL 0 [AV.vs (encL encSv xs) xs.length .none, AV.fn (Fn.func 166) [] []] = [.vs (encL encSv xs) xs.length .none, .fn (.func 166) [] []] by simp [scrubL, scrub, eSv.scL, Tok.scrub], eSv.on (by decide)]
  show wpF Tryz.X165 165 _ _
  rw [v165]
  refine ⟨⟨xs, rfl, rfl, hlen⟩, ?_⟩
  rw [eSv.on (by decide), badF_nn xs 0 (by decide)]
section
variable {xs : List Sal} (hlen : xs.length ≤ 1000)
include hlen
end
theorem ct126 : Ct Tryz.B.c0 126 R126 := Ct.of_wp (lm := lm126) (tp := []) (ct := []) (sm := []) Tryz.bok (((Cts.nil _).cons ct165).cons ct120') ⟨_, _, Tryz.func126, rfl⟩ fun args D r hR hD => by
  unfold R126 at hR
  split at hR <;> cases hR
  rename_i op cl d0 d1 d2 d3 d4 d5 d6 z l n
  obtain ⟨xs, rfl, rfl, hlen⟩ := hD
  refine ⟨by simp [noHL, noH, eSv.noHL'], ?_⟩
  rw [show scrubL 0 [AV.agg [I op, I cl, Bo d0, Bo d1, Bo d2, Bo d3, Bo d4, Bo d5, Bo d6], I z, AV.vs (encL encSv xs) xs.length .none] = [AV.agg [I op, I cl, Bo d0, Bo d1, Bo d2, Bo d3, Bo d4, Bo d5, Bo d6], I z, .vs (encL encSv xs) xs.length .none] by simp [scrubL, scrub, eSv.scL, Tok.scrub], eSv.on (by decide)]
  show wpF Tryz.X126 126 _ _
  rw [v126]
  have hno : hrsB op cl z = false → CR.ret (I 1) = rI (salsE op cl z xs) := fun h => by unfold salsE; rw [h]; rfl
  refine cIf_intro (fun h1 => hno ?_) (fun h1 => cIf_intro (fun h2 => hno ?_) (fun h2 => cIf_intro (fun h3 => hno ?_) (fun h3 => ⟨trivial, cIf_intro (fun h4 => hno ?_) (fun h4 => ?_)⟩)))
  · unfold hrsB; simp at h1 ⊢; omega
  · unfold hrsB; simp at h2 ⊢; omega
  · unfold hrsB; simp at h3 ⊢; omega
  · unfold hrsB; simp at h4 ⊢; omega
  · have hh : hrsB op cl z = true := by unfold hrsB; simp at h1 h2 h3 h4 ⊢; omega
    unfold salsE
    rw [hh, if_pos rfl]
    refine cIf_intro (fun h5 => ?_) (fun h5 => ⟨⟨xs, rfl, rfl, hlen⟩, ?_⟩)
    · rw [if_pos (by have := of_decide_eq_true h5; omega)]
    · rw [if_neg (by have := of_decide_eq_false h5; omega), eSv.on (by decide)]
      refine cIf_intro (fun h6 => ?_) (fun h6 => ?_)
      · have : xs.all salB = false := by simpa using h6
        rw [this]; rfl
      · have : xs.all salB = true := by simpa using h6
        rw [this]; rfl
theorem ct130 : Ct Tryz.B.c0 130 R130 := Ct.of_wp (lm := lm130) (tp := [0]) (ct := []) (sm := []) Tryz.bok ((((Cts.nil _).cons ct89).cons ct169).cons ct115) ⟨_, _, Tryz.func130, rfl⟩ fun args D r hR hD => by
  unfold R130 at hR
  split at hR <;> cases hR
  rename_i op cl d0 d1 d2 d3 d4 d5 d6 z m a g p
  obtain ⟨hh, hz, hs⟩ := hD
  refine ⟨rfl, ?_⟩
  show wpF Tryz.X130 130 [.agg [I op, I cl, Bo d0, Bo d1, Bo d2, Bo d3, Bo d4, Bo d5, Bo d6], I z, I m, .agg [I a, I g, I p]] _
  rw [v130]
  have hl : 0 ≤ (g - 1) * p ∧ (g - 1) * p ≤ 1200 := lng_bd' hs.2.2.1 hs.2.2.2.1 hs.2.2.2.2.1 hs.2.2.2.2.2
  have hgp : 1 ≤ g ∧ g ≤ 21 ∧ 1 ≤ p ∧ p ≤ 60 := ⟨hs.2.2.1, hs.2.2.2.1, hs.2.2.2.2.1, hs.2.2.2.2.2⟩
  have hz1 := hz.1
  have hz2 := hz.2
  have hh1 : 0 ≤ op := hh.1
  have hh3 : cl ≤ 1440 := hh.2.2
  have hF0 : ∀ {q : Prop}, (Fire ⟨op, cl, d0, d1, d2, d3, d4, d5, d6⟩ z ⟨a, g, p⟩ m → q) = ((0 ≤ m ∧ m + (g - 1) * p ≤ 144001439 ∧ 0 ≤ (m + z) / 1440 ∧ (m + z) / 1440 ≤ 100000 ∧ dayOn ⟨op, cl, d0, d1, d2, d3, d4, d5, d6⟩ ((m + z) / 1440) = true ∧ op ≤ (m + z) % 1440 ∧ (m + z) % 1440 + (g - 1) * p < cl) → q) := rfl
  have hFi : Fire ⟨op, cl, d0, d1, d2, d3, d4, d5, d6⟩ z ⟨a, g, p⟩ m ↔ (0 ≤ m ∧ m + (g - 1) * p ≤ 144001439 ∧ 0 ≤ (m + z) / 1440 ∧ (m + z) / 1440 ≤ 100000 ∧ dayOn ⟨op, cl, d0, d1, d2, d3, d4, d5, d6⟩ ((m + z) / 1440) = true ∧ op ≤ (m + z) % 1440 ∧ (m + z) % 1440 + (g - 1) * p < cl) := Iff.rfl
  clear hF0
  generalize (g - 1) * p = L at hl hFi ⊢
  refine ⟨trivial, cIf_intro (fun c1 => fire_no fun hF => ?_) (fun c1 => ⟨hgp, trivial, ?_⟩)⟩
  · have := hFi.1 hF
    simp at c1; omega
  · have c1 : 0 ≤ m ∧ m ≤ 144001439 := by simp at c1; omega
    rw [wrap_id (x := m + L) (by omega) (by omega), wrap_id (x := m + z) (by omega) (by omega)]
    refine cIf_intro (fun c2 => fire_no fun hF => ?_) (fun c2 => ⟨⟨by omega, by omega⟩, ?_⟩)
    · have := hFi.1 hF
      simp at c2; omega
    · have c2 : m + L ≤ 144001439 := by simp at c2; omega
      refine cIf_intro (fun c3 => cIf_intro (fun c4 => ?_) (fun c4 => fire_no fun hF => ?_)) (fun c3 => fire_no fun hF => ?_)
      · have c3 : 0 ≤ (m + z) / 1440 := of_decide_eq_true c3
        have c4 : (m + z) / 1440 ≤ 100000 := of_decide_eq_true c4
        obtain ⟨e1, e2, e3⟩ := day_mod c3
        obtain ⟨g1, g2, g3⟩ := hh_day ⟨op, cl, d0, d1, d2, d3, d4, d5, d6⟩ e2
        refine cIf_pos (dt e1) (cIf_pos (dt e2) (cIf_pos g1 (cIf_pos g2 ?_)))
        rw [show cB [I op, I cl, Bo d0, Bo d1, Bo d2, Bo d3, Bo d4, Bo d5, Bo d6] (2 + (((m + z) / (1440 : Int)).tmod (7 : Int)).toNat * 1) = dayOn ⟨op, cl, d0, d1, d2, d3, d4, d5, d6⟩ ((m + z) / 1440) from g3.trans (by unfold dayOn; rw [e3])]
        rw [show cI [I op, I cl, Bo d0, Bo d1, Bo d2, Bo d3, Bo d4, Bo d5, Bo d6] 0 = op from rfl, show cI [I op, I cl, Bo d0, Bo d1, Bo d2, Bo d3, Bo d4, Bo d5, Bo d6] 1 = cl from rfl]
        refine cIf_intro (fun c5 => cIf_intro (fun c6 => ⟨hgp, rfl, ?_⟩) (fun c6 => fire_no fun hF => ?_)) (fun c5 => fire_no fun hF => ?_)
        · have c6 : op ≤ (m + z) % 1440 := of_decide_eq_true c6
          rw [wrap_id (by omega) (by omega)]
          apply rB_eq
          rw [show (fireB ⟨op, cl, d0, d1, d2, d3, d4, d5, d6⟩ z ⟨a, g, p⟩ m = true) ↔ Fire ⟨op, cl, d0, d1, d2, d3, d4, d5, d6⟩ z ⟨a, g, p⟩ m by unfold fireB; exact decide_eq_true_iff, hFi, decide_eq_true_iff]
          exact ⟨fun h => ⟨c1.1, c2, c3, c4, c5, c6, h⟩, fun h => h.2.2.2.2.2.2⟩
        · have := (hFi.1 hF).2.2.2.2.2.1
          exact (of_decide_eq_false c6) this
        · have := (hFi.1 hF).2.2.2.2.1
          rw [this] at c5; cases c5
      · exact (of_decide_eq_false c4) (hFi.1 hF).2.2.2.1
      · exact (of_decide_eq_false c3) (hFi.1 hF).2.2.1

theorem earlV_some {h : Hrs} {z f m : Int} {s : Sal} (he : earl h z s f = some m) : earlV h z s f = (m, true) := by unfold earlV; rw [he]
theorem earlV_none {h : Hrs} {z f : Int} {s : Sal} (he : earl h z s f = none) : earlV h z s f = (0, false) := by unfold earlV; rw [he]
theorem fireB_iff {h : Hrs} {z m : Int} {s : Sal} : fireB h z s m = true ↔ Fire h z s m := by unfold fireB; exact decide_eq_true_iff
section
variable {op cl z f a g p : Int} {d0 d1 d2 d3 d4 d5 d6 : Bool} (hh : okHrs ⟨op, cl, d0, d1, d2, d3, d4, d5, d6⟩) (hz : okZone z) (hs : okSal ⟨a, g, p⟩) (hf0 : 0 ≤ f) (hf1 : f ≤ 144001440)
include hh hz hs hf0 hf1
theorem earl_loop (Q : CR → Prop) (hQ : Q (.ret (.tup [I (earlV ⟨op, cl, d0, d1, d2, d3, d4, d5, d6⟩ z ⟨a, g, p⟩ f).1, Bo (earlV ⟨op, cl, d0, d1, d2, d3, d4, d5, d6⟩ z ⟨a, g, p⟩ f).2]))) : ∀ (d i : Nat), 9 - i = d → i ≤ 9 → (∀ e : Int, 0 ≤ e → e < i → ¬ Fire ⟨op, cl, d0, d1, d2, d3, d4, d5, d6⟩ z ⟨a, g, p⟩ (tri ⟨op, cl, d0, d1, d2, d3, d4, d5, d6⟩ z f e)) →
    WLoop Tryz.X127 (cd PP 127 [1, 1, 0, 1, 0, 0]) ([X, I z, I f, X, .ptr 0 0, X, X, .ptr 1 0, X, X, I ((f + z) / 1440), X, X, X, X, X, X, X, X, X, X, I i] ++ List.replicate 20 X) ⟨[some (.cells [I op, I cl, Bo d0, Bo d1, Bo d2, Bo d3, Bo d4, Bo d5, Bo d6] 81), some (.cells [I a, I g, I p] 103)], [], []⟩ (kBlock 0 (kSeq Tryz.X127 (cd PP 127 [1, 1, 1]) (kRet Tryz.X127 127 Q))) := by
  have hc : Cts Tryz.B [(89, R89), (130, R130)] := ((Cts.nil _).cons ct130).cons ct89
  have hz1 := hz.1
  have hz2 := hz.2
  have hh1 : 0 ≤ op := hh.1
  have hh2 : op < cl := hh.2.1
  have hh3 : cl ≤ 1440 := hh.2.2
  intro d
  induction d with
  | zero =>
    intro i hd hi hno
    have hi' : i = 9 := by omega
    subst hi'
    refine WLoop_step Tryz.bok hc ((v127l _ _ _ _ _ _ _ _ _ _ _ _ _ _ _ _ Q).mpr (cIf_neg rfl ?_))
    rw [earlV_none (tri_none hh hz hs hf0 hno)] at hQ
    exact hQ
  | succ d ih =>
    intro i hd hi hno
    have hlt : (i : Int) < 9 := by omega
    have w0 : IntKind.i64.wrap ((f + z) / 1440 + (i : Int)) = (f + z) / 1440 + i := wrap_id (by omega) (by omega)
    have w1 : IntKind.i64.wrap (((f + z) / 1440 + (i : Int)) * 1440) = ((f + z) / 1440 + i) * 1440 := wrap_id (by omega) (by omega)
    have w2 : IntKind.i64.wrap (((f + z) / 1440 + (i : Int)) * 1440 + op) = ((f + z) / 1440 + i) * 1440 + op := wrap_id (by omega) (by omega)
    have w3 : IntKind.i64.wrap (((f + z) / 1440 + (i : Int)) * 1440 + op - z) = ((f + z) / 1440 + i) * 1440 + op - z := wrap_id (by omega) (by omega)
    have w4 : IntKind.i64.wrap ((i : Int) + 1) = ((i + 1 : Nat) : Int) := wrap_id (by omega) (by omega)
    have em : (if ((f + z) / 1440 + (i : Int)) * 1440 + op - z > f then ((f + z) / 1440 + (i : Int)) * 1440 + op - z else f) = tri ⟨op, cl, d0, d1, d2, d3, d4, d5, d6⟩ z f i := by
      unfold tri; simp only; split <;> omega
    refine WLoop_step Tryz.bok hc ((v127l _ _ _ _ _ _ _ _ _ _ _ _ _ _ _ _ Q).mpr (cIf_pos (dt hlt) ⟨⟨hh, hz, hs⟩, ?_⟩))
    rw [w0, w1, w2, w3, w4, em]
    refine cIf_intro (fun c => ?_) (fun c => ih (i + 1) (by omega) (by omega) fun e h0 h1 hF => ?_)
    · rw [earlV_some (tri_first hh hz hs hf0 (Int.natCast_nonneg i) (by omega) hno (fireB_iff.1 c))] at hQ
      exact hQ
    · rcases Int.lt_or_le e i with q | q
      · exact hno e h0 q hF
      · have : e = i := by omega
        subst this
        rw [fireB_iff.2 hF] at c; cases c
end
theorem ct127 : Ct Tryz.B.c0 127 R127 := Ct.of_wp (lm := lm127) (tp := []) (ct := []) (sm := [(3, 2)]) Tryz.bok (((Cts.nil _).cons ct130).cons ct89) ⟨_, _, Tryz.func127, rfl⟩ fun args D r hR hD => by
  unfold R127 at hR
  split at hR <;> cases hR
  rename_i op cl d0 d1 d2 d3 d4 d5 d6 z f a g p
  obtain ⟨hh, hz, hs, hf0, hf1⟩ := hD
  have hz1 := hz.1
  have hz2 := hz.2
  refine ⟨rfl, ?_⟩
  show wpF Tryz.X127 127 [.agg [I op, I cl, Bo d0, Bo d1, Bo d2, Bo d3, Bo d4, Bo d5, Bo d6], I z, I f, .agg [I a, I g, I p]] _
  rw [v127, wrap_id (x := f + z) (by omega) (by omega)]
  refine ⟨⟨by omega, by omega⟩, earl_loop hh hz hs hf0 hf1 _ ?_ _ 0 rfl (Nat.zero_le _) (fun e h0 h1 => by omega)⟩
  rfl
end Go.Proofs
