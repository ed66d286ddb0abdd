/- Contracts of functions of the program and of the reference. -/
import Derived.Test.YtdpfgjljehajbaaGreatDoorK1
set_option linter.unusedVariables false
set_option linter.unusedSimpArgs false
set_option maxRecDepth 100000
set_option linter.unusedVariables false
namespace Go.Proofs
open Go Go.Ev
def R163:Spc:=fun args=>match args with
 | [.int .i64 z]=>some (True,rB (decide (z < -720) || decide (z > 840)))
 | _=>none
def R204:Spc:=fun args=>match args with
 | [.vs [.int .i64 z] 1 _,.fn (.func 163) [] []]=>some (True,rI (if z < -720 ∨ z > 840 then 0 else -1))
 | _=>none
def R162:Spc:=fun args=>match args with
 | [.vs [.int .i64 z] 1 _,.fn (.func 163) [] []]=>some (True,rB (decide (z < -720) || decide (z > 840)))
 | _=>none
noncomputable def Tryz.X162:WCx:=Tryz.B.wcx [(204,R204)]
noncomputable def Tryz.X120:WCx:=Tryz.B.wcx [(162,R162)]
theorem w15 (n:Int) (Q:CR→Prop):wpF Tryz.X0 115 [I n] Q =
 (cIf (decide (n ≥ (0:Int))) (Q (CR.ret (Bo (decide (n ≤ (144001439:Int)))))) (Q (CR.ret (Bo false)))):=by kernel_rfl
theorem w13 (n a b:Int) (Q:CR→Prop):wpF Tryz.X0 118 [I n,I a,I b] Q =
 (cIf (decide (n ≥ a)) (Q (CR.ret (Bo (decide (n ≤ b))))) (Q (CR.ret (Bo false)))):=by kernel_rfl
theorem w10 (n:Int) (Q:CR→Prop):wpF Tryz.X0 121 [I n] Q =
 (cIf (decide (n ≥ (-720:Int))) (Q (CR.ret (Bo (decide (n ≤ (840:Int)))))) (Q (CR.ret (Bo false)))):=by kernel_rfl
theorem v84 (n z:Int) (Q:CR→Prop):wpF Tryz.X0 84 [I n,I z] Q =
 (Q (CR.ret (AV.tup [I (IntKind.i64.wrap (IntKind.i64.wrap ((IntKind.i64.wrap (IntKind.i64.wrap (n + z) + (1440:Int))).tdiv (1440:Int)) - (1:Int))),I ((IntKind.i64.wrap (IntKind.i64.wrap (n + z) + (1440:Int))).tmod (1440:Int))]))):=by kernel_rfl
theorem v89 (n:Int) (Q:CR→Prop):wpF Tryz.X0 89 [I n] Q =
 (cIf (decide (n.tmod (1440:Int) < (0:Int))) (Q (CR.ret (AV.tup [I (IntKind.i64.wrap (IntKind.i64.wrap (n.tdiv (1440:Int)) - (1:Int))),I (IntKind.i64.wrap (n.tmod (1440:Int) + (1440:Int)))]))) (Q (CR.ret (AV.tup [I (IntKind.i64.wrap (n.tdiv (1440:Int))),I (n.tmod (1440:Int))])))):=by kernel_rfl
theorem w1u (z:Int) (Q:CR→Prop):wpF Tryz.X0 163 [I z] Q =
 (cIf (decide (z < (-720:Int))) (Q (CR.ret (Bo true))) (Q (CR.ret (Bo (decide (z > (840:Int))))))):=by kernel_rfl
theorem v162 (z:Int) (tk:Tok) (Q:CR→Prop):wpF Tryz.X162 162 [.vs [I z] 1 tk,.fn (.func 163) [] []] Q =
 (True∧Q (CR.ret (Bo (decide ((if z < (-720:Int) ∨ z > (840:Int) then (0:Int) else (-1:Int)) ≥ (0:Int)))))):=by kernel_rfl
theorem w11 (z:Int) (tk:Tok) (Q:CR→Prop):wpF Tryz.X120 120 [.vs [I z] 1 tk] Q =
 (True∧Q (CR.ret (Bo !(decide (z < (-720:Int)) || decide (z > (840:Int)))))):=by kernel_rfl
end Go.Proofs
set_option maxRecDepth 100000
set_option linter.unusedVariables false
namespace Go.Proofs
open Go Go.Ev
theorem wrap_mid {n:Int} (h:-9000000000 ≤ n) (h2:n ≤ 9000000000):IntKind.i64.wrap n = n:=by
 simp [IntKind.wrap,IntKind.signed,IntKind.bits]; omega
def R115:Spc:=fun args=>match args with
 | [.int .i64 n]=>some (True,rB (decide (0 ≤ n) && decide (n ≤ 144001439)))
 | _=>none
def R118:Spc:=fun args=>match args with
 | [.int .i64 n,.int .i64 a,.int .i64 b]=>some (True,rB (decide (a ≤ n) && decide (n ≤ b)))
 | _=>none
def R121:Spc:=fun args=>match args with
 | [.int .i64 n]=>some (True,rB (decide (-720 ≤ n) && decide (n ≤ 840)))
 | _=>none
def R120:Spc:=fun args=>match args with
 | [.vs [.int .i64 n] 1 _]=>some (True,rB (decide (-720 ≤ n) && decide (n ≤ 840)))
 | _=>none
def R89:Spc:=fun args=>match args with
 | [.int .i64 n]=>some (-1000000000 ≤ n∧n ≤ 1000000000,.ret (.tup [I (n / 1440),I (n % 1440)]))
 | _=>none
def R84:Spc:=fun args=>match args with
 | [.int .i64 n,.int .i64 z]=>some (0 ≤ n∧n ≤ 1000000000∧-1440 ≤ z∧z ≤ 1440,.ret (.tup [I ((n + z) / 1440),I ((n + z) % 1440)]))
 | _=>none
theorem x6e:Ct Tryz.B.c0 115 R115:=Ct.of_wp (lm:=[]) Tryz.bok (Cts.nil _) ⟨_,_,Tryz.func115,rfl⟩ fun args D r hR hD=>by
 unfold R115 at hR
 split at hR <;> cases hR
 refine ⟨rfl,(w15 _ _).mpr ?_⟩
 repeat' (refine z0i (fun h=>?_) (fun h=>?_))
 all_goals (apply y06; simp at *; omega)
theorem y7s:Ct Tryz.B.c0 118 R118:=Ct.of_wp (lm:=[]) Tryz.bok (Cts.nil _) ⟨_,_,Tryz.func118,rfl⟩ fun args D r hR hD=>by
 unfold R118 at hR
 split at hR <;> cases hR
 refine ⟨rfl,(w13 _ _ _ _).mpr ?_⟩
 repeat' (refine z0i (fun h=>?_) (fun h=>?_))
 all_goals (apply y06; simp at *; omega)
theorem w08:Ct Tryz.B.c0 121 R121:=Ct.of_wp (lm:=[]) Tryz.bok (Cts.nil _) ⟨_,_,Tryz.func121,rfl⟩ fun args D r hR hD=>by
 unfold R121 at hR
 split at hR <;> cases hR
 refine ⟨rfl,(w10 _ _).mpr ?_⟩
 repeat' (refine z0i (fun h=>?_) (fun h=>?_))
 all_goals (apply y06; simp at *; omega)
theorem x9r:Ct Tryz.B.c0 89 R89:=Ct.of_wp (lm:=[]) Tryz.bok (Cts.nil _) ⟨_,_,Tryz.func89,rfl⟩ fun args D r hR hD=>by
 unfold R89 at hR
 split at hR <;> cases hR
 rename_i n
 obtain ⟨h1,h2⟩:=hD
 refine ⟨rfl,(v89 _ _).mpr ?_⟩
 have e1:n.tdiv 1440 = if 0 ≤ n ∨ n % 1440 = 0 then n / 1440 else n / 1440 + 1:=by
  rw [Int.tdiv_eq_ediv,show Int.sign 1440 = 1 from rfl]
  have hd:(1440:Int) ∣ n ↔ n % 1440 = 0:=Int.dvd_iff_emod_eq_zero
  by_cases h:0 ≤ n ∨ n % 1440 = 0
  ·rw [if_pos h,if_pos (h.imp id hd.2)]; omega
  ·rw [if_neg h,if_neg (fun q=>h (q.imp id hd.1))]
 have e2:n.tmod 1440 = n - 1440 * n.tdiv 1440:=by have:=Int.tmod_add_mul_tdiv n 1440; omega
 have e3:n = 1440 * (n / 1440) + n % 1440:=by omega
 refine z0i (fun h=>?_) (fun h=>?_)
 ·have h:n.tmod 1440 < 0:=of_decide_eq_true h
  have f1:IntKind.i64.wrap (IntKind.i64.wrap (n.tdiv 1440) - 1) = n / 1440:=by
   rw [e2,e1] at h
   rw [e1]
   split at h
   ·omega
   ·rename_i hc
    rw [if_neg hc,wrap_mid (n:=n / 1440 + 1) (by omega) (by omega),wrap_mid (by omega) (by omega)]; omega
  have f2:IntKind.i64.wrap (n.tmod 1440 + 1440) = n % 1440:=by
   rw [e2,e1] at h ⊢
   split at h
   ·omega
   ·rename_i hc
    rw [if_neg hc,wrap_mid (by omega) (by omega)]; omega
  show CR.ret (AV.tup [I _,I _]) = CR.ret (AV.tup [I _,I _])
  rw [f1,f2]
 ·have h:¬ n.tmod 1440 < 0:=of_decide_eq_false h
  have f1:IntKind.i64.wrap (n.tdiv 1440) = n / 1440:=by
   rw [e2,e1] at h
   rw [e1]
   split at h
   ·rename_i hc
    rw [if_pos hc,wrap_mid (by omega) (by omega)]
   ·omega
  have f2:n.tmod 1440 = n % 1440:=by
   rw [e2,e1] at h ⊢
   split at h
   ·rename_i hc
    rw [if_pos hc]; omega
   ·omega
  show CR.ret (AV.tup [I _,I _]) = CR.ret (AV.tup [I _,I _])
  rw [f1,f2]
end Go.Proofs
set_option maxRecDepth 100000
set_option linter.unusedVariables false
namespace Go.Proofs
open Go Go.Ev
theorem x35 {n z:Int} (h1:0 ≤ n) (h2:n ≤ 1000000000) (h3:-1440 ≤ z) (h4:z ≤ 1440):IntKind.i64.wrap (IntKind.i64.wrap (n + z) + 1440) = n + z + 1440:=by
 rw [wrap_mid (n:=n + z) (by omega) (by omega)]
 exact wrap_mid (by omega) (by omega)
theorem x34 {n z:Int} (h1:0 ≤ n) (h2:n ≤ 1000000000) (h3:-1440 ≤ z) (h4:z ≤ 1440):IntKind.i64.wrap (IntKind.i64.wrap ((n + z + 1440).tdiv 1440) - 1) = (n + z) / 1440:=by
 have e:(n + z + 1440).tdiv 1440 = (n + z + 1440) / 1440:=Int.tdiv_eq_ediv_of_nonneg (by omega)
 rw [e]
 generalize hq:(n + z + 1440) / 1440 = q
 have hq1:0 ≤ q:=by omega
 have hq2:q ≤ 1000000000:=by omega
 have hq3:(n + z) / 1440 = q - 1:=by omega
 rw [hq3,wrap_mid (n:=q) (by omega) (by omega),wrap_mid (n:=q - 1) (by omega) (by omega)]
theorem x33 {n z:Int} (h1:0 ≤ n) (h3:-1440 ≤ z):(n + z + 1440).tmod 1440 = (n + z) % 1440:=by
 rw [Int.tmod_eq_emod_of_nonneg (by omega)]
 omega
theorem r84 {n z a b:Int} (h1:0 ≤ n) (h2:n ≤ 1000000000) (h3:-1440 ≤ z) (h4:z ≤ 1440) (ha:a = IntKind.i64.wrap (IntKind.i64.wrap ((IntKind.i64.wrap (IntKind.i64.wrap (n + z) + (1440:Int))).tdiv (1440:Int)) - (1:Int))) (hb:b = (IntKind.i64.wrap (IntKind.i64.wrap (n + z) + (1440:Int))).tmod (1440:Int)):CR.ret (AV.tup [I a,I b]) = CR.ret (AV.tup [I ((n + z) / 1440),I ((n + z) % 1440)]):=by
 rw [x35 h1 h2 h3 h4] at ha hb
 rw [x34 h1 h2 h3 h4] at ha
 rw [x33 h1 h3] at hb
 rw [ha,hb]
theorem w2t:Ct Tryz.B.c0 84 R84:=Ct.of_wp (lm:=[]) Tryz.bok (Cts.nil _) ⟨_,_,Tryz.func84,rfl⟩ fun args D r hR hD=>by
 unfold R84 at hR
 split at hR
 rotate_left
 ·exact absurd hR (by simp)
 rename_i n z
 have hh:=Option.some.inj hR
 have hD':=congrArg Prod.fst hh
 have hr:=congrArg Prod.snd hh
 dsimp only at hD' hr
 rw [← hD'] at hD
 obtain ⟨h1,h2,h3,h4⟩:=hD
 refine ⟨rfl,?_⟩
 rw [← hr]
 rw [show z0e 0 [AV.int IntKind.i64 n,AV.int IntKind.i64 z] = [I n,I z] from rfl]
 show wpF Tryz.X0 84 [I n,I z] _
 rw [v84]
 exact r84 h1 h2 h3 h4 rfl rfl
theorem x1i:Ct Tryz.B.c0 163 R163:=Ct.of_wp (lm:=[]) Tryz.bok (Cts.nil _) ⟨_,_,Tryz.func163,rfl⟩ fun args D r hR hD=>by
 unfold R163 at hR
 split at hR <;> cases hR
 refine ⟨rfl,(w1u _ _).mpr ?_⟩
 repeat' (refine z0i (fun h=>?_) (fun h=>?_))
 all_goals (apply y06; simp at *; omega)
theorem w02 (h204:Ct Tryz.B.c0 204 R204):Ct Tryz.B.c0 162 R162:=Ct.of_wp (lm:=[]) Tryz.bok ((Cts.nil _).cons h204) ⟨_,_,Tryz.func162,rfl⟩ fun args D r hR hD=>by
 unfold R162 at hR
 split at hR <;> cases hR
 refine ⟨rfl,(v162 _ _ _).mpr ⟨trivial,?_⟩⟩
 apply y06
 split <;> simp <;> omega
theorem w09 (h162:Ct Tryz.B.c0 162 R162):Ct Tryz.B.c0 120 R120:=Ct.of_wp (lm:=[]) Tryz.bok ((Cts.nil _).cons h162) ⟨_,_,Tryz.func120,rfl⟩ fun args D r hR hD=>by
 unfold R120 at hR
 split at hR <;> cases hR
 refine ⟨rfl,(w11 _ _ _).mpr ⟨trivial,?_⟩⟩
 apply y06
 simp
end Go.Proofs
set_option maxRecDepth 100000
set_option linter.unusedVariables false
namespace Go.Ev
end Go.Ev
namespace Go.Proofs
open Go Go.Ev
end Go.Proofs
set_option maxRecDepth 100000
set_option linter.unusedVariables false
namespace Go.Ev
theorem x48 {d o z:Int} (hz:-720 ≤ z∧z ≤ 840) (ho:0 ≤ o∧o ≤ 1439) (hd:-1 ≤ d∧d ≤ 100001):IntKind.i64.wrap (IntKind.i64.wrap (IntKind.i64.wrap (1440 * d) + o) - z) = 1440 * d + o - z:=by
 rw [Go.Proofs.wrap_mid (n:=1440 * d) (by omega) (by omega),Go.Proofs.wrap_mid (n:=1440 * d + o) (by omega) (by omega),Go.Proofs.wrap_mid (by omega) (by omega)]
end Go.Ev
namespace Go.Proofs
open Go Go.Ev
end Go.Proofs
set_option maxRecDepth 100000
set_option linter.unusedVariables false
namespace Go.Proofs
open Go Go.Ev
def x23:List (Nat × List Nat):=[(2,[0,1,7,8]),(7,[])]
noncomputable def Tryz.X204b:WCx:=Tryz.B.wcx [(163,R163)] x23 [] [] []
theorem w0m (z:Int) (tk:Tok) (Q:CR→Prop):wpF Tryz.X204b 204 [.vs [I z] 1 tk,.fn (.func 163) [] []] Q =
 (z0l Tryz.X204b (cd Tryz.X204b.P 204 [1,0,1,0,0]) ([AV.vs [I z] 1 tk,AV.fn (Fn.func 163) [] [],X,X,X,X,X,I 1,I 0]++List.replicate 10 X) (St.mk [] [] []) (z0g 0 (z0k Tryz.X204b (cd Tryz.X204b.P 204 [1,1]) (z0q Tryz.X204b 204 Q)))):=by kernel_rfl
theorem x2b (z:Int) (tk:Tok) (i:Nat) (Q:CR→Prop):wpC Tryz.X204b (cd PP 204 [1,0,1,0,0]) ([.vs [I z] 1 tk,.fn (.func 163) [] [],X,X,X,X,X,I 1,I i]++List.replicate 10 X) ⟨[],[],[]⟩ (z1i Tryz.X204b (cd PP 204 [1,0,1,0,0]) (z0g 0 (z0k Tryz.X204b (cd PP 204 [1,1]) (z0q Tryz.X204b 204 Q)))) =
 (cIf (decide ((↑i:Int) < (1:Int))) (cIf (decide (i < 1)) (cIf (decide (0 < (List.drop (i * 1) [I z]).length)) (cIf (z0t (AV.ofVal (Value.int IntKind.i64 (0:Int))) ((List.drop (i * 1) [I z]).getD 0 X)) (True∧cIf (decide (cI (List.drop (i * 1) [I z]) 0 < (-720:Int)) || decide (cI (List.drop (i * 1) [I z]) 0 > (840:Int))) (Q (CR.ret (I i))) (z0l Tryz.X204b (cd PP 204 [1,0,1,0,0]) ([AV.vs [I z] 1 tk,AV.fn (Fn.func 163) [] [],X,X,X,X,X,I 1,I (IntKind.i64.wrap ((↑i:Int) + (1:Int)))]++List.replicate 10 X) (St.mk [] [] []) (z0g 0 (z0k Tryz.X204b (cd PP 204 [1,1]) (z0q Tryz.X204b 204 Q))))) False) False) False) (Q (CR.ret (I (-1))))):=by kernel_rfl
end Go.Proofs
set_option maxRecDepth 100000
set_option linter.unusedVariables false
namespace Go.Proofs
open Go Go.Ev
theorem w01:Ct Tryz.B.c0 204 R204:=Ct.of_wp (lm:=x23) Tryz.bok ((Cts.nil _).cons x1i) ⟨_,_,Tryz.func204,rfl⟩ fun args D r hR hD=>by
 unfold R204 at hR
 split at hR <;> cases hR
 rename_i z tk
 refine ⟨rfl,?_⟩
 rw [show z0e 0 [AV.vs [AV.int IntKind.i64 z] 1 tk,AV.fn (Fn.func 163) [] []] = [.vs [I z] 1 (tk.scrub 0),.fn (.func 163) [] []] from rfl]
 refine (w0m z _ _).mpr ?_
 refine z0y Tryz.bok ((Cts.nil _).cons x1i) ((x2b z _ 0 _).mpr ?_)
 refine z0h (by simp) (z0h (by simp) (z0h (by simp) (z0h rfl ⟨trivial,?_⟩)))
 have e:cI (List.drop (0 * 1) [I z]) 0 = z:=rfl
 rw [e]
 refine z0i (fun h=>?_) (fun h=>?_)
 ·have h:z < -720 ∨ z > 840:=by simpa using h
  rw [if_pos h]
  rfl
 ·have h:¬ (z < -720 ∨ z > 840):=by simp at h; omega
  rw [if_neg h]
  refine z0y Tryz.bok ((Cts.nil _).cons x1i) ((x2b z _ 1 _).mpr ?_)
  exact z02 (by simp) rfl
theorem x9u:Ct Tryz.B.c0 162 R162:=w02 w01
theorem x9v:Ct Tryz.B.c0 120 R120:=w09 x9u
end Go.Proofs
