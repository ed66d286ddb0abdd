/- Contracts of functions of the program and of the reference. -/
import Derived.Test.YtljjkomdibkjpaaGreatDoorK2
import Derived.Laws.RangeAny
set_option linter.unusedVariables false
set_option linter.unusedSimpArgs false
set_option maxRecDepth 100000
set_option linter.unusedVariables false
namespace Go.Proofs
open Go Go.Ev
def R118:Spc:=fun args=>match args with
 | [.int .i32 c]=>some (True,rB (!z3o c))
 | _=>none
def njL:List UInt8→Int→Int
 | [],_=>-1
 | c :: l,i=>if z3o (c.toNat:Int) = true then njL l (i + 1) else i
def R197:Spc:=fun args=>match args with
 | [.str s,.fn (.func 118) [] [],.bool true]=>some (s.length ≤ 9223372036854775807,rI (njL s 0))
 | _=>none
def R155:Spc:=fun args=>match args with
 | [.str s,.fn (.func 118) [] []]=>some (s.length ≤ 9223372036854775807,rI (njL s 0))
 | _=>none
def R117:Spc:=fun args=>match args with
 | [.str s,.fn (.func 118) [] []]=>some (s.length ≤ 9223372036854775807,rB (decide (njL s 0 ≥ 0)))
 | _=>none
noncomputable def Tryz.X155:WCx:=Tryz.B.wcx [(197,R197)]
noncomputable def Tryz.X117:WCx:=Tryz.B.wcx [(155,R155)]
noncomputable def Tryz.X72:WCx:=Tryz.B.wcx [(117,R117)]
noncomputable def Tryz.X118:WCx:=Tryz.B.wcx [(97,R97)]
noncomputable def Tryz.X197:WCx:=Tryz.B.wcx [(118,R118)] [(2,[1,2,10]),(6,[])]
theorem w65 (c:Int) (Q:CR→Prop):wpF Tryz.X118 118 [.int .i32 c] Q =
 (True∧Q (CR.ret (Bo !z3o c))):=by kernel_rfl
theorem w6p (s:List UInt8) (Q:CR→Prop):wpF Tryz.X197 197 [.str s,.fn (.func 118) [] [],.bool true] Q =
 (z0l Tryz.X197 (cd Tryz.X197.P 197 [1,0,1,0,0]) ([X,AV.fn (Fn.func 118) [] [],Bo true,X,X,X,X,X,X,X,AV.ptr 0 0]++List.replicate 10 X) (St.mk [some (HB.iter s 0)] [] []) (z0d 0 (z0i Tryz.X197 (cd Tryz.X197.P 197 [1,1]) (z0f Tryz.X197 197 Q)))):=by kernel_rfl
theorem x7i (s:List UInt8) (i:Nat) (Q:CR→Prop):wpC Tryz.X197 (cd PP 197 [1,0,1,0,0]) ([X,.fn (.func 118) [] [],.bool true,X,X,X,X,X,X,X,.ptr 0 0]++List.replicate 10 X) ⟨[some (.iter s i)],[],[]⟩ (z0r Tryz.X197 (cd PP 197 [1,0,1,0,0]) (z0d 0 (z0i Tryz.X197 (cd PP 197 [1,1]) (z0f Tryz.X197 197 Q)))) =
 (cIf (decide (i < s.length)) (True∧cIf ((!z3o (↑(Utf8.decode (ByteArray.mk s.toArray) i).fst:Int)) == true) (Q (CR.ret (I i))) (z0l Tryz.X197 (cd PP 197 [1,0,1,0,0]) ([X,AV.fn (Fn.func 118) [] [],Bo true,X,X,X,X,X,X,X,AV.ptr 0 0]++List.replicate 10 X) (St.mk [some (HB.iter s (i + (Utf8.decode (ByteArray.mk s.toArray) i).snd))] [] []) (z0d 0 (z0i Tryz.X197 (cd PP 197 [1,1]) (z0f Tryz.X197 197 Q))))) (Q (CR.ret (I (-1))))):=by kernel_rfl
theorem w6w (s:List UInt8) (Q:CR→Prop):wpF Tryz.X155 155 [.str s,.fn (.func 118) [] []] Q =
 (s.length ≤ 9223372036854775807∧Q (CR.ret (I (njL s (0:Int))))):=by kernel_rfl
theorem v117 (s:List UInt8) (Q:CR→Prop):wpF Tryz.X117 117 [.str s,.fn (.func 118) [] []] Q =
 (s.length ≤ 9223372036854775807∧Q (CR.ret (Bo (decide (njL s (0:Int) ≥ (0:Int)))))):=by kernel_rfl
theorem v72 (s:List UInt8) (Q:CR→Prop):wpF Tryz.X72 72 [.str s] Q =
 (cIf (s == (ByteArray.mk #[]).data.toList) (Q (CR.ret (Bo false))) (cIf (decide ((↑s.length:Int) > (24:Int))) (Q (CR.ret (Bo false))) (cIf (decide (0 < s.length)) (cIf (decide ((↑(s.getD 0 (0:UInt8)).toNat:Int) < (97:Int))) (Q (CR.ret (Bo false))) (cIf (decide (0 < s.length)) (cIf (decide ((↑(s.getD 0 (0:UInt8)).toNat:Int) > (122:Int))) (Q (CR.ret (Bo false))) (s.length ≤ 9223372036854775807∧Q (CR.ret (Bo !decide (njL s (0:Int) ≥ (0:Int)))))) False)) False))):=by kernel_rfl
end Go.Proofs
set_option maxRecDepth 100000
set_option linter.unusedVariables false
namespace Go.Proofs
open Go Go.Ev
theorem x70:Ct Tryz.B.c0 118 R118:=Ct.of_wp (lm:=[]) Tryz.bok ((Cts.nil _).cons w71) ⟨_,_,Tryz.func118,rfl⟩ fun args D r hR hD=>by
 unfold R118 at hR
 split at hR <;> cases hR
 exact ⟨rfl,(w65 _ _).mpr ⟨trivial,rfl⟩⟩
theorem x9f {s:List UInt8} {i:Nat} {x:UInt8} (hx:s[i]? = some x) (h:x.toNat < 128):Utf8.decode (ByteArray.mk s.toArray) i = (x.toNat,1):=by
 have hlt:=(List.getElem?_eq_some_iff.1 hx).1
 have hg:((ByteArray.mk s.toArray).get! (i + 0)).toNat = x.toNat:=by
  have:(ByteArray.mk s.toArray).get! (i + 0) = x:=by
   simp only [Nat.add_zero,ByteArray.get!]
   rw [List.getElem?_eq_getElem hlt] at hx
   have:s.toArray[i]! = s[i]:=by simp [hlt]
   rw [this]; exact Option.some.inj hx
  rw [this]
 simp only [Utf8.decode,hg,h,if_true]
theorem x6q {s:List UInt8} {i:Nat} {x:UInt8} (hx:s[i]? = some x) (h:¬ x.toNat < 128):128 ≤ (Utf8.decode (ByteArray.mk s.toArray) i).1:=by
 have hlt:=(List.getElem?_eq_some_iff.1 hx).1
 have hs:i < (ByteArray.mk s.toArray).size:=by simpa [ByteArray.size] using hlt
 refine (decode_high (ByteArray.mk s.toArray) i hs ?_).1
 have:(ByteArray.mk s.toArray)[i]'hs = x:=by
  rw [List.getElem?_eq_getElem hlt] at hx
  have h1:=Option.some.inj hx
  rw [← h1]; rfl
 rw [this]; omega
theorem y6l {c:Int} (h:128 ≤ c):z3o c = false:=by simp [z3o]; omega
theorem x8r {s:List UInt8} (hlen:s.length ≤ 9223372036854775807) {Q:CR→Prop}:∀ (d i:Nat),s.length - i = d→i ≤ s.length→Q (rI (njL (s.drop i) i)) →
  z0l Tryz.X197 (cd PP 197 [1,0,1,0,0]) ([X,.fn (.func 118) [] [],.bool true,X,X,X,X,X,X,X,.ptr 0 0]++List.replicate 10 X) ⟨[some (.iter s i)],[],[]⟩ (z0d 0 (z0i Tryz.X197 (cd PP 197 [1,1]) (z0f Tryz.X197 197 Q))):=by
 have c197:Cts Tryz.B [(118,R118)]:=(Cts.nil _).cons x70
 intro d
 induction d with
 | zero =>
  intro i hd hi hQ
  have hi':i = s.length:=by omega
  subst hi'
  refine z1b Tryz.bok c197 ((x7i _ _ Q).mpr (z0p (by simp) ?_))
  simpa [njL] using hQ
 | succ d ih =>
  intro i hd hi hQ
  have hlt:i < s.length:=by omega
  obtain ⟨x,hx,hdr⟩:=z1p hlt
  rw [hdr] at hQ
  refine z1b Tryz.bok c197 ((x7i _ _ Q).mpr (z0b (by simpa using hlt) ⟨trivial,?_⟩))
  by_cases hl:x.toNat < 128
  ·rw [x9f hx hl]
   refine z0h (fun h=>?_) (fun h=>?_)
   ·have h:z3o (x.toNat:Int) = false:=by simpa using h
    simpa [njL,h] using hQ
   ·have h:z3o (x.toNat:Int) = true:=by simpa using h
    refine ih (i + 1) (by omega) (by omega) ?_
    simpa [njL,h] using hQ
  ·have hh:=x6q hx hl
   have h1:z3o ((Utf8.decode (ByteArray.mk s.toArray) i).1:Int) = false:=y6l (by omega)
   have h2:z3o (x.toNat:Int) = false:=y6l (by omega)
   refine z0b (by simp [h1]) ?_
   simpa [njL,h2] using hQ
theorem w3z:Ct Tryz.B.c0 197 R197:=Ct.of_wp (lm:=[(2,[1,2,10]),(6,[])]) Tryz.bok ((Cts.nil _).cons x70) ⟨_,_,Tryz.func197,rfl⟩ fun args D r hR hD=>by
 unfold R197 at hR
 split at hR <;> cases hR
 exact ⟨rfl,(w6p _ _).mpr (x8r hD _ 0 rfl (Nat.zero_le _) rfl)⟩
theorem w4a:Ct Tryz.B.c0 155 R155:=Ct.of_wp (lm:=[]) Tryz.bok ((Cts.nil _).cons w3z) ⟨_,_,Tryz.func155,rfl⟩ fun args D r hR hD=>by
 unfold R155 at hR
 split at hR <;> cases hR
 exact ⟨rfl,(w6w _ _).mpr ⟨hD,rfl⟩⟩
theorem w4j:Ct Tryz.B.c0 117 R117:=Ct.of_wp (lm:=[]) Tryz.bok ((Cts.nil _).cons w4a) ⟨_,_,Tryz.func117,rfl⟩ fun args D r hR hD=>by
 unfold R117 at hR
 split at hR <;> cases hR
 exact ⟨rfl,(v117 _ _).mpr ⟨hD,rfl⟩⟩
theorem x1j:∀ (s:List UInt8) (i:Int),0 ≤ i→(0 ≤ njL s i ↔ ¬ (s.all fun c=>z3o (c.toNat:Int)) = true)
 | [],i,h=>by simp [njL]
 | c :: l,i,h=>by
  simp only [njL]
  split
  ·rename_i hc
   rw [x1j l (i + 1) (by omega)]
   simp [hc]
  ·rename_i hc
   simp [hc,h]
def R72:Spc:=fun args=>match args with
 | [.str s]=>some (s.length ≤ 9223372036854775807,rB (z1s s))
 | _=>none
theorem w76:Ct Tryz.B.c0 72 R72:=Ct.of_wp (lm:=[]) Tryz.bok ((Cts.nil _).cons w4j) ⟨_,_,Tryz.func72,rfl⟩ fun args D r hR hD=>by
 unfold R72 at hR
 split at hR <;> cases hR
 rename_i s
 refine ⟨rfl,(v72 _ _).mpr ?_⟩
 have hnil:(ByteArray.mk #[]).data.toList = ([]:List UInt8):=rfl
 rw [hnil]
 by_cases h0:s = []
 ·subst h0
  exact z0b rfl rfl
 ·have hpos:0 < s.length:=by
   cases s with
   | nil=>exact absurd rfl h0
   | cons a l=>simp
  refine z0p (by simpa using h0) (z0h (fun h1=>?_) (fun h1=>z0b (by simpa using hpos) (z0h (fun h2=>?_) (fun h2=>z0b (by simpa using hpos) (z0h (fun h3=>?_) (fun h3=>⟨hD,?_⟩))))))
  ·apply z2r; simp [z1s] at *; omega
  ·apply z2r; simp [z1s] at *; omega
  ·apply z2r; simp [z1s] at *; omega
  ·apply z2r
   have ha:=x1j s 0 (by omega)
   simp only [z1s,Bool.and_eq_true,decide_eq_true_eq,Bool.not_eq_true',decide_eq_false_iff_not,ge_iff_le]
   rw [ha]
   simp at h1 h2 h3
   constructor
   ·intro hh; exact ⟨⟨⟨⟨by omega,by omega⟩,by simpa using h2⟩,by simpa using h3⟩,Classical.not_not.1 hh⟩
   ·intro hh; exact fun hn=>hn hh.2
end Go.Proofs
set_option maxRecDepth 100000
set_option linter.unusedVariables false
namespace Go.Proofs
open Go Go.Ev
def R200:Spc:=fun args=>match args with
 | [.bool b]=>some (True,rI (y2k b))
 | _=>none
def RV (f:Prf→Int):List AV→Option (Prop × CR):=fun args=>match args with
 | [.agg [.int .i64 a,.int .i64 b,.bool c,.bool d,.bool e,.int .i64 g,.int .i64 h]]=>some (True,rI (f ⟨a,b,c,d,e,g,h⟩))
 | _=>none
noncomputable def Tryz.X161:WCx:=Tryz.B.wcx [(200,R200)]
def l125:List (FuncId × Spc):=[(158,RV (atI 0)),(159,RV (atI 1)),(160,RV (atI 2)),(161,RV (atI 3)),(162,RV (atI 4)),(163,RV (atI 5)),(164,RV (atI 6)),(165,RV (atI 7))]
noncomputable def Tryz.X125:WCx:=Tryz.B.wcx l125
noncomputable def R125:Spc:=fun args=>match args with
 | [.int .u8 a,.agg p]=>some ((∃ q,p = z0a q)∧0 ≤ a∧a ≤ 7,rI (z0g z0a (atI a) 0 p))
 | _=>none
noncomputable def R80:Spc:=fun args=>match args with
 | [.agg l,.agg p,.agg q]=>some ((∃ t,l = z0m t∧wfT t∧shT t = true)∧(∃ a,p = z0a a)∧∃ b,q = z0a b,rB (z0g z0m (fun t=>z0g z0a (fun a=>z0g z0a (fun b=>hoT t a b) false q) false p) false l))
 | _=>none
def w1d:List (Nat × List Nat):=[(4,[3,4,5,7]),(20,[3,4,5,81,82,83]),(25,[3])]
noncomputable def Tryz.X80 (m:Nat):WCx:=Tryz.B.wcx [(80,R80.below m),(125,R125)] w1d [] [4] [(20,3)]
theorem w6n (b:Bool) (Q:CR→Prop):wpF Tryz.X0 200 [Bo b] Q =
 (cIf b (Q (CR.ret (I 1))) (Q (CR.ret (I 0)))):=by kernel_rfl
theorem w6u (p:Prf) (Q:CR→Prop):wpF Tryz.X161 158 [.agg (z0a p)] Q =
 (Q (CR.ret (I 0))):=by kernel_rfl
theorem v159 (p:Prf) (Q:CR→Prop):wpF Tryz.X161 159 [.agg (z0a p)] Q =
 (Q (CR.ret (I p.cl))):=by kernel_rfl
theorem v160 (p:Prf) (Q:CR→Prop):wpF Tryz.X161 160 [.agg (z0a p)] Q =
 (Q (CR.ret (I p.vi))):=by kernel_rfl
theorem w6t (p:Prf) (Q:CR→Prop):wpF Tryz.X161 161 [.agg (z0a p)] Q =
 (True∧Q (CR.ret (I (y2k p.ho)))):=by kernel_rfl
theorem v162 (p:Prf) (Q:CR→Prop):wpF Tryz.X161 162 [.agg (z0a p)] Q =
 (True∧Q (CR.ret (I (y2k p.de)))):=by kernel_rfl
theorem w6s (p:Prf) (Q:CR→Prop):wpF Tryz.X161 163 [.agg (z0a p)] Q =
 (True∧Q (CR.ret (I (y2k p.mo)))):=by kernel_rfl
theorem v164 (p:Prf) (Q:CR→Prop):wpF Tryz.X161 164 [.agg (z0a p)] Q =
 (Q (CR.ret (I p.cr))):=by kernel_rfl
theorem w6r (p:Prf) (Q:CR→Prop):wpF Tryz.X161 165 [.agg (z0a p)] Q =
 (Q (CR.ret (I p.le))):=by kernel_rfl
theorem w0q (p:Prf) (Q:CR→Prop):wpF Tryz.X125 125 [U 0,.agg (z0a p)] Q =
 (True∧St.mk [some (HB.cells (z0a p) 40),some (HB.cells [AV.fn (Fn.func 158) [] [],AV.fn (Fn.func 159) [] [],AV.fn (Fn.func 160) [] [],AV.fn (Fn.func 161) [] [],AV.fn (Fn.func 162) [] [],AV.fn (Fn.func 163) [] [],AV.fn (Fn.func 164) [] [],AV.fn (Fn.func 165) [] []] 195)] [] [1] = St.mk [some (HB.cells (z0a p) 40),some (HB.cells [AV.fn (Fn.func 158) [] [],AV.fn (Fn.func 159) [] [],AV.fn (Fn.func 160) [] [],AV.fn (Fn.func 161) [] [],AV.fn (Fn.func 162) [] [],AV.fn (Fn.func 163) [] [],AV.fn (Fn.func 164) [] [],AV.fn (Fn.func 165) [] []] 195)] [] [1]∧Q (CR.ret (I (atI (0:Int) (Prf.mk p.cl p.vi p.ho p.de p.mo p.cr p.le))))):=by kernel_rfl
theorem w0p (p:Prf) (Q:CR→Prop):wpF Tryz.X125 125 [U 1,.agg (z0a p)] Q =
 (True∧St.mk [some (HB.cells (z0a p) 40),some (HB.cells [AV.fn (Fn.func 158) [] [],AV.fn (Fn.func 159) [] [],AV.fn (Fn.func 160) [] [],AV.fn (Fn.func 161) [] [],AV.fn (Fn.func 162) [] [],AV.fn (Fn.func 163) [] [],AV.fn (Fn.func 164) [] [],AV.fn (Fn.func 165) [] []] 195)] [] [1] = St.mk [some (HB.cells (z0a p) 40),some (HB.cells [AV.fn (Fn.func 158) [] [],AV.fn (Fn.func 159) [] [],AV.fn (Fn.func 160) [] [],AV.fn (Fn.func 161) [] [],AV.fn (Fn.func 162) [] [],AV.fn (Fn.func 163) [] [],AV.fn (Fn.func 164) [] [],AV.fn (Fn.func 165) [] []] 195)] [] [1]∧Q (CR.ret (I (atI (1:Int) (Prf.mk p.cl p.vi p.ho p.de p.mo p.cr p.le))))):=by kernel_rfl
theorem w0o (p:Prf) (Q:CR→Prop):wpF Tryz.X125 125 [U 2,.agg (z0a p)] Q =
 (True∧St.mk [some (HB.cells (z0a p) 40),some (HB.cells [AV.fn (Fn.func 158) [] [],AV.fn (Fn.func 159) [] [],AV.fn (Fn.func 160) [] [],AV.fn (Fn.func 161) [] [],AV.fn (Fn.func 162) [] [],AV.fn (Fn.func 163) [] [],AV.fn (Fn.func 164) [] [],AV.fn (Fn.func 165) [] []] 195)] [] [1] = St.mk [some (HB.cells (z0a p) 40),some (HB.cells [AV.fn (Fn.func 158) [] [],AV.fn (Fn.func 159) [] [],AV.fn (Fn.func 160) [] [],AV.fn (Fn.func 161) [] [],AV.fn (Fn.func 162) [] [],AV.fn (Fn.func 163) [] [],AV.fn (Fn.func 164) [] [],AV.fn (Fn.func 165) [] []] 195)] [] [1]∧Q (CR.ret (I (atI (2:Int) (Prf.mk p.cl p.vi p.ho p.de p.mo p.cr p.le))))):=by kernel_rfl
theorem w0n (p:Prf) (Q:CR→Prop):wpF Tryz.X125 125 [U 3,.agg (z0a p)] Q =
 (True∧St.mk [some (HB.cells (z0a p) 40),some (HB.cells [AV.fn (Fn.func 158) [] [],AV.fn (Fn.func 159) [] [],AV.fn (Fn.func 160) [] [],AV.fn (Fn.func 161) [] [],AV.fn (Fn.func 162) [] [],AV.fn (Fn.func 163) [] [],AV.fn (Fn.func 164) [] [],AV.fn (Fn.func 165) [] []] 195)] [] [1] = St.mk [some (HB.cells (z0a p) 40),some (HB.cells [AV.fn (Fn.func 158) [] [],AV.fn (Fn.func 159) [] [],AV.fn (Fn.func 160) [] [],AV.fn (Fn.func 161) [] [],AV.fn (Fn.func 162) [] [],AV.fn (Fn.func 163) [] [],AV.fn (Fn.func 164) [] [],AV.fn (Fn.func 165) [] []] 195)] [] [1]∧Q (CR.ret (I (atI (3:Int) (Prf.mk p.cl p.vi p.ho p.de p.mo p.cr p.le))))):=by kernel_rfl
theorem w0m (p:Prf) (Q:CR→Prop):wpF Tryz.X125 125 [U 4,.agg (z0a p)] Q =
 (True∧St.mk [some (HB.cells (z0a p) 40),some (HB.cells [AV.fn (Fn.func 158) [] [],AV.fn (Fn.func 159) [] [],AV.fn (Fn.func 160) [] [],AV.fn (Fn.func 161) [] [],AV.fn (Fn.func 162) [] [],AV.fn (Fn.func 163) [] [],AV.fn (Fn.func 164) [] [],AV.fn (Fn.func 165) [] []] 195)] [] [1] = St.mk [some (HB.cells (z0a p) 40),some (HB.cells [AV.fn (Fn.func 158) [] [],AV.fn (Fn.func 159) [] [],AV.fn (Fn.func 160) [] [],AV.fn (Fn.func 161) [] [],AV.fn (Fn.func 162) [] [],AV.fn (Fn.func 163) [] [],AV.fn (Fn.func 164) [] [],AV.fn (Fn.func 165) [] []] 195)] [] [1]∧Q (CR.ret (I (atI (4:Int) (Prf.mk p.cl p.vi p.ho p.de p.mo p.cr p.le))))):=by kernel_rfl
theorem w0l (p:Prf) (Q:CR→Prop):wpF Tryz.X125 125 [U 5,.agg (z0a p)] Q =
 (True∧St.mk [some (HB.cells (z0a p) 40),some (HB.cells [AV.fn (Fn.func 158) [] [],AV.fn (Fn.func 159) [] [],AV.fn (Fn.func 160) [] [],AV.fn (Fn.func 161) [] [],AV.fn (Fn.func 162) [] [],AV.fn (Fn.func 163) [] [],AV.fn (Fn.func 164) [] [],AV.fn (Fn.func 165) [] []] 195)] [] [1] = St.mk [some (HB.cells (z0a p) 40),some (HB.cells [AV.fn (Fn.func 158) [] [],AV.fn (Fn.func 159) [] [],AV.fn (Fn.func 160) [] [],AV.fn (Fn.func 161) [] [],AV.fn (Fn.func 162) [] [],AV.fn (Fn.func 163) [] [],AV.fn (Fn.func 164) [] [],AV.fn (Fn.func 165) [] []] 195)] [] [1]∧Q (CR.ret (I (atI (5:Int) (Prf.mk p.cl p.vi p.ho p.de p.mo p.cr p.le))))):=by kernel_rfl
theorem w0k (p:Prf) (Q:CR→Prop):wpF Tryz.X125 125 [U 6,.agg (z0a p)] Q =
 (True∧St.mk [some (HB.cells (z0a p) 40),some (HB.cells [AV.fn (Fn.func 158) [] [],AV.fn (Fn.func 159) [] [],AV.fn (Fn.func 160) [] [],AV.fn (Fn.func 161) [] [],AV.fn (Fn.func 162) [] [],AV.fn (Fn.func 163) [] [],AV.fn (Fn.func 164) [] [],AV.fn (Fn.func 165) [] []] 195)] [] [1] = St.mk [some (HB.cells (z0a p) 40),some (HB.cells [AV.fn (Fn.func 158) [] [],AV.fn (Fn.func 159) [] [],AV.fn (Fn.func 160) [] [],AV.fn (Fn.func 161) [] [],AV.fn (Fn.func 162) [] [],AV.fn (Fn.func 163) [] [],AV.fn (Fn.func 164) [] [],AV.fn (Fn.func 165) [] []] 195)] [] [1]∧Q (CR.ret (I (atI (6:Int) (Prf.mk p.cl p.vi p.ho p.de p.mo p.cr p.le))))):=by kernel_rfl
theorem w0j (p:Prf) (Q:CR→Prop):wpF Tryz.X125 125 [U 7,.agg (z0a p)] Q =
 (True∧St.mk [some (HB.cells (z0a p) 40),some (HB.cells [AV.fn (Fn.func 158) [] [],AV.fn (Fn.func 159) [] [],AV.fn (Fn.func 160) [] [],AV.fn (Fn.func 161) [] [],AV.fn (Fn.func 162) [] [],AV.fn (Fn.func 163) [] [],AV.fn (Fn.func 164) [] [],AV.fn (Fn.func 165) [] []] 195)] [] [1] = St.mk [some (HB.cells (z0a p) 40),some (HB.cells [AV.fn (Fn.func 158) [] [],AV.fn (Fn.func 159) [] [],AV.fn (Fn.func 160) [] [],AV.fn (Fn.func 161) [] [],AV.fn (Fn.func 162) [] [],AV.fn (Fn.func 163) [] [],AV.fn (Fn.func 164) [] [],AV.fn (Fn.func 165) [] []] 195)] [] [1]∧Q (CR.ret (I (atI (7:Int) (Prf.mk p.cl p.vi p.ho p.de p.mo p.cr p.le))))):=by kernel_rfl
theorem v80 (m:Nat) (op attr side n:Int) (l:List AV) (len:Nat) (p q:Prf) (Q:CR→Prop):wpF (Tryz.X80 m) 80 [.agg [U op,U attr,U side,I n,.vs l len .none],.agg (z0a p),.agg (z0a q)] Q =
 (cIf (side == (2:Int)) (z0k (Tryz.X80 m) (cd (Tryz.X80 m).P 80 [1,1,1]) ([X,X,X,AV.ptr 0 0,AV.ptr 1 0,AV.ptr 2 0,X,AV.ptr 3 0]++List.replicate 94 X) (St.mk [some (HB.cells [U op,U attr,U side,I n,AV.vs l len Tok.none] 71),some (HB.cells (z0a p) 40),some (HB.cells (z0a q) 40),some (HB.cells (z0a q) 40)] [] []) (z0f (Tryz.X80 m) 80 Q)) (z0k (Tryz.X80 m) (cd (Tryz.X80 m).P 80 [1,1,1]) ([X,X,X,AV.ptr 0 0,AV.ptr 1 0,AV.ptr 2 0,X,AV.ptr 3 0]++List.replicate 94 X) (St.mk [some (HB.cells [U op,U attr,U side,I n,AV.vs l len Tok.none] 71),some (HB.cells (z0a p) 40),some (HB.cells (z0a q) 40),some (HB.cells (z0a p) 40)] [] []) (z0f (Tryz.X80 m) 80 Q))):=by kernel_rfl
theorem w52 (m:Nat) (op attr side n:Int) (l:List AV) (len:Nat) (p q o:Prf) (Q:CR→Prop):wpC (Tryz.X80 m) (cd PP 80 [1,1,1]) ([X,X,X,.ptr 0 0,.ptr 1 0,.ptr 2 0,X,.ptr 3 0]++List.replicate 94 X) ⟨[some (.cells [U op,U attr,U side,I n,.vs l len .none] 71),some (.cells (z0a p) 40),some (.cells (z0a q) 40),some (.cells (z0a o) 40)],[],[]⟩ (z0f (Tryz.X80 m) 80 Q) =
 (cIf (op == (1:Int)) (Q (CR.ret (Bo true))) (cIf (op == (2:Int)) (((∃ (q:Prf),(z0a p) = z0a q)∧(0:Int) ≤ attr∧attr ≤ (7:Int))∧St.mk [some (HB.cells [U op,U attr,U side,I n,AV.vs l len Tok.none] 71),some (HB.cells (z0a p) 40),some (HB.cells (z0a q) 40),some (HB.cells (z0a o) 40)] [] [] = St.mk [some (HB.cells [U op,U attr,U side,I n,AV.vs l len Tok.none] 71),some (HB.cells (z0a p) 40),some (HB.cells (z0a q) 40),some (HB.cells (z0a o) 40)] [] []∧((∃ (q_1:Prf),(z0a q) = z0a q_1)∧(0:Int) ≤ attr∧attr ≤ (7:Int))∧St.mk [some (HB.cells [U op,U attr,U side,I n,AV.vs l len Tok.none] 71),some (HB.cells (z0a p) 40),some (HB.cells (z0a q) 40),some (HB.cells (z0a o) 40)] [] [] = St.mk [some (HB.cells [U op,U attr,U side,I n,AV.vs l len Tok.none] 71),some (HB.cells (z0a p) 40),some (HB.cells (z0a q) 40),some (HB.cells (z0a o) 40)] [] []∧Q (CR.ret (AV.bool (decide (z0g z0a (atI attr) (0:Int) (z0a p) < z0g z0a (atI attr) (0:Int) (z0a q)))))) (cIf (op == (3:Int)) (((∃ (q:Prf),(z0a p) = z0a q)∧(0:Int) ≤ attr∧attr ≤ (7:Int))∧St.mk [some (HB.cells [U op,U attr,U side,I n,AV.vs l len Tok.none] 71),some (HB.cells (z0a p) 40),some (HB.cells (z0a q) 40),some (HB.cells (z0a o) 40)] [] [] = St.mk [some (HB.cells [U op,U attr,U side,I n,AV.vs l len Tok.none] 71),some (HB.cells (z0a p) 40),some (HB.cells (z0a q) 40),some (HB.cells (z0a o) 40)] [] []∧((∃ (q_1:Prf),(z0a q) = z0a q_1)∧(0:Int) ≤ attr∧attr ≤ (7:Int))∧St.mk [some (HB.cells [U op,U attr,U side,I n,AV.vs l len Tok.none] 71),some (HB.cells (z0a p) 40),some (HB.cells (z0a q) 40),some (HB.cells (z0a o) 40)] [] [] = St.mk [some (HB.cells [U op,U attr,U side,I n,AV.vs l len Tok.none] 71),some (HB.cells (z0a p) 40),some (HB.cells (z0a q) 40),some (HB.cells (z0a o) 40)] [] []∧Q (CR.ret (AV.bool (decide (z0g z0a (atI attr) (0:Int) (z0a p) > z0g z0a (atI attr) (0:Int) (z0a q)))))) (cIf (op == (4:Int)) (((∃ (q:Prf),(z0a p) = z0a q)∧(0:Int) ≤ attr∧attr ≤ (7:Int))∧St.mk [some (HB.cells [U op,U attr,U side,I n,AV.vs l len Tok.none] 71),some (HB.cells (z0a p) 40),some (HB.cells (z0a q) 40),some (HB.cells (z0a o) 40)] [] [] = St.mk [some (HB.cells [U op,U attr,U side,I n,AV.vs l len Tok.none] 71),some (HB.cells (z0a p) 40),some (HB.cells (z0a q) 40),some (HB.cells (z0a o) 40)] [] []∧((∃ (q_1:Prf),(z0a q) = z0a q_1)∧(0:Int) ≤ attr∧attr ≤ (7:Int))∧St.mk [some (HB.cells [U op,U attr,U side,I n,AV.vs l len Tok.none] 71),some (HB.cells (z0a p) 40),some (HB.cells (z0a q) 40),some (HB.cells (z0a o) 40)] [] [] = St.mk [some (HB.cells [U op,U attr,U side,I n,AV.vs l len Tok.none] 71),some (HB.cells (z0a p) 40),some (HB.cells (z0a q) 40),some (HB.cells (z0a o) 40)] [] []∧Q (CR.ret (AV.bool (z0g z0a (atI attr) (0:Int) (z0a p) == z0g z0a (atI attr) (0:Int) (z0a q))))) (cIf (op == (5:Int)) (((∃ (q:Prf),(z0a o) = z0a q)∧(0:Int) ≤ attr∧attr ≤ (7:Int))∧St.mk [some (HB.cells [U op,U attr,U side,I n,AV.vs l len Tok.none] 71),some (HB.cells (z0a p) 40),some (HB.cells (z0a q) 40),some (HB.cells (z0a o) 40)] [] [] = St.mk [some (HB.cells [U op,U attr,U side,I n,AV.vs l len Tok.none] 71),some (HB.cells (z0a p) 40),some (HB.cells (z0a q) 40),some (HB.cells (z0a o) 40)] [] []∧Q (CR.ret (AV.bool (z0g z0a (atI attr) (0:Int) (z0a o) == n)))) (cIf (op == (6:Int)) (((∃ (q:Prf),(z0a o) = z0a q)∧(0:Int) ≤ attr∧attr ≤ (7:Int))∧St.mk [some (HB.cells [U op,U attr,U side,I n,AV.vs l len Tok.none] 71),some (HB.cells (z0a p) 40),some (HB.cells (z0a q) 40),some (HB.cells (z0a o) 40)] [] [] = St.mk [some (HB.cells [U op,U attr,U side,I n,AV.vs l len Tok.none] 71),some (HB.cells (z0a p) 40),some (HB.cells (z0a q) 40),some (HB.cells (z0a o) 40)] [] []∧Q (CR.ret (AV.bool (decide (z0g z0a (atI attr) (0:Int) (z0a o) < n))))) (cIf (op == (7:Int)) (cIf (decide (0 < len)) (cIf (decide (len * 5 = l.length)) (cIf (decide (5 ≤ l.length)) (cIf (like zT (el l 0 5)) (cIf (noHL (St.mk [some (HB.cells [U op,U attr,U side,I n,AV.vs l len Tok.none] 71),some (HB.cells (z0a p) 40),some (HB.cells (z0a q) 40),some (HB.cells (z0a o) 40)] [] []).hs.length ([]++[AV.agg (elT (el l 0 5)),AV.agg (z0a p),AV.agg (z0a q)]++[])) ((((∃ (t:Tst),(elT (el l 0 5)) = z0m t∧wfT t∧shT t = true)∧(∃ (a:Prf),(z0a p) = z0a a)∧∃ (b:Prf),(z0a q) = z0a b)∧z0o ([]++[AV.agg (elT (el l 0 5)),AV.agg (z0a p),AV.agg (z0a q)]++[]) < m)∧St.mk [some (HB.cells [U op,U attr,U side,I n,AV.vs l len Tok.none] 71),some (HB.cells (z0a p) 40),some (HB.cells (z0a q) 40),some (HB.cells (z0a o) 40)] [] [] = St.mk [some (HB.cells [U op,U attr,U side,I n,AV.vs l len Tok.none] 71),some (HB.cells (z0a p) 40),some (HB.cells (z0a q) 40),some (HB.cells (z0a o) 40)] [] []∧Q (CR.ret (AV.bool !z0g z0m (fun (t:Tst)=>z0g z0a (fun (a:Prf)=>z0g z0a (fun (b:Prf)=>hoT t a b) false (z0a q)) false (z0a p)) false (elT (el l 0 5))))) False) False) False) False) False) (cIf (noHL 3 ([X,X,X,AV.ptr 0 0,AV.ptr 1 0,AV.ptr 2 0,X,X,X,X,X,X,X,X,X,X,X,X,X,X,X,X,X,X,X,X,X,X,X,X,X,X,X,X,X,X,X,X,X,X,X,X,X,X,X,X,X,X,X,X,X,X,X,X,X,X,X,X,X,X,X,X,X,X,X,X,X,X,X,X,X,X,X,X,X,X,X,X,X,X,X,AV.vs l len Tok.none,I len,I 0]++List.replicate 18 X)) (cIf ([some (HB.cells [U op,U attr,U side,I n,AV.vs l len Tok.none] 71),some (HB.cells (z0a p) 40),some (HB.cells (z0a q) 40)].all (okBlk 3)) (z0l (Tryz.X80 m) (cd PP 80 [1,1,1,1,0,1,0,0]) ([X,X,X,AV.ptr 0 0,AV.ptr 1 0,AV.ptr 2 0,X,X,X,X,X,X,X,X,X,X,X,X,X,X,X,X,X,X,X,X,X,X,X,X,X,X,X,X,X,X,X,X,X,X,X,X,X,X,X,X,X,X,X,X,X,X,X,X,X,X,X,X,X,X,X,X,X,X,X,X,X,X,X,X,X,X,X,X,X,X,X,X,X,X,X,AV.vs l len Tok.none,I len,I 0]++List.replicate 18 X) (St.mk [some (HB.cells [U op,U attr,U side,I n,AV.vs l len Tok.none] 71),some (HB.cells (z0a p) 40),some (HB.cells (z0a q) 40)] [] []) (z0d 1 (z0i (Tryz.X80 m) (cd PP 80 [1,1,1,1,1]) (z0f (Tryz.X80 m) 80 Q)))) False) False)))))))):=by kernel_rfl
theorem w0a (m:Nat) (op attr side n:Int) (l:List AV) (len i:Nat) (p q:Prf) (Q:CR→Prop):wpC (Tryz.X80 m) (cd PP 80 [1,1,1,1,0,1,0,0]) ([X,X,X,.ptr 0 0,.ptr 1 0,.ptr 2 0]++List.replicate 75 X++[.vs l len .none,I len,I i]++List.replicate 18 X) ⟨[some (.cells [U op,U attr,U side,I n,.vs l len .none] 71),some (.cells (z0a p) 40),some (.cells (z0a q) 40)],[],[]⟩ (z0r (Tryz.X80 m) (cd PP 80 [1,1,1,1,0,1,0,0]) (z0d 1 (z0i (Tryz.X80 m) (cd PP 80 [1,1,1,1,1]) (z0f (Tryz.X80 m) 80 Q)))) =
 (cIf (decide ((↑i:Int) < (↑len:Int))) (cIf (decide (i < len)) (cIf (decide (len * 5 = l.length)) (cIf (decide (5 ≤ (List.drop (i * 5) l).length)) (cIf (like zT (el (List.drop (i * 5) l) 0 5)) (cIf (noHL (St.mk [some (HB.cells [U op,U attr,U side,I n,AV.vs l len Tok.none] 71),some (HB.cells (z0a p) 40),some (HB.cells (z0a q) 40),some (HB.cells (elT (el (List.drop (i * 5) l) 0 5)) 71)] [] [3]).hs.length ([]++[AV.agg (elT (el (List.drop (i * 5) l) 0 5)),AV.agg (z0a p),AV.agg (z0a q)]++[])) ((((∃ (t:Tst),(elT (el (List.drop (i * 5) l) 0 5)) = z0m t∧wfT t∧shT t = true)∧(∃ (a:Prf),(z0a p) = z0a a)∧∃ (b:Prf),(z0a q) = z0a b)∧z0o ([]++[AV.agg (elT (el (List.drop (i * 5) l) 0 5)),AV.agg (z0a p),AV.agg (z0a q)]++[]) < m)∧St.mk [some (HB.cells [U op,U attr,U side,I n,AV.vs l len Tok.none] 71),some (HB.cells (z0a p) 40),some (HB.cells (z0a q) 40),some (HB.cells (elT (el (List.drop (i * 5) l) 0 5)) 71)] [] [3] = St.mk [some (HB.cells [U op,U attr,U side,I n,AV.vs l len Tok.none] 71),some (HB.cells (z0a p) 40),some (HB.cells (z0a q) 40),some (HB.cells (elT (el (List.drop (i * 5) l) 0 5)) 71)] [] [3]∧cIf (z0g z0m (fun (t:Tst)=>z0g z0a (fun (a:Prf)=>z0g z0a (fun (b:Prf)=>hoT t a b) false (z0a q)) false (z0a p)) false (elT (el (List.drop (i * 5) l) 0 5)) == (op == (9:Int))) (Q (CR.ret (Bo (op == (9:Int))))) (cIf (noHL 3 ([X,X,X,AV.ptr 0 0,AV.ptr 1 0,AV.ptr 2 0,X,X,X,X,X,X,X,X,X,X,X,X,X,X,X,X,X,X,X,X,X,X,X,X,X,X,X,X,X,X,X,X,X,X,X,X,X,X,X,X,X,X,X,X,X,X,X,X,X,X,X,X,X,X,X,X,X,X,X,X,X,X,X,X,X,X,X,X,X,X,X,X,X,X,X,AV.vs l len Tok.none,I len,I (IntKind.i64.wrap ((↑i:Int) + (1:Int)))]++List.replicate 18 X)) (cIf ([some (HB.cells [U op,U attr,U side,I n,AV.vs l len Tok.none] 71),some (HB.cells (z0a p) 40),some (HB.cells (z0a q) 40)].all (okBlk 3)) (z0l (Tryz.X80 m) (cd PP 80 [1,1,1,1,0,1,0,0]) ([X,X,X,AV.ptr 0 0,AV.ptr 1 0,AV.ptr 2 0,X,X,X,X,X,X,X,X,X,X,X,X,X,X,X,X,X,X,X,X,X,X,X,X,X,X,X,X,X,X,X,X,X,X,X,X,X,X,X,X,X,X,X,X,X,X,X,X,X,X,X,X,X,X,X,X,X,X,X,X,X,X,X,X,X,X,X,X,X,X,X,X,X,X,X,AV.vs l len Tok.none,I len,I (IntKind.i64.wrap ((↑i:Int) + (1:Int)))]++List.replicate 18 X) (St.mk [some (HB.cells [U op,U attr,U side,I n,AV.vs l len Tok.none] 71),some (HB.cells (z0a p) 40),some (HB.cells (z0a q) 40)] [] []) (z0d 1 (z0i (Tryz.X80 m) (cd PP 80 [1,1,1,1,1]) (z0f (Tryz.X80 m) 80 Q)))) False) False)) False) False) False) False) False) (Q (CR.ret (Bo (op == (8:Int)))))):=by kernel_rfl
end Go.Proofs
set_option maxRecDepth 100000
set_option linter.unusedVariables false
namespace Go.Proofs
open Go Go.Ev
theorem w3y:Ct Tryz.B.c0 200 R200:=Ct.of_wp (lm:=[]) Tryz.bok (Cts.nil _) ⟨_,_,Tryz.func200,rfl⟩ fun args D r hR hD=>by
 unfold R200 at hR
 split at hR <;> cases hR
 refine ⟨rfl,(w6n _ _).mpr (z0h (fun h=>?_) (fun h=>?_))⟩
 all_goals simp [y2k,h]
theorem y37:Cts Tryz.B [(200,R200)]:=(Cts.nil _).cons w3y
theorem z9v {f:Prf→Int} {args:List AV} {D:Prop} {r:CR} (h:RV f args = some (D,r)):∃ p:Prf,args = [.agg (z0a p)]∧D = True∧r = rI (f p):=by
 unfold RV at h
 split at h <;> cases h
 exact ⟨_,rfl,rfl,rfl⟩
theorem scP (p:Prf):z0e 0 [AV.agg (z0a p)] = [AV.agg (z0a p)]:=by simp [z0e,scrub,z2u]
theorem nhP (p:Prf):noHL 0 [AV.agg (z0a p)] = true:=by simp [noHL,noH,z04]
theorem w39:Ct Tryz.B.c0 158 (RV (atI 0)):=Ct.of_wp (lm:=[]) Tryz.bok y37 ⟨_,_,Tryz.func158,rfl⟩ fun args D r hR hD=>by
 obtain ⟨p,rfl,rfl,rfl⟩:=z9v hR
 rw [scP]; exact ⟨nhP p,(w6u p _).mpr rfl⟩
theorem w38:Ct Tryz.B.c0 159 (RV (atI 1)):=Ct.of_wp (lm:=[]) Tryz.bok y37 ⟨_,_,Tryz.func159,rfl⟩ fun args D r hR hD=>by
 obtain ⟨p,rfl,rfl,rfl⟩:=z9v hR
 rw [scP]; exact ⟨nhP p,(v159 p _).mpr rfl⟩
theorem w37:Ct Tryz.B.c0 160 (RV (atI 2)):=Ct.of_wp (lm:=[]) Tryz.bok y37 ⟨_,_,Tryz.func160,rfl⟩ fun args D r hR hD=>by
 obtain ⟨p,rfl,rfl,rfl⟩:=z9v hR
 rw [scP]; exact ⟨nhP p,(v160 p _).mpr rfl⟩
theorem w36:Ct Tryz.B.c0 161 (RV (atI 3)):=Ct.of_wp (lm:=[]) Tryz.bok y37 ⟨_,_,Tryz.func161,rfl⟩ fun args D r hR hD=>by
 obtain ⟨p,rfl,rfl,rfl⟩:=z9v hR
 rw [scP]; exact ⟨nhP p,(w6t p _).mpr ⟨trivial,rfl⟩⟩
theorem w35:Ct Tryz.B.c0 162 (RV (atI 4)):=Ct.of_wp (lm:=[]) Tryz.bok y37 ⟨_,_,Tryz.func162,rfl⟩ fun args D r hR hD=>by
 obtain ⟨p,rfl,rfl,rfl⟩:=z9v hR
 rw [scP]; exact ⟨nhP p,(v162 p _).mpr ⟨trivial,rfl⟩⟩
theorem w34:Ct Tryz.B.c0 163 (RV (atI 5)):=Ct.of_wp (lm:=[]) Tryz.bok y37 ⟨_,_,Tryz.func163,rfl⟩ fun args D r hR hD=>by
 obtain ⟨p,rfl,rfl,rfl⟩:=z9v hR
 rw [scP]; exact ⟨nhP p,(w6s p _).mpr ⟨trivial,rfl⟩⟩
theorem w33:Ct Tryz.B.c0 164 (RV (atI 6)):=Ct.of_wp (lm:=[]) Tryz.bok y37 ⟨_,_,Tryz.func164,rfl⟩ fun args D r hR hD=>by
 obtain ⟨p,rfl,rfl,rfl⟩:=z9v hR
 rw [scP]; exact ⟨nhP p,(v164 p _).mpr rfl⟩
theorem w31:Ct Tryz.B.c0 165 (RV (atI 7)):=Ct.of_wp (lm:=[]) Tryz.bok y37 ⟨_,_,Tryz.func165,rfl⟩ fun args D r hR hD=>by
 obtain ⟨p,rfl,rfl,rfl⟩:=z9v hR
 rw [scP]; exact ⟨nhP p,(w6r p _).mpr rfl⟩
theorem w8c:Cts Tryz.B l125:=((((((((Cts.nil _).cons w31).cons w33).cons w34).cons w35).cons w36).cons w37).cons w38).cons w39
set_option maxHeartbeats 4000000 in
theorem w4g:Ct Tryz.B.c0 125 R125:=Ct.of_wp (lm:=[]) Tryz.bok w8c ⟨_,_,Tryz.func125,rfl⟩ fun args D r hR hD=>by
 unfold R125 at hR
 split at hR <;> cases hR
 rename_i a _
 obtain ⟨⟨p,rfl⟩,h0,h1⟩:=hD
 refine ⟨by simp [noHL,noH,z04],?_⟩
 rw [show z0e 0 [U a,AV.agg (z0a p)] = [U a,AV.agg (z0a p)] by simp [z0e,scrub,z2u],z0j z0w]
 have h8:a = 0 ∨ a = 1 ∨ a = 2 ∨ a = 3 ∨ a = 4 ∨ a = 5 ∨ a = 6 ∨ a = 7:=by omega
 rcases h8 with rfl | rfl | rfl | rfl | rfl | rfl | rfl | rfl
 ·exact (w0q p _).mpr ⟨trivial,rfl,rfl⟩
 ·exact (w0p p _).mpr ⟨trivial,rfl,rfl⟩
 ·exact (w0o p _).mpr ⟨trivial,rfl,rfl⟩
 ·exact (w0n p _).mpr ⟨trivial,rfl,rfl⟩
 ·exact (w0m p _).mpr ⟨trivial,rfl,rfl⟩
 ·exact (w0l p _).mpr ⟨trivial,rfl,rfl⟩
 ·exact (w0k p _).mpr ⟨trivial,rfl,rfl⟩
 ·exact (w0j p _).mpr ⟨trivial,rfl,rfl⟩
theorem x8p {op attr side n:Int} {len:Nat} (h:z99 op attr side n len = true):(op = 1 ∨ ((op = 2 ∨ op = 3 ∨ op = 4 ∨ op = 5 ∨ op = 6)∧0 ≤ attr∧attr ≤ 7) ∨ (op = 7∧len = 1) ∨ op = 8 ∨ op = 9):=by
 unfold z99 z95 at h
 split at h
 ·exact .inl ‹_›
 split at h
 ·simp at h; right; left; constructor <;> omega
 split at h
 ·simp at h; right; left; constructor <;> omega
 split at h
 ·simp at h; right; left; constructor <;> omega
 split at h
 ·simp at h; right; left; constructor <;> omega
 split at h
 ·simp at h; right; right; left; constructor <;> omega
 split at h
 ·rename_i h8; right; right; right; exact h8
 ·cases h
theorem y88:∀ {l:List Tst} {k:Nat} {x:Tst},z5z l = true→l[k]? = some x→shT x = true
 | [],k,x,_,h=>by simp at h
 | y :: l,0,x,hw,h=>by simp at h; subst h; simp only [z5z,Bool.and_eq_true] at hw; exact hw.1
 | y :: l,k + 1,x,hw,h=>by simp only [z5z,Bool.and_eq_true] at hw; exact y88 hw.2 (by simpa using h)

section
variable {m:Nat} (hc:Cts Tryz.B [(80,R80.below m),(125,R125)]) {op attr side n:Int} {of:List Tst} (hlen:of.length ≤ 9223372036854775807) (hwf:z6p of) (hsh:z5z of = true) (hsz:z0o (z0q of) + 22 ≤ m) {p q:Prf} {Q:CR→Prop}
include hc hlen hwf hsh hsz
set_option maxHeartbeats 4000000 in
theorem x2j (h89:op = 8 ∨ op = 9):∀ (d i:Nat),of.length - i = d→i ≤ of.length→Q (rB (hoL op (of.drop i) p q)) →
  z0l (Tryz.X80 m) (cd PP 80 [1,1,1,1,0,1,0,0]) ([X,X,X,.ptr 0 0,.ptr 1 0,.ptr 2 0]++List.replicate 75 X++[.vs (z0q of) of.length .none,I of.length,I i]++List.replicate 18 X) ⟨[some (.cells [U op,U attr,U side,I n,.vs (z0q of) of.length .none] 71),some (.cells (z0a p) 40),some (.cells (z0a q) 40)],[],[]⟩ (z0d 1 (z0i (Tryz.X80 m) (cd PP 80 [1,1,1,1,1]) (z0f (Tryz.X80 m) 80 Q))):=by
 intro d
 induction d with
 | zero =>
  intro i hd hi hQ
  have hi':i = of.length:=by omega
  subst hi'
  refine z1b Tryz.bok hc ((w0a m op attr side n _ _ _ p q Q).mpr (z0p (by simp) ?_))
  rw [show (op == 8) = decide (op = 8) from rfl]
  simpa [hoL] using hQ
 | succ d ih =>
  intro i hd hi hQ
  have hlt:i < of.length:=by omega
  obtain ⟨x,hx,hdr⟩:=z1p hlt
  rw [hdr] at hQ
  refine z1b Tryz.bok hc ((w0a m op attr side n _ _ _ p q Q).mpr (z0b (by simp; omega) ?_))
  refine z0b (by simpa using hlt) (z0b (by simp [z1n]) (z0b (by have:=z03 (z1n of) hlt; simpa using this) ?_))
  rw [z6x hx,z6m]
  have hs:=z5y hx
  refine z0b (z2w x) (z0b (by simp [noHL,noH,z1k,z04]) ⟨⟨⟨⟨x,rfl,z6u hwf hx,y88 hsh hx⟩,⟨p,rfl⟩,⟨q,rfl⟩⟩,?_⟩,rfl,?_⟩)
  ·simp only [List.nil_append,List.append_nil,z0o,z2q,z9r]
   omega
  ·rw [z0j (fun _ _=>z1a _ _),z0j z0w,z0j z0w,z09 (x:=(i:Int) + 1) (by omega) (by omega)]
   refine z0h (fun h=>?_) (fun h=>?_)
   ·refine (congrArg Q (z2r (b:=hoL op (x :: of.drop (i + 1)) p q) ?_)).mpr hQ
    rcases h89 with rfl | rfl <;> simp_all [hoL]
   ·refine z0b (by simp [noHL,noH,z19]) (z0b (by simp [okBlk,noHB,noHL,noH,z19,z04]) ?_)
    refine ih (i + 1) (by omega) (by omega) ?_
    refine (congrArg Q (z2r (b:=hoL op (x :: of.drop (i + 1)) p q) ?_)).mpr hQ
    rcases h89 with rfl | rfl <;> simp_all [hoL]
set_option maxHeartbeats 4000000 in
theorem x1n (hn:z99 op attr side n of.length = true) (o:Prf) (ho:o = if side = 2 then q else p) (hQ:Q (rB (hoT (.mk op attr side n of) p q))):z0k (Tryz.X80 m) (cd PP 80 [1,1,1]) ([X,X,X,.ptr 0 0,.ptr 1 0,.ptr 2 0,X,.ptr 3 0]++List.replicate 94 X) ⟨[some (.cells [U op,U attr,U side,I n,.vs (z0q of) of.length .none] 71),some (.cells (z0a p) 40),some (.cells (z0a q) 40),some (.cells (z0a o) 40)],[],[]⟩ (z0f (Tryz.X80 m) 80 Q):=by
 refine z4e Tryz.bok hc ((w52 m op attr side n _ _ p q o Q).mpr ?_)
 simp only [z0j z0w]
 have hat:atI attr o = if side = 2 then atI attr q else atI attr p:=by rw [ho]; split <;> rfl
 rcases x8p hn with h | ⟨h,ha0,ha1⟩ | ⟨h,hl⟩ | h
 ·refine z0b (by simp [h]) ?_
  simpa [hoT,h] using hQ
 ·rcases h with h | h | h | h | h
  ·refine z0p (by simp [h]) (z0b (by simp [h]) ⟨⟨⟨p,rfl⟩,ha0,ha1⟩,trivial,⟨⟨q,rfl⟩,ha0,ha1⟩,trivial,?_⟩)
   simpa [hoT,h] using hQ
  ·refine z0p (by simp [h]) (z0p (by simp [h]) (z0b (by simp [h]) ⟨⟨⟨p,rfl⟩,ha0,ha1⟩,trivial,⟨⟨q,rfl⟩,ha0,ha1⟩,trivial,?_⟩))
   simpa [hoT,h] using hQ
  ·refine z0p (by simp [h]) (z0p (by simp [h]) (z0p (by simp [h]) (z0b (by simp [h]) ⟨⟨⟨p,rfl⟩,ha0,ha1⟩,trivial,⟨⟨q,rfl⟩,ha0,ha1⟩,trivial,?_⟩)))
   simpa [hoT,h] using hQ
  ·refine z0p (by simp [h]) (z0p (by simp [h]) (z0p (by simp [h]) (z0p (by simp [h]) (z0b (by simp [h]) ⟨⟨⟨o,rfl⟩,ha0,ha1⟩,trivial,?_⟩))))
   rw [hat]
   simpa [hoT,h] using hQ
  ·refine z0p (by simp [h]) (z0p (by simp [h]) (z0p (by simp [h]) (z0p (by simp [h]) (z0p (by simp [h]) (z0b (by simp [h]) ⟨⟨⟨o,rfl⟩,ha0,ha1⟩,trivial,?_⟩)))))
   rw [hat]
   simpa [hoT,h] using hQ
 ·refine z0p (by simp [h]) (z0p (by simp [h]) (z0p (by simp [h]) (z0p (by simp [h]) (z0p (by simp [h]) (z0p (by simp [h]) (z0b (by simp [h]) ?_))))))
  obtain ⟨x,rfl⟩:∃ x,of = [x]:=by
   match of,hl with
   | [x],_=>exact ⟨x,rfl⟩
  have he:el (z0q [x]) 0 5 = z0m x:=y7x (l:=[x]) (k:=0) rfl
  have hs:=z5y (l:=[x]) (k:=0) rfl
  refine z0b rfl (z0b (by simp [z1n]) (z0b (by simp [z1n]) ?_))
  rw [he,z6m]
  refine z0b (z2w x) (z0b (by simp [noHL,noH,z1k,z04]) ⟨⟨⟨⟨x,rfl,hwf.1,by simpa [z5z] using hsh⟩,⟨p,rfl⟩,⟨q,rfl⟩⟩,?_⟩,trivial,?_⟩)
  ·simp only [List.nil_append,List.append_nil,z0o,z2q,z9r]
   omega
  ·rw [z0j (fun _ _=>z1a _ _)]
   simpa [hoT,hoL,h] using hQ
 ·have h':¬ op = 1∧¬ op = 2∧¬ op = 3∧¬ op = 4∧¬ op = 5∧¬ op = 6∧¬ op = 7:=by omega
  refine z0p (by simp [h']) (z0p (by simp [h']) (z0p (by simp [h']) (z0p (by simp [h']) (z0p (by simp [h']) (z0p (by simp [h']) (z0p (by simp [h']) ?_))))))
  refine z0b (by simp [noHL,noH,z19]) (z0b (by simp [okBlk,noHB,noHL,noH,z19,z04]) ?_)
  refine x2j hc hlen hwf hsh hsz h _ 0 rfl (Nat.zero_le _) ?_
  simpa [hoT,h'] using hQ
end
set_option maxHeartbeats 2000000 in
theorem x9w:Ct Tryz.B.c0 80 R80:=Ct.of_rec (lm:=w1d) (ct:=[4]) (sm:=[(20,3)]) Tryz.bok ((Cts.nil _).cons w4g) ⟨_,_,Tryz.func80,rfl⟩ fun m args D r hc hR hD hm=>by
 unfold R80 at hR
 split at hR <;> cases hR
 obtain ⟨⟨⟨op,attr,side,k,of⟩,rfl,hw,hs⟩,⟨p,rfl⟩,⟨q,rfl⟩⟩:=hD
 simp only [wfT] at hw
 simp only [shT,Bool.and_eq_true] at hs
 refine ⟨by simp [noHL,noH,z1k,z04],?_⟩
 rw [show z0e 0 [AV.agg (z0m (.mk op attr side k of)),.agg (z0a p),.agg (z0a q)] = [AV.agg (z0m (.mk op attr side k of)),.agg (z0a p),.agg (z0a q)] by simp [z0e,scrub,z3q,z2u]]
 rw [z0j (fun _ _=>z1a _ _),z0j z0w,z0j z0w]
 have hsz:z0o (z0q of) + 22 ≤ m:=by simp only [z0o,z2q,z0m,z9r] at hm; omega
 refine (v80 m op attr side k _ _ p q _).mpr (z0h (fun h=>?_) (fun h=>?_))
 ·simp only [beq_iff_eq] at h
  exact x1n hc hw.2.2.2.2.2.2.2.2.1 hw.2.2.2.2.2.2.2.2.2 hs.2 hsz hs.1 q (by simp [h]) rfl
 ·simp only [beq_eq_false_iff_ne,ne_eq] at h
  exact x1n hc hw.2.2.2.2.2.2.2.2.1 hw.2.2.2.2.2.2.2.2.2 hs.2 hsz hs.1 p (by simp [h]) rfl
end Go.Proofs
