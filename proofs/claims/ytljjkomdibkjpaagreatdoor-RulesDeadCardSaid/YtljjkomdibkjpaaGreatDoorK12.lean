/- Contracts of functions of the program and of the reference. -/
import Derived.Test.YtljjkomdibkjpaaGreatDoorK11
import Derived.Test.YtljjkomdibkjpaaGreatDoorAliveZ
import Derived.KernelRfl
set_option linter.unusedVariables false
set_option linter.unusedSimpArgs false
set_option maxRecDepth 100000
set_option linter.unusedVariables false
namespace Go.Ev
end Go.Ev
namespace Go.Proofs
open Go Go.Ev
def elP (E:List AV):List AV:=[I (cI E 0),I (cI E 1),Bo (cB E 2),Bo (cB E 3),Bo (cB E 4),I (cI E 5),I (cI E 6)]
def zP:List AV:=[I 0,I 0,Bo false,Bo false,Bo false,I 0,I 0]
def z2m:List Prf→List AV
 | []=>[]
 | p :: l=>z0a p++z2m l
def profL:List Prf:=(List.range 120).map fun i=>⟨1 + (i / 24:Nat),(i / 8 % 3:Nat),decide (i / 4 % 2 = 1),decide (i / 2 % 2 = 1),decide (i % 2 = 1),0,0⟩
def RPl (pl:List AV):Spc:=fun args=>match args with
 | []=>some (True,.ret (.vs pl 120 .none))
 | _=>none
def pK (B:Nat→Nat→Bool) (i j:Nat):List Nat→Option (Nat × Nat × Nat)
 | []=>none
 | k :: l=>if (B i j && B j k && B k i) = true then some (i,j,k) else pK B i j l
def pJ (B:Nat→Nat→Bool) (n i:Nat):List Nat→Option (Nat × Nat × Nat)
 | []=>none
 | j :: l=>match pK B i j (List.range n) with
  | some x=>some x
  | none=>pJ B n i l
def pI (B:Nat→Nat→Bool) (n:Nat):List Nat→Option (Nat × Nat × Nat)
 | []=>none
 | i :: l=>match pJ B n i (List.range n) with
  | some x=>some x
  | none=>pI B n l
def w8g (rs:List Rul) (p q:Prf):Bool:=z01 (z2c rs p q).1 (z2c rs p q).2 == 1
def x0h (rs:List Rul) (i j:Nat):Bool:=match profL[i]?,profL[j]? with
 | some p,some q=>w8g rs p q
 | _,_=>false
def x73:Option (Nat × Nat × Nat)→List Prf
 | some (i,j,k)=>(profL[i]?).toList++(profL[j]?).toList++(profL[k]?).toList
 | none=>[]
def w4o (rs:List Rul):List Prf × Bool × Int:=if chk rs = 0 then (x73 (pI (x0h rs) 120 (List.range 120)),(pI (x0h rs) 120 (List.range 120)).isSome,0) else ([],false,chk rs)
noncomputable def z6o (l:List AV):List Prf × Bool × Int:=z0g z0c w4o ([],false,0) l
def tkP (l:List Prf):Tok:=if l.length = 0 then .zero else .none
noncomputable def R35:Spc:=fun args=>match args with
 | [.agg [.vs l len .none]]=>some (∃ rs,l = z0c rs∧len = rs.length∧z1h rs,.ret (.tup [.vs (z2m (z6o l).1) (z6o l).1.length (tkP (z6o l).1),Bo (z6o l).2.1,I (z6o l).2.2]))
 | _=>none
noncomputable def R37:Spc:=fun args=>match args with
 | [.vs a n _,.vs b m _]=>some ((∃ x,a = z2m x∧n = x.length∧x.length ≤ 1000)∧b = a∧m = n,rB true)
 | _=>none
def w7q:List (Nat × List Nat):=[(4,[0,1,5]),(8,[])]
noncomputable def Tryz.X37:WCx:=Tryz.B.wcx [] w7q
noncomputable def l9:List (FuncId × Spc):=[(20,R20),(24,R24),(35,R35),(36,R35),(37,R37)]
noncomputable def Tryz.X9:WCx:=Tryz.B.wcx l9
theorem v37 (a b:List AV) (n m:Nat) (ta tb:Tok) (Q:CR→Prop):wpF Tryz.X37 37 [.vs a n ta,.vs b m tb] Q =
 (cIf ((↑n:Int) != (↑m:Int)) (Q (CR.ret (Bo false))) (z0l Tryz.X37 (cd Tryz.X37.P 37 [1,1,0,1,0,0]) ([AV.vs a n ta,AV.vs b m tb,X,X,X,I 0]++List.replicate 20 X) (St.mk [] [] []) (z0d 0 (z0i Tryz.X37 (cd Tryz.X37.P 37 [1,1,1]) (z0f Tryz.X37 37 Q))))):=by kernel_rfl
theorem v9 (l:List AV) (len:Nat) (Q:CR→Prop):wpF Tryz.X9 9 [.agg [.vs l len .none]] Q =
 ((∃ (rs:List Rul),l = z0c rs∧len = rs.length∧z1h rs∧(0:Int) ≤ (40:Int)∧(40:Int) ≤ (1000:Int))∧cIf (!z0g z0c (y5v (40:Int)) false l) (True∧Q (CR.ret (Bo true))) ((∃ (rs:List Rul),l = z0c rs∧len = rs.length∧z1h rs)∧(∃ (rs:List Rul),l = z0c rs∧len = rs.length∧z1h rs)∧True∧cIf ((z6o l).snd.fst == (z6o l).snd.fst) (cIf ((z6o l).snd.snd == (z6o l).snd.snd) (((∃ (x:List Prf),z2m (z6o l).fst = z2m x∧(z6o l).fst.length = x.length∧x.length ≤ 1000)∧z2m (z6o l).fst = z2m (z6o l).fst∧(z6o l).fst.length = (z6o l).fst.length)∧Q (CR.ret (Bo true))) (Q (CR.ret (Bo false)))) (Q (CR.ret (Bo false))))):=by kernel_rfl
end Go.Proofs
set_option maxRecDepth 100000
set_option linter.unusedVariables false
namespace Go.Ev
def z07 (l:List Bool):List AV:=l.map AV.bool
theorem z8n (l:List Bool):(z07 l).length = l.length:=by simp [z07]
theorem z5c (n:Nat):∀ l:List Bool,noHL n (z07 l) = true
 | []=>rfl
 | a :: l=>by have:=z5c n l; simp [z07,noHL,noH] at this ⊢; exact this
theorem x6m (l:List Bool) (j:Nat) (h:j < l.length):(z07 l).getD j .bad = .bool (l.getD j false):=by
 simp [z07,List.getD_eq_getElem?_getD,List.getElem?_map,List.getElem?_eq_getElem h]
theorem y95 (l:List Bool) (k:Nat):List.drop k (z07 l) = z07 (l.drop k):=by simp [z07,List.map_drop]
theorem w5c (l:List Bool) (i:Nat):(l.drop i).getD 0 false = l.getD i false:=by simp [List.getD_eq_getElem?_getD,List.getElem?_drop]
theorem x1q (l:List Bool) (j:Nat) (h:j < l.length):cB (z07 l) j = l.getD j false:=by unfold cB; rw [x6m l j h]; rfl
theorem y7z (l:List Bool) (j:Nat) (h:j < l.length):z1g (AV.ofVal (Value.bool false)) ((z07 l).getD j .bad) = true:=by rw [x6m l j h]; rfl
theorem x0t {l:List Bool} {i:Nat} (h:i < l.length):cB (List.drop ((i:Int).toNat * 1) (z07 l)) 0 = l.getD i false:=by
 rw [Int.toNat_natCast,Nat.mul_one,y95,x1q _ _ (by rw [List.length_drop]; omega),w5c]
theorem x0s {l:List Bool} {i:Nat} (h:i < l.length):z1g (AV.ofVal (Value.bool false)) ((List.drop ((i:Int).toNat * 1) (z07 l)).getD 0 AV.bad) = true:=by
 rw [Int.toNat_natCast,Nat.mul_one,y95]; exact y7z _ _ (by rw [List.length_drop]; omega)
theorem y6t {l:List Bool} {i:Nat} (h:i < l.length):decide (0 < (List.drop ((i:Int).toNat * 1) (z07 l)).length) = true:=by
 rw [Int.toNat_natCast,Nat.mul_one,y95,z8n,List.length_drop]; exact decide_eq_true (by omega)
theorem x1c (l:List Bool) (j:Nat) (b:Bool) (h:j < l.length):z1y (z07 l) j [AV.bool b] = z07 (l.set j b):=by
 unfold z1y z07
 rw [List.set_eq_take_append_cons_drop,if_pos h]
 simp
theorem x44 (n:Nat):z2o [AV.bool false] n = z07 (List.replicate n false):=by
 simp [z2o,z07,Nat.mod_one,List.map_const',List.map_replicate]
theorem y5q {n:Nat}:∀ {l:List AV},noHL n l = true ↔ ∀ v ∈ l,noH n v = true
 | []=>by simp [noHL]
 | a :: l=>by simp [noHL,y5q (l:=l)]
end Go.Ev
namespace Go.Proofs
open Go Go.Ev
theorem y93 (p:Prf):(z0a p).length = 7:=rfl
theorem y32:∀ l:List Prf,(z2m l).length = l.length * 7
 | []=>rfl
 | t :: l=>by simp only [z2m,List.length_append,y93,y32 l,List.length_cons]; omega
theorem x6l {l:List Prf} {k:Nat} {x:Prf} (h:l[k]? = some x):el (List.drop (k * 7) (z2m l)) 0 7 = z0a x:=by
 rw [y7f]
 exact (by rw [Nat.add_zero]; exact y4p (enc:=z0a) (encs:=z2m) rfl (fun _ _=>rfl) y93 l k x h)
theorem y8f (p:Prf):elP (z0a p) = z0a p:=rfl
theorem y09 (p:Prf):like zP (z0a p) = true:=rfl
theorem z5s (n:Nat):∀ l:List Prf,noHL n (z2m l) = true
 | []=>rfl
 | t :: l=>by simp [z2m,z2f,z04 n t,z5s n l]
theorem w7d:∀ l:List Prf,z0e 0 (z2m l) = z2m l
 | []=>rfl
 | t :: l=>by simp [z2m,z88,z2u t,w7d l]
theorem z71:profL.length = 120:=by simp [profL]
theorem y55 {i:Nat} (h:i < 120):∃ p,profL[i]? = some p:=⟨_,List.getElem?_eq_getElem (by rw [z71]; exact h)⟩
theorem y2i:(840 = (z2m profL).length):=by rw [y32,z71]
theorem y4g {i:Nat} (h:i < 120):7 ≤ (List.drop ((i:Int).toNat * 7) (z2m profL)).length:=by
 rw [Int.toNat_natCast]
 exact z03 (n:=120) (by rw [y32,z71]) h
theorem y4f {i:Nat} {p:Prf} (h:profL[i]? = some p):el (List.drop ((i:Int).toNat * 7) (z2m profL)) 0 7 = z0a p:=by
 rw [Int.toNat_natCast]; exact x6l h
def fnd (x:Nat × Nat × Nat):CR:=.ret (.tup [.vs (z2m (x73 (some x))) 3 .none,Bo true,I 0])
def x2u (rs:List Rul) (i:Nat) (n:Nat):List Bool:=(List.range n).map (x0h rs i)
structure RowsI (rs:List Rul) (rw:List AV) (i:Nat):Prop where
 len:rw.length = 120
 nh:∀ n,noHL n rw = true
 done:∀ x,x < i→∃ t,rw[x]? = some (.vs (z07 (x2u rs x 120)) 120 t)
 rest:∀ x,i ≤ x→x < 120→rw[x]? = some (.vs [] 0 .zero)
structure RowsJ (rs:List Rul) (rw:List AV) (T:List (Nat × (Nat × Nat))) (i j:Nat):Prop where
 len:rw.length = 120
 nh:∀ n,noHL n rw = true
 done:∀ x,x < i→∃ t,rw[x]? = some (.vs (z07 (x2u rs x 120)) 120 t)
 cur:∃ t,rw[i]? = some (.vs (z07 (x2u rs i j)) j t)∧(t = .zero∧j = 0 ∨ ∃ k,t = .own k∧T[k]? = some (j,1,4))
 rest:∀ x,i < x→x < 120→rw[x]? = some (.vs [] 0 .zero)
theorem RowsJ.put {rs:List Rul} {rw:List AV} {T T':List (Nat × (Nat × Nat))} {i j k:Nat} (h:RowsJ rs rw T i j) (hi:i < 120) (hT:T'[k]? = some (j + 1,1,4)):RowsJ rs (rw.set i (.vs (z07 (x2u rs i (j + 1))) (j + 1) (.own k))) T' i (j + 1):=by
 have hl:=h.len
 refine ⟨by simp [hl],fun n=>?_,fun x hx=>?_,⟨.own k,?_,.inr ⟨k,rfl,hT⟩⟩,fun x h1 h2=>?_⟩
 ·rw [y5q]
  intro v hv
  rcases List.mem_or_eq_of_mem_set hv with h1 | h1
  ·exact y5q.1 (h.nh n) v h1
  ·subst h1
   simp [noH,z5c]
 ·rw [List.getElem?_set_ne (by omega)]; exact h.done x hx
 ·rw [List.getElem?_set_self (by omega)]
 ·rw [List.getElem?_set_ne (by omega)]; exact h.rest x h1 h2
section
variable (hp:Ct Tryz.B.c0 38 (RPl (z2m profL))) {rs:List Rul} (hrs:z1j rs) (hsh:∀ x ∈ rs,shT x.t = true) {Q:CR→Prop}
include hp hrs hsh
end
end Go.Proofs
set_option maxRecDepth 100000
set_option linter.unusedVariables false
namespace Go.Proofs
open Go Go.Ev
structure BitsI (rs:List Rul) (b:List Bool) (i j:Nat):Prop where
 len:b.length = 14400
 done:∀ x y,(x < i ∨ x = i∧y < j)→x < 120→y < 120→b.getD (x * 120 + y) false = x0h rs x y
theorem BitsI.put {rs:List Rul} {b:List Bool} {i j:Nat} (h:BitsI rs b i j) (hi:i < 120) (hj:j < 120):BitsI rs (b.set (i * 120 + j) (x0h rs i j)) i (j + 1):=by
 have hl:=h.len
 refine ⟨by simp [hl],fun x y hxy hx hy=>?_⟩
 by_cases he:x * 120 + y = i * 120 + j
 ·have h1:x = i:=by omega
  have h2:y = j:=by omega
  subst h1; subst h2
  rw [List.getD_eq_getElem?_getD,List.getElem?_set_self (by omega)]; rfl
 ·rw [List.getD_eq_getElem?_getD,List.getElem?_set_ne (by omega),← List.getD_eq_getElem?_getD]
  exact h.done x y (by omega) hx hy
theorem BitsI.next {rs:List Rul} {b:List Bool} {i:Nat} (h:BitsI rs b i 120):BitsI rs b (i + 1) 0 :=
 ⟨h.len,fun x y hxy hx hy=>h.done x y (by omega) hx hy⟩
section
variable (hp:Ct Tryz.B.c0 54 (RPl (z2m profL))) {rs:List Rul} {Q:CR→Prop}
include hp
variable (hrs:z1j rs)
include hrs
end
end Go.Proofs
set_option maxRecDepth 100000
set_option linter.unusedVariables false
namespace Go.Proofs
open Go Go.Ev
theorem Tryz.run38:(z6e Tryz.C0 400).call 38 [] St.nil = some (.ret (.vs (z2m profL) 120 .none),St.nil):=by kernel_rfl
theorem Tryz.run54:(z6e Tryz.C0 400).call 54 [] St.nil = some (.ret (.vs (z2m profL) 120 .none),St.nil):=by kernel_rfl
theorem w2m:Ct Tryz.B.c0 38 (RPl (z2m profL)) where
 body:=⟨_,_,Tryz.func38,rfl⟩
 ok:=fun args D r hR hD=>by
  unfold RPl at hR
  split at hR <;> cases hR
  exact ⟨rfl,fun G w us h1 h2 h3=>z5l (C:=Tryz.C0) Tryz.c0ok Tryz.c0w Tryz.run38 G w us h1 h2 h3⟩
theorem v7v:Ct Tryz.B.c0 54 (RPl (z2m profL)) where
 body:=⟨_,_,Tryz.func54,rfl⟩
 ok:=fun args D r hR hD=>by
  unfold RPl at hR
  split at hR <;> cases hR
  exact ⟨rfl,fun G w us h1 h2 h3=>z5l (C:=Tryz.C0) Tryz.c0ok Tryz.c0w Tryz.run54 G w us h1 h2 h3⟩
end Go.Proofs
