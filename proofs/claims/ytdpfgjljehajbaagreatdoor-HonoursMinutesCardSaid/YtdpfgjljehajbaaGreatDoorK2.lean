/- Contracts of functions of the program and of the reference. -/
import Derived.Test.YtdpfgjljehajbaaGreatDoorK1
set_option linter.unusedVariables false
set_option linter.unusedSimpArgs false
set_option maxRecDepth 100000
open Go.Ev.AV (vs ptr agg tup vp mp ofVal raw)
open Go.Ev.HB (cells map)
open Go.Ev.CR (ret)
open Go.IntKind (i64)
open List (drop replicate)
noncomputable section
namespace Go.Proofs
open Go Go.Ev
def R163:Spc:=fun args=>match args with
 | [.int .i64 z]=>some (True,rB (decide (z < -720) || decide (z > 840)))
 | _=>none
def R204:Spc:=fun args=>match args with
 | [.vs [.int .i64 z] 1 _,.fn (.func 163) [] []]=>some (True,rI (if z < -720∨z > 840 then 0 else -1))
 | _=>none
def R162:Spc:=fun args=>match args with
 | [.vs [.int .i64 z] 1 _,.fn (.func 163) [] []]=>some (True,rB (decide (z < -720) || decide (z > 840)))
 | _=>none
def X162:WCx:=qB.wcx [(204,R204)]
def X120:WCx:=qB.wcx [(162,R162)]
theorem w15 (n:Int)(Q:CR→Prop):wpF X0 115 [I n] Q =
 (cIf (decide (n≥0)) (Q (ret (Bo (decide (n≤144001439))))) (Q (ret (Bo false)))):=by kernel_rfl
theorem v89 (n:Int)(Q:CR→Prop):wpF X0 89 [I n] Q =
 (cIf (decide (n.tmod (1440:Int) < 0)) (Q (ret (tup [I (IntKind.i64.wrap (IntKind.i64.wrap (n.tdiv 1440)-1)),I (IntKind.i64.wrap (n.tmod 1440+1440))]))) (Q (ret (tup [I (IntKind.i64.wrap (n.tdiv 1440)),I (n.tmod 1440)])))):=by kernel_rfl
theorem w1u (z:Int)(Q:CR→Prop):wpF X0 163 [I z] Q =
 (cIf (decide (z < (-720:Int))) (Q (ret (Bo true))) (Q (ret (Bo (decide (z > 840)))))):=by kernel_rfl
theorem v162 (z:Int)(tk:Tok)(Q:CR→Prop):wpF X162 162 [.vs [I z] 1 tk,.fn (.func 163) [] []] Q =
 (True∧Q (ret (Bo (decide ((if z < (-720:Int)∨z > 840 then 0 else (-1:Int))≥0))))):=by kernel_rfl
theorem w11 (z:Int)(tk:Tok)(Q:CR→Prop):wpF X120 120 [.vs [I z] 1 tk] Q =
 (True∧Q (ret (Bo !(decide (z < (-720:Int)) || decide (z > 840))))):=by kernel_rfl
end Go.Proofs
namespace Go.Proofs
open Go Go.Ev
theorem w3h {n:Int}(h:-9000000000≤n)(h2:n≤9000000000):IntKind.i64.wrap n=n:=by
 simp[IntKind.wrap,IntKind.signed,IntKind.bits];omega
def R115:Spc:=fun args=>match args with
 | [.int .i64 n]=>some (True,rB (decide (0≤n) && decide (n≤144001439)))
 | _=>none
def R120:Spc:=fun args=>match args with
 | [.vs [.int .i64 n] 1 _]=>some (True,rB (decide (-720≤n) && decide (n≤840)))
 | _=>none
def R89:Spc:=fun args=>match args with
 | [.int .i64 n]=>some (-1000000000≤n∧n≤1000000000,.ret (.tup [I (n / 1440),I (n % 1440)]))
 | _=>none
theorem x6e:Ct qB.c0 115 R115:=Ct.of_wp (lm:=[]) bok (Cts.nil _) ⟨_,_,Tryz.func115,rfl⟩ fun args D r hR hD=>by
 unfold R115 at hR
 split at hR<;>cases hR
 refine ⟨rfl,(w15 _ _).mpr ?_⟩
 repeat' (refine z0i (fun h=>?_) (fun h=>?_))
 all_goals (apply y06; simp at *; omega)
theorem x9r:Ct qB.c0 89 R89:=Ct.of_wp (lm:=[]) bok (Cts.nil _) ⟨_,_,Tryz.func89,rfl⟩ fun args D r hR hD=>by
 unfold R89 at hR
 split at hR<;>cases hR
 rename_i n
 obtain ⟨h1,h2⟩:=hD
 refine ⟨rfl,(v89 _ _).mpr ?_⟩
 have e1:n.tdiv 1440=if 0≤n∨n % 1440=0 then n / 1440 else n / 1440+1:=by
  rw[Int.tdiv_eq_ediv,show Int.sign 1440=1 from rfl]
  have hd:1440 ∣ n↔n % 1440=0:=Int.dvd_iff_emod_eq_zero
  by_cases h:0≤n∨n % 1440=0
  ·rw[if_pos h,if_pos (h.imp id hd.2)];omega
  ·rw[if_neg h,if_neg (fun q=>h (q.imp id hd.1))]
 have e2:n.tmod 1440=n-1440*n.tdiv 1440:=by have:=Int.tmod_add_mul_tdiv n 1440;omega
 have e3:n=1440*(n / 1440)+n % 1440:=by omega
 refine z0i (fun h=>?_) (fun h=>?_)
 ·have h:n.tmod 1440 < 0:=of_decide_eq_true h
  have f1:IntKind.i64.wrap (IntKind.i64.wrap (n.tdiv 1440)-1)=n / 1440:=by
   rw[e2,e1]at h
   rw[e1]
   split at h
   ·omega
   ·rename_i hc
    rw[if_neg hc,w3h (n:=n / 1440+1) (by omega) (by omega),w3h (by omega) (by omega)];omega
  have f2:IntKind.i64.wrap (n.tmod 1440+1440)=n % 1440:=by
   rw[e2,e1]at h ⊢
   split at h
   ·omega
   ·rename_i hc
    rw[if_neg hc,w3h (by omega) (by omega)];omega
  show ret (tup [I _,I _])=ret (tup [I _,I _])
  rw[f1,f2]
 ·have h:¬ n.tmod 1440 < 0:=of_decide_eq_false h
  have f1:IntKind.i64.wrap (n.tdiv 1440)=n / 1440:=by
   rw[e2,e1]at h
   rw[e1]
   split at h
   ·rename_i hc
    rw[if_pos hc,w3h (by omega) (by omega)]
   ·omega
  have f2:n.tmod 1440=n % 1440:=by
   rw[e2,e1]at h ⊢
   split at h
   ·rename_i hc
    rw[if_pos hc];omega
   ·omega
  show ret (tup [I _,I _])=ret (tup [I _,I _])
  rw[f1,f2]
end Go.Proofs
namespace Go.Proofs
open Go Go.Ev
theorem x1i:Ct qB.c0 163 R163:=Ct.of_wp (lm:=[]) bok (Cts.nil _) ⟨_,_,Tryz.func163,rfl⟩ fun args D r hR hD=>by
 unfold R163 at hR
 split at hR<;>cases hR
 refine ⟨rfl,(w1u _ _).mpr ?_⟩
 repeat' (refine z0i (fun h=>?_) (fun h=>?_))
 all_goals (apply y06; simp at *; omega)
theorem w02 (h204:Ct qB.c0 204 R204):Ct qB.c0 162 R162:=Ct.of_wp (lm:=[]) bok ((Cts.nil _).cons h204) ⟨_,_,Tryz.func162,rfl⟩ fun args D r hR hD=>by
 unfold R162 at hR
 split at hR<;>cases hR
 refine ⟨rfl,(v162 _ _ _).mpr ⟨trivial,?_⟩⟩
 apply y06
 split<;>simp<;>omega
theorem w09 (h162:Ct qB.c0 162 R162):Ct qB.c0 120 R120:=Ct.of_wp (lm:=[]) bok ((Cts.nil _).cons h162) ⟨_,_,Tryz.func120,rfl⟩ fun args D r hR hD=>by
 unfold R120 at hR
 split at hR<;>cases hR
 refine ⟨rfl,(w11 _ _ _).mpr ⟨trivial,?_⟩⟩
 apply y06
 simp
end Go.Proofs
namespace Go.Ev
end Go.Ev
namespace Go.Proofs
open Go Go.Ev
end Go.Proofs
namespace Go.Ev
end Go.Ev
namespace Go.Proofs
open Go Go.Ev
end Go.Proofs
namespace Go.Proofs
open Go Go.Ev
def x23:List (Nat×List Nat):=[(2,[0,1,7,8]),(7,[])]
def X204b:WCx:=qB.wcx [(163,R163)] x23 [] [] []
theorem w0m (z:Int)(tk:Tok)(Q:CR→Prop):wpF X204b 204 [.vs [I z] 1 tk,.fn (.func 163) [] []] Q =
 (z0l X204b (cd X204b.P 204 [1,0,1,0,0]) ([vs [I z] 1 tk,AV.fn (Fn.func 163) [] [],X,X,X,X,X,I 1,I 0]++replicate 10 X) (St.mk [] [] []) (z0g 0 (z0k X204b (cd X204b.P 204 [1,1]) (z0q X204b 204 Q)))):=by kernel_rfl
theorem x2b (z:Int)(tk:Tok)(i:Nat)(Q:CR→Prop):wpC X204b (cd PP 204 [1,0,1,0,0]) ([.vs [I z] 1 tk,.fn (.func 163) [] [],X,X,X,X,X,I 1,I i]++replicate 10 X) ⟨[],[],[]⟩ (z1i X204b (cd PP 204 [1,0,1,0,0]) (z0g 0 (z0k X204b (cd PP 204 [1,1]) (z0q X204b 204 Q)))) =
 (cIf (decide ((↑i:Int) < 1)) (cIf (decide (i < 1)) (cIf (decide (0 < (drop (i*1) [I z]).length)) (cIf (z0t (ofVal (Value.int IntKind.i64 0)) ((drop (i*1) [I z]).getD 0 X)) (True∧cIf (decide (cI (drop (i*1) [I z]) 0 < (-720:Int)) || decide (cI (drop (i*1) [I z]) 0 > 840)) (Q (ret (I i))) (z0l X204b (cd PP 204 [1,0,1,0,0]) ([vs [I z] 1 tk,AV.fn (Fn.func 163) [] [],X,X,X,X,X,I 1,I (IntKind.i64.wrap ((↑i:Int)+1))]++replicate 10 X) (St.mk [] [] []) (z0g 0 (z0k X204b (cd PP 204 [1,1]) (z0q X204b 204 Q))))) False) False) False) (Q (ret (I (-1))))):=by kernel_rfl
end Go.Proofs
namespace Go.Proofs
open Go Go.Ev
theorem w01:Ct qB.c0 204 R204:=Ct.of_wp (lm:=x23) bok ((Cts.nil _).cons x1i) ⟨_,_,Tryz.func204,rfl⟩ fun args D r hR hD=>by
 unfold R204 at hR
 split at hR<;>cases hR
 rename_i z tk
 refine ⟨rfl,?_⟩
 rw[show z0e 0 [vs [AV.int IntKind.i64 z] 1 tk,AV.fn (Fn.func 163) [] []]=[.vs [I z] 1 (tk.scrub 0),.fn (.func 163) [] []] from rfl]
 refine (w0m z _ _).mpr ?_
 refine z0y bok ((Cts.nil _).cons x1i) ((x2b z _ 0 _).mpr ?_)
 refine z0h (by simp) (z0h (by simp) (z0h (by simp) (z0h rfl ⟨trivial,?_⟩)))
 have e:cI (drop (0*1) [I z]) 0=z:=rfl
 rw[e]
 refine z0i (fun h=>?_) (fun h=>?_)
 ·have h:z < -720∨z > 840:=by simpa using h
  rw[if_pos h]
  rfl
 ·have h:¬ (z < -720∨z > 840):=by simp at h;omega
  rw[if_neg h]
  refine z0y bok ((Cts.nil _).cons x1i) ((x2b z _ 1 _).mpr ?_)
  exact z02 (by simp) rfl
theorem x9u:Ct qB.c0 162 R162:=w02 w01
theorem x9v:Ct qB.c0 120 R120:=w09 x9u
end Go.Proofs
namespace Go.Ev
structure EncOk {α:Type} (enc:α→List AV) (sz:Nat):Prop where
 len:∀ x,(enc x).length=sz
 inj:∀ x y,enc x=enc y→x=y
 noH:∀ n x,noHL n (enc x)=true
 sc:∀ n x,z0e n (enc x)=enc x
 one:∀ x,(enc x).all AV.one=true
def z0a {α:Type}(enc:α→List AV):List α→List AV
 | []=>[]
 | x::l=>enc x++z0a enc l
theorem z00 (n:Nat):∀ l m:List AV,noHL n (l++m)=(noHL n l && noHL n m)
 | [],m=>by simp[noHL]
 | a::l,m=>by simp[noHL,z00 n l m,Bool.and_assoc]
theorem y1y (n:Nat):∀ l m:List AV,z0e n (l++m)=z0e n l++z0e n m
 | [],m=>by simp[z0e]
 | a::l,m=>by simp[z0e,y1y n l m]
theorem x7e (l:List AV)(a b n:Nat):el (l.drop a) b n=el l (a+b) n:=by unfold el;rw[List.drop_drop]
section
variable {α:Type}{enc:α→List AV}{sz:Nat}(E:EncOk enc sz)
include E
theorem EncOk.lenL:∀ l:List α,(z0a enc l).length=l.length*sz
 | []=>by simp[z0a]
 | t::l=>by simp only[z0a,List.length_append,E.len,EncOk.lenL l,List.length_cons];rw[Nat.succ_mul];omega
theorem EncOk.noHL' (n:Nat):∀ l:List α,noHL n (z0a enc l)=true
 | []=>rfl
 | t::l=>by simp[z0a,z00,E.noH n t,EncOk.noHL' n l]
theorem EncOk.scL (n:Nat):∀ l:List α,z0e n (z0a enc l)=z0a enc l
 | []=>rfl
 | t::l=>by simp[z0a,y1y,E.sc n t,EncOk.scL n l]
theorem EncOk.oneL:∀ l:List α,(z0a enc l).all AV.one=true
 | []=>rfl
 | t::l=>by rw[z0a,List.all_append,E.one,EncOk.oneL l];rfl
theorem EncOk.injL (h0:0 < sz):∀ l m:List α,z0a enc l=z0a enc m→l=m
 | [],[],h=>rfl
 | [],t::m,h=>by have:=congrArg List.length h;simp[z0a,E.len]at this;omega
 | t::l,[],h=>by have:=congrArg List.length h;simp[z0a,E.len]at this;omega
 | s::l,t::m,h=>by
  simp only[z0a]at h
  have:=List.append_inj h (by rw[E.len,E.len])
  rw[E.inj s t this.1,EncOk.injL h0 l m this.2]
theorem EncOk.dropL (l:List α)(k:Nat):(z0a enc l).drop (k*sz)=z0a enc (l.drop k):=by
 induction k generalizing l with
 | zero=>simp
 | succ k ih =>
  cases l with
  | nil=>simp[z0a]
  | cons x l =>
   rw[z0a,Nat.succ_mul,Nat.add_comm,← List.drop_drop,List.drop_left' (E.len x),ih]
   rfl
theorem EncOk.takeL (l:List α)(k:Nat):(z0a enc l).take (k*sz)=z0a enc (l.take k):=by
 induction k generalizing l with
 | zero=>simp[z0a]
 | succ k ih =>
  cases l with
  | nil=>simp[z0a]
  | cons x l =>
   rw[z0a,List.take_succ_cons,z0a,Nat.succ_mul,Nat.add_comm (k*sz) sz,← E.len x,List.take_append]
   simp only[E.len,Nat.add_sub_cancel_left,ih]
   rw[List.take_of_length_le (by rw[E.len];omega)]
theorem EncOk.get {l:List α}{k:Nat}{x:α}(h:l[k]?=some x):el (z0a enc l) (k*sz) sz=enc x:=by
 unfold el
 rw[E.dropL]
 have hk:=(List.getElem?_eq_some_iff.1 h).1
 rw[List.drop_eq_getElem_cons hk,z0a,List.take_append_of_le_length (by rw[E.len];exact Nat.le_refl _),List.take_of_length_le (by rw[E.len];exact Nat.le_refl _)]
 rw[(List.getElem?_eq_some_iff.1 h).2]
theorem EncOk.el {l:List α}{k:Nat}{x:α}(h:l[k]?=some x):Go.Ev.el (drop (k*sz) (z0a enc l)) 0 sz=enc x:=by rw[x7e];exact E.get h
theorem EncOk.getD {l:List α}{k:Nat}{x:α}(h:l[k]?=some x)(f:Nat)(hf:f < sz):(drop (k*sz) (z0a enc l)).getD f .bad=(enc x).getD f .bad:=by
 have hk:=(List.getElem?_eq_some_iff.1 h).1
 rw[E.dropL,List.drop_eq_getElem_cons hk,z0a,(List.getElem?_eq_some_iff.1 h).2,List.getD_eq_getElem?_getD,List.getElem?_append_left (by rw[E.len];exact hf),List.getD_eq_getElem?_getD]
theorem EncOk.elf {l:List α}{k:Nat}{x:α}(h:l[k]?=some x)(f n:Nat):Go.Ev.el (drop f (drop (k*sz) (z0a enc l))) 0 n=((enc x++z0a enc (l.drop (k+1))).drop f).take n:=by
 have hk:=(List.getElem?_eq_some_iff.1 h).1
 unfold Go.Ev.el
 rw[E.dropL,List.drop_eq_getElem_cons hk,z0a,(List.getElem?_eq_some_iff.1 h).2,List.drop_zero]
theorem EncOk.dl {l:List α}{k:Nat}(hk:k < l.length):sz≤((z0a enc l).drop (k*sz)).length:=by
 rw[List.length_drop,E.lenL]
 have:(k+1)*sz≤l.length*sz:=Nat.mul_le_mul_right _ hk
 rw[Nat.succ_mul]at this
 omega
theorem EncOk.cI {l:List α}{k:Nat}{x:α}(h:l[k]?=some x)(f:Nat)(hf:f < sz):Go.Ev.cI (drop f (drop (k*sz) (z0a enc l))) 0=Go.Ev.cI (enc x) f:=by
 unfold Go.Ev.cI
 rw[List.getD_eq_getElem?_getD,List.getElem?_drop,Nat.add_zero,← List.getD_eq_getElem?_getD,E.getD h f hf]
theorem EncOk.cI0 {l:List α}{k:Nat}{x:α}(h:l[k]?=some x)(hf:0 < sz):Go.Ev.cI (drop (k*sz) (z0a enc l)) 0=Go.Ev.cI (enc x) 0:=by
 unfold Go.Ev.cI
 rw[E.getD h 0 hf]
theorem EncOk.cB {l:List α}{k:Nat}{x:α}(h:l[k]?=some x)(f:Nat)(hf:f < sz):Go.Ev.cB (drop f (drop (k*sz) (z0a enc l))) 0=Go.Ev.cB (enc x) f:=by
 unfold Go.Ev.cB
 rw[List.getD_eq_getElem?_getD,List.getElem?_drop,Nat.add_zero,← List.getD_eq_getElem?_getD,E.getD h f hf]
theorem EncOk.cS {l:List α}{k:Nat}{x:α}(h:l[k]?=some x)(f:Nat)(hf:f < sz):Go.Ev.cS (drop f (drop (k*sz) (z0a enc l))) 0=Go.Ev.cS (enc x) f:=by
 unfold Go.Ev.cS
 rw[List.getD_eq_getElem?_getD,List.getElem?_drop,Nat.add_zero,← List.getD_eq_getElem?_getD,E.getD h f hf]
theorem EncOk.ld {l:List α}{k:Nat}{x:α}(h:l[k]?=some x)(f:Nat)(hf:f < sz):(drop f (drop (k*sz) (z0a enc l))).getD 0 .bad=(enc x).getD f .bad:=by
 rw[List.getD_eq_getElem?_getD,List.getElem?_drop,Nat.add_zero,← List.getD_eq_getElem?_getD,E.getD h f hf]
theorem EncOk.ld0 {l:List α}{k:Nat}{x:α}(h:l[k]?=some x)(hf:0 < sz):(drop (k*sz) (z0a enc l)).getD 0 .bad=(enc x).getD 0 .bad:=E.getD h 0 hf
end
theorem z06 {α:Type}{l:List α}{i:Nat}(h:i < l.length):∃ x,l[i]?=some x∧l.drop i=x::l.drop (i+1) :=
 ⟨l[i],List.getElem?_eq_getElem h,List.drop_eq_getElem_cons h⟩
theorem y86 {α:Type}(enc:α→List AV):∀ l m:List α,z0a enc (l++m)=z0a enc l++z0a enc m
 | [],m=>rfl
 | x::l,m=>by simp[z0a,y86 enc l m]

open Classical in
def z0c {α β:Type}(enc:α→List AV)(f:α→β)(d:β)(l:List AV):β:=if h:∃ a,l=enc a then f h.choose else d
theorem x4d {α β:Type}{enc:α→List AV}(hinj:∀ a b,enc a=enc b→a=b)(f:α→β)(d:β)(a:α):z0c enc f d (enc a)=f a:=by
 have h:∃ b,enc a=enc b:=⟨a,rfl⟩
 unfold z0c
 rw[dif_pos h,← hinj _ _ h.choose_spec]
theorem EncOk.on {α β:Type}{enc:α→List AV}{sz:Nat}(E:EncOk enc sz)(h0:0 < sz)(f:List α→β)(d:β)(a:List α):z0c (z0a enc) f d (z0a enc a)=f a:=x4d (E.injL h0) f d a

structure Mst where
 id:Int
 zo:Int
structure Dcr where
 id:Int
 ki:Int
 ma:Int
 st:Int
 ra:Int
 fr:Int
 un:Int
 op:Int
 cl:Int
structure Sho where
 fl:Int
 ho:Bool
deriving DecidableEq
structure Trn where
 at':Int
 fl:Int
 ho:Bool
deriving DecidableEq
structure Tun where
 st:Int
 si:Int
 nm:List UInt8
structure Sal where
 at':Int
 gu:Int
 ga:Int
structure Hrs where
 op:Int
 cl:Int
 d0:Bool
 d1:Bool
 d2:Bool
 d3:Bool
 d4:Bool
 d5:Bool
 d6:Bool
def z0d (x:Mst):List AV:=[I x.id,I x.zo]
def z0b (x:Dcr):List AV:=[I x.id,U x.ki,I x.ma,I x.st,I x.ra,I x.fr,I x.un,I x.op,I x.cl]
def x9p (x:Trn):List AV:=[I x.at',I x.fl,Bo x.ho]
def x9o (x:Tun):List AV:=[I x.st,I x.si,.str x.nm]
def x6 (x:Sal):List AV:=[I x.at',I x.gu,I x.ga]
def z0s (x:Int):List AV:=[I x]
theorem eM:EncOk z0d 2:=⟨fun _=>rfl,fun x y h=>by cases x;cases y;simp[z0d]at h;simp[h],fun _ _=>rfl,fun _ _=>rfl,fun _=>rfl⟩
theorem eD:EncOk z0b 9:=⟨fun _=>rfl,fun x y h=>by cases x;cases y;simp[z0b]at h;simp[h],fun _ _=>rfl,fun _ _=>rfl,fun _=>rfl⟩
theorem eT:EncOk x9p 3:=⟨fun _=>rfl,fun x y h=>by cases x;cases y;simp[x9p]at h;simp[h],fun _ _=>rfl,fun _ _=>rfl,fun _=>rfl⟩
theorem eU:EncOk x9o 3:=⟨fun _=>rfl,fun x y h=>by cases x;cases y;simp[x9o]at h;simp[h],fun _ _=>rfl,fun _ _=>rfl,fun _=>rfl⟩
theorem eSv:EncOk x6 3:=⟨fun _=>rfl,fun x y h=>by cases x;cases y;simp[x6]at h;simp[h],fun _ _=>rfl,fun _ _=>rfl,fun _=>rfl⟩
theorem eNum:EncOk z0s 1:=⟨fun _=>rfl,fun x y h=>by simpa[z0s] using h,fun _ _=>rfl,fun _ _=>rfl,fun _=>rfl⟩
def i64 (n:Int):Prop:=-9223372036854775808≤n∧n≤9223372036854775807
def okM (x:Mst):Prop:=i64 x.id∧i64 x.zo
def okD (x:Dcr):Prop:=i64 x.id∧(0≤x.ki∧x.ki≤255)∧i64 x.ma∧i64 x.st∧i64 x.ra∧i64 x.fr∧i64 x.un∧i64 x.op∧i64 x.cl
def okU (x:Tun):Prop:=i64 x.st∧i64 x.si∧x.nm.length≤9223372036854775807
theorem z1c {x:Int}(h1:-9223372036854775808≤x)(h2:x≤9223372036854775807):IntKind.i64.wrap x=x:=by
 simp[IntKind.wrap,IntKind.signed,IntKind.bits]
 omega
end Go.Ev
namespace Go.Ev
theorem z1r (n k:Nat):noHL n (replicate k X)=true:=by
 induction k with
 | zero=>rfl
 | succ k ih=>simp[List.replicate_succ,noHL,noH,ih]
theorem v4r {α:Type}{l:List α}{i:Nat}{x d:α}(h:l[i]?=some x):l.getD i d=x:=by rw[List.getD_eq_getElem?_getD,h];rfl
theorem dt {p:Prop}[Decidable p](h:p):decide p=true:=decide_eq_true h
theorem df {p:Prop}[Decidable p](h:¬ p):decide p=false:=decide_eq_false h
section
variable {α:Type}{enc:α→List AV}{sz:Nat}(E:EncOk enc sz){xs:List α}{k:Nat}
include E
theorem EncOk.gl:decide (xs.length*sz=(z0a enc xs).length)=true:=dt (E.lenL xs).symm
theorem EncOk.gd (hk:k < xs.length):decide (sz≤(drop (k*sz) (z0a enc xs)).length)=true:=dt (E.dl hk)
theorem EncOk.g0 (hk:k < xs.length)(h:0 < sz):decide (0 < (drop (k*sz) (z0a enc xs)).length)=true:=dt (Nat.lt_of_lt_of_le h (E.dl hk))
theorem EncOk.gf (hk:k < xs.length)(f:Nat)(hf:f < sz):decide (0 < (drop f (drop (k*sz) (z0a enc xs))).length)=true:=dt (by have:=E.dl hk;rw[List.length_drop];omega)
theorem EncOk.gfn (hk:k < xs.length)(f n:Nat)(hf:f+n≤sz):decide (n≤(drop f (drop (k*sz) (z0a enc xs))).length)=true:=dt (by have:=E.dl hk;rw[List.length_drop];omega)
end
theorem z9p (x:Mst):like [I 0,I 0] (z0d x)=true:=rfl
theorem y1u (x:Mst):z0t (ofVal (Value.int IntKind.i64 0)) ((z0d x).getD 0 X)=true:=rfl
theorem y40 (x:Mst):cI (z0d x) 0=x.id:=rfl
theorem y1t (x:Mst):z0t (ofVal (Value.int IntKind.i64 0)) ((z0d x).getD 1 X)=true:=rfl
theorem y4z (x:Mst):cI (z0d x) 1=x.zo:=rfl
theorem z16 (x:Dcr):like [I 0,U 0,I 0,I 0,I 0,I 0,I 0,I 0,I 0] (z0b x)=true:=rfl
theorem z2t (x:Dcr):z0t (ofVal (Value.int IntKind.i64 0)) ((z0b x).getD 0 X)=true:=rfl
theorem z4j (x:Dcr):cI (z0b x) 0=x.id:=rfl
theorem z2s (x:Dcr):z0t (ofVal (Value.int IntKind.u8 0)) ((z0b x).getD 1 X)=true:=rfl
theorem z4i (x:Dcr):cI (z0b x) 1=x.ki:=rfl
theorem z2r (x:Dcr):z0t (ofVal (Value.int IntKind.i64 0)) ((z0b x).getD 2 X)=true:=rfl
theorem z4h (x:Dcr):cI (z0b x) 2=x.ma:=rfl
theorem z2q (x:Dcr):z0t (ofVal (Value.int IntKind.i64 0)) ((z0b x).getD 3 X)=true:=rfl
theorem z4g (x:Dcr):cI (z0b x) 3=x.st:=rfl
theorem z2p (x:Dcr):z0t (ofVal (Value.int IntKind.i64 0)) ((z0b x).getD 4 X)=true:=rfl
theorem z4f (x:Dcr):cI (z0b x) 4=x.ra:=rfl
theorem z2o (x:Dcr):z0t (ofVal (Value.int IntKind.i64 0)) ((z0b x).getD 5 X)=true:=rfl
theorem z4e (x:Dcr):cI (z0b x) 5=x.fr:=rfl
theorem z2n (x:Dcr):z0t (ofVal (Value.int IntKind.i64 0)) ((z0b x).getD 6 X)=true:=rfl
theorem z4d (x:Dcr):cI (z0b x) 6=x.un:=rfl
theorem z2m (x:Dcr):z0t (ofVal (Value.int IntKind.i64 0)) ((z0b x).getD 7 X)=true:=rfl
theorem z4c (x:Dcr):cI (z0b x) 7=x.op:=rfl
theorem z2l (x:Dcr):z0t (ofVal (Value.int IntKind.i64 0)) ((z0b x).getD 8 X)=true:=rfl
theorem z4b (x:Dcr):cI (z0b x) 8=x.cl:=rfl
theorem w8x (x:Trn):like [I 0,I 0,Bo false] (x9p x)=true:=rfl
theorem w9a (x:Trn):z0t (ofVal (Value.int IntKind.i64 0)) ((x9p x).getD 0 X)=true:=rfl
theorem w95 (x:Trn):cI (x9p x) 0=x.at':=rfl
theorem w89 (x:Trn):z0t (ofVal (Value.int IntKind.i64 0)) ((x9p x).getD 1 X)=true:=rfl
theorem w94 (x:Trn):cI (x9p x) 1=x.fl:=rfl
theorem w88 (x:Trn):z0t (ofVal (Value.bool false)) ((x9p x).getD 2 X)=true:=rfl
theorem w93 (x:Trn):cB (x9p x) 2=x.ho:=rfl
theorem w9b {xs:List Trn}{k:Nat}{x:Trn}(h:xs[k]?=some x):el (drop 1 (drop (k*3) (z0a x9p xs))) 0 2=[I x.fl,Bo x.ho]:=(eT.elf h 1 2).trans rfl
theorem w8y (a:Int)(b:Bool):like [I 0,Bo false] [I a,Bo b]=true:=rfl
theorem w98 (a:Int)(b:Bool):cI [I a,Bo b] 0=a:=rfl
theorem w97 (a:Int)(b:Bool):cB [I a,Bo b] 1=b:=rfl
end Go.Ev
namespace Go.Ev
def w8v (n:Int):Bool:=decide (0≤n) && decide (n≤144001439)
def w7t (f u:Int):Bool:=decide (0≤f) && decide (f < u) && decide (u≤144001440)
def Trn.sh (x:Trn):Sho:=⟨x.fl,x.ho⟩
def v2q (x y:Trn):Bool:=decide (x.fl=y.fl) && (x.ho == y.ho)
theorem v4t (x y:Trn):v2q x y=true↔x.sh=y.sh:=by
 simp[v2q,Trn.sh]
def w8t:Trn:=⟨0,0,false⟩
def w86:Option Trn→List Trn→Bool
 | _,[]=>true
 | none,t::l=>w8v t.at' && w86 (some t) l
 | some p,t::l=>w8v t.at' && (decide (p.at' < t.at') && !v2q p t) && w86 (some t) l
def w9x (l:List Trn):Bool:=w86 none l && decide (0 < l.length)
def v2i (f u:Int)(l:List Trn):Bool:=w7t f u && w9x l && decide ((l.getD 0 w8t).at'=f) && decide ((l.getD (l.length-1) w8t).at' < u)
end Go.Ev
