/- An evaluator of the model, part 5: calls told as propositions, contracts. -/
import Derived.Test.YtdpfgjljehajbaaGreatDoorE4b
set_option linter.unusedVariables false
set_option linter.unusedSimpArgs false
namespace Go.Ev

def cIf (b:Bool)(p q:Prop):Prop:=Bool.rec q p b
def z2b {α:Type}(o:Option α)(k:α→Prop):Prop:=Option.rec False k o
theorem z0x (p q:Prop):cIf true p q=p:=rfl
theorem z6s (p q:Prop):cIf false p q=q:=rfl
theorem z4v {b:Bool}{p q:Prop}(h:cIf b p q):(b=true∧p)∨(b=false∧q):=by
 cases b
 ·exact .inr ⟨rfl,h⟩
 ·exact .inl ⟨rfl,h⟩
theorem z0i {b:Bool}{p q:Prop}(h1:b=true→p)(h2:b=false→q):cIf b p q:=by
 cases b
 ·exact h2 rfl
 ·exact h1 rfl
theorem z0h {b:Bool}{p q:Prop}(hb:b=true)(h:p):cIf b p q:=by subst hb;exact h
theorem z02 {b:Bool}{p q:Prop}(hb:b=false)(h:q):cIf b p q:=by subst hb;exact h
theorem z0r {b:Bool}{p:Prop}(h:cIf b p False):b=true∧p:=by
 rcases z4v h with h | h
 ·exact h
 ·exact h.2.elim
theorem z1j {α:Type}{o:Option α}{k:α→Prop}(h:z2b o k):∃ v,o=some v∧k v:=by
 cases o with
 | none=>exact False.elim h
 | some v=>exact ⟨v,rfl,h⟩
structure WCx where
 P:Program
 gt:Nat→Option (List AV)
 eqt:TypeId→Bool
 nat:FuncId→List AV→Option AV
 hw:FuncId→Option (List AV→St→(CR→St→Prop)→Prop)
 lm:Nat→Option (List Nat)
 tp:Nat→Bool
 ct:Nat→Bool
 sm:Nat→Option Nat
 bs:Nat:=0

open Classical in
noncomputable def y0v (W:List AV→St→(CR→St→Prop)→Prop)(args:List AV)(S:St):Option (CR×St) :=
 if h:∃ p:CR×St,W args S fun r s=>r=p.1∧s=p.2 then some h.choose else none

def One (W:List AV→St→(CR→St→Prop)→Prop):Prop:=∀ args S,∃ (p:CR×St) (D:Prop),∀ k,W args S k↔D∧k p.1 p.2

theorem One.hook {W:List AV→St→(CR→St→Prop)→Prop}(h1:One W){args:List AV}{S:St}{k:CR→St→Prop}(h:W args S k):∃ r S',y0v W args S=some (r,S')∧k r S':=by
 obtain ⟨p,D,hp⟩:=h1 args S
 have hd:=((hp k).1 h).1
 have hx:∃ p:CR×St,W args S fun r s=>r=p.1∧s=p.2:=⟨p,(hp _).2 ⟨hd,rfl,rfl⟩⟩
 unfold y0v
 rw[dif_pos hx]
 refine ⟨hx.choose.1,hx.choose.2,rfl,?_⟩
 have h2:=((hp _).1 hx.choose_spec).2
 rw[← h2.1,← h2.2]
 exact ((hp k).1 h).2
theorem y9w {W:List AV→St→(CR→St→Prop)→Prop}{args:List AV}{S S':St}{r:CR}(h:y0v W args S=some (r,S')):W args S fun r' s=>r'=r∧s=S':=by
 unfold y0v at h
 split at h
 ·rename_i hx
  have h2:=hx.choose_spec
  rw[Option.some.inj h]at h2
  exact h2
 ·cases h

noncomputable def WCx.cx (C:WCx):Cx:={ P:=C.P,gt:=C.gt,eqt:=C.eqt,nat:=C.nat,hk:=fun g=>(C.hw g).map y0v }
def WCx.pc (C:WCx):Cx:={ P:=C.P,gt:=C.gt,eqt:=C.eqt,nat:=C.nat,hk:=fun _=>none }

def AV.toInt:AV→Int | .int _ n=>n | _=>0
def AV.toBool:AV→Bool | .bool b=>b | _=>false
def AV.toStr:AV→List UInt8 | .str s=>s | _=>[]
def AV.toL:AV→List AV | .vs l _ _=>l | _=>[]
def AV.toN:AV→Nat | .vs _ n _=>n | _=>0
def AV.toTk:AV→Tok | .vs _ _ t=>t | _=>.none
def z0t:AV→AV→Bool
 | .int k _,.int k' _=>k == k'
 | .bool _,.bool _=>true
 | .str _,.str _=>true
 | .vs _ _ _,.vs _ _ _=>true
 | .int _ _,_=>false
 | .bool _,_=>false
 | .str _,_=>false
 | .vs _ _ _,_=>false
 | _,_=>true
def el (l:List AV)(off n:Nat):List AV:=(l.drop off).take n
def cI (E:List AV)(j:Nat):Int:=(E.getD j .bad).toInt
def cB (E:List AV)(j:Nat):Bool:=(E.getD j .bad).toBool
def cS (E:List AV)(j:Nat):List UInt8:=(E.getD j .bad).toStr
def cL (E:List AV)(j:Nat):List AV:=(E.getD j .bad).toL
def cN (E:List AV)(j:Nat):Nat:=(E.getD j .bad).toN
def cT (E:List AV)(j:Nat):Tok:=(E.getD j .bad).toTk
def z2w (k:AV)(es:List (AV×AV)):AV:=(z4t k es).getD .bad
def y6n (k:AV)(es:List (AV×AV)):Bool:=(z4t k es).isSome
def z88 (z:AV)(E:List AV)(j:Nat):AV:=match z with
 | .int k _=>.int k (cI E j)
 | .bool _=>.bool (cB E j)
 | .str _=>.str (cS E j)
 | .vs _ _ _=>.vs (cL E j) (cN E j) (cT E j)
 | _=>E.getD j .bad
def like:List AV→List AV→Bool
 | [],[]=>true
 | z::zs,v::vs=>z0t z v && like zs vs
 | _,_=>false
def z78:List AV→List AV→Nat→List AV
 | [],_,_=>[]
 | z::zs,E,j=>z88 z E j::z78 zs E (j+1)

section
variable (C:WCx)

def y8l (a:AV)(k:Nat→Prop):Prop:=match a with
 | .int _ n=>cIf (decide (0≤n)) (k n.toNat) False
 | _=>False
def z7o (d:Nat)(a:Option AV)(k:Nat→Prop):Prop:=match a with
 | none=>k d
 | some a=>y8l a k
def y7l (t:TypeId)(l:List AV)(off:Nat)(k:AV→Prop):Prop :=
 match z9o C.pc t,szT C.pc t with
 | some true,some n=>cIf (decide (off+n≤l.length)) (k (.agg (el l off n))) False
 | some false,some _=>z2b l[off]? k
 | _,_=>False
def y7m (t:TypeId)(l:List AV)(off:Nat)(k:AV→Prop):Prop :=
 match z9o C.pc t,szT C.pc t,z4p C.pc t with
 | some true,some n,some zs=>cIf (decide (off+n≤l.length)) (cIf (like zs (el l off n)) (k (.agg (z78 zs (el l off n) 0))) False) False
 | some false,some _,some [z]=>cIf (decide (off < l.length)) (cIf (z0t z (l.getD off .bad)) (k (z88 z l off)) False) False
 | _,_,_=>False
def y5g (S:St)(t:TypeId)(a:AV)(k:AV→Prop):Prop:=match a with
 | .ptr h off=>match z1e S h with
  | some (l,_)=>match C.tp h with
   | true=>y7m C t l off k
   | false=>y7l C t l off k
  | none=>False
 | .vp l=>y7m C t l 0 k
 | _=>False
def y1e (t:TypeId)(x i:AV)(k:AV→Prop):Prop :=
 y8l i fun j=>match C.P.underlying t with
  | some (.array len e)=>match szT C.pc e with
   | some n=>cIf (decide (j < len)) (match x with
    | .ptr h off=>k (.ptr h (off+j*n))
    | .vp l=>k (.vp (l.drop (j*n)))
    | _=>False) False
   | none=>False
  | some (.slice e)=>match szT C.pc e with
   | some n=>match x with
    | .vs l m _=>cIf (decide (j < m)) (cIf (decide (m*n=l.length)) (cIf (decide (0 < n)) (k (.vp (l.drop (j*n)))) False) False) False
    | .row h off m _=>cIf (decide (j < m)) (k (.ptr h (off+j*n))) False
    | _=>False
   | none=>False
  | _=>False
def y8w (t:TypeId)(x i:AV)(k:AV→Prop):Prop :=
 y8l i fun j=>match C.P.underlying t with
  | some (.array len e)=>match szT C.pc e with
   | some n=>match x with
    | .agg l=>cIf (decide (j < len)) (y7l C e l (j*n) k) False
    | _=>False
   | none=>False
  | some .string=>match x with
   | .str s=>cIf (decide (j < s.length)) (k (.int .u8 ((s.getD j 0).toNat:Int))) False
   | _=>False
  | _=>False
def y71 (t:TypeId)(x:AV)(lo hi mx:Option AV)(k:AV→Prop):Prop :=
 match C.P.underlying t with
 | some .string=>match x with
  | .str s=>match mx with
   | some _=>False
   | none=>z7o 0 lo fun l=>z7o s.length hi fun h=>cIf (decide (l≤h)) (cIf (decide (h≤s.length)) (k (.str ((s.drop l).take (h-l)))) False) False
  | _=>False
 | some (.slice e)=>match szT C.pc e with
  | some z=>match x with
   | .vs cs n tk=>match mx with
    | none=>z7o 0 lo fun l=>z7o n hi fun h=>cIf (decide (l≤h)) (cIf (decide (h≤n)) (k (.vs ((cs.drop (l*z)).take ((h-l)*z)) (h-l) (if l=0∧h=n then tk else .none))) False) False
    | some m=>z2b (z6u C.pc t x lo hi (some m)) k
   | .row hh off n c=>match mx with
    | none=>z7o 0 lo fun l=>z7o n hi fun h=>cIf (decide (l≤h)) (cIf (decide (h≤c)) (k (.row hh (if c=l then off else off+l*z) (h-l) (c-l))) False) False
    | some _=>False
   | _=>False
  | none=>False
 | _=>z2b (z6u C.pc t x lo hi mx) k

def y6l (S:St)(t:TypeId)(m key:AV)(ok:Bool)(k:AV→Prop):Prop :=
 match C.P.underlying t with
 | some (.map kt e)=>match m with
  | .mp h=>match S.hs[h]? with
   | some (some (.map es))=>match C.P.underlying kt with
    | some kd=>match z14 kd key with
     | true=>match zeroV C.pc e with
      | some z=>cIf (es.all fun x=>z09 key x.1) (cIf (y6n key es)
        (cIf (z0t z (z2w key es)) (k (match ok with | true=>.tup [z88 z [z2w key es] 0,.bool true] | false=>z88 z [z2w key es] 0)) False)
        (k (match ok with | true=>.tup [z,.bool false] | false=>z))) False
      | none=>False
     | false=>False
    | none=>False
   | _=>False
  | _=>False
 | _=>False
def y3d (S:St)(t:TypeId)(m key v:AV)(k:AV→St→Prop):Prop :=
 match C.P.underlying t with
 | some (.map kt _)=>match m with
  | .mp h=>match S.hs[h]? with
   | some (some (.map es))=>match C.P.underlying kt with
    | some kd=>match z14 kd key with
     | true=>cIf (es.all fun x=>z09 key x.1) (k .bad (S.put h (.map (z08 key v es)))) False
     | false=>False
    | none=>False
   | _=>False
  | _=>False
 | _=>False

def y48 (S:St)(ev:Operand→AV)(o:Op)(k:AV→Prop):Prop:=match o with
 | .load t a=>y5g C S t (ev a) k
 | .lookup t m kk ok=>y6l C S t (ev m) (ev kk) ok k
 | .indexAddr t x i=>y1e C t (ev x) (ev i) k
 | .index t x i=>y8w C t (ev x) (ev i) k
 | .slice t x lo hi mx=>y71 C t (ev x) (lo.map ev) (hi.map ev) (mx.map ev) k
 | .pick c a b=>match ev c with
  | .bool t=>cIf t (k (ev a)) (k (ev b))
  | _=>False
 | .binOp op t x y r=>match op with
  | .add=>match ev x,ev y with
   | .str a,.str b=>cIf (decide (a.length+b.length≤9223372036854775807)) (k (.str (a++b))) False
   | _,_=>z2b (z01 C.pc S ev (.binOp .add t x y r)) k
  | op=>z2b (z01 C.pc S ev (.binOp op t x y r)) k
 | o=>z2b (z01 C.pc S ev o) k

def x31 (S:St)(sz:Nat)(tx:TypeId)(x:AV)(k:Nat×List AV→Prop):Prop:=match x with
 | .vs l n _=>match C.P.underlying tx with
  | some (.slice _)=>cIf (decide (l.length=n*sz)) (k (n,l)) False
  | _=>False
 | x=>z2b (z9a C.pc S sz tx x) k
def y6t (S:St)(t tx:TypeId)(s x:AV)(k:AV→St→Prop):Prop :=
 match C.P.underlying t with
 | some (.slice e)=>match szT C.pc e,byT C.pc e,z4p C.pc e with
  | some sz,some by',some _=>x31 C S sz tx x fun dn=>match s with
   | .vs l n tk =>
    cIf (dn.2.all AV.one) (cIf (decide ((n+dn.1)*by'≤140737488355328)) (cIf (decide (n+dn.1≤140737488355328)) (cIf (decide (l.length=n*sz)) (cIf (decide (0 < sz))
     (cIf (decide (dn.1=0)) (k (.vs l n tk) S) (match tk with
      | .zero=>cIf (decide (n=0)) (k (.vs dn.2 dn.1 (.own S.ts.length)) { S with ts:=S.ts++[(dn.1,(sz,e))] }) False
      | .own j=>cIf (decide (S.ts[j]?=some (n,(sz,e)))) (k (.vs (l++dn.2) (n+dn.1) (.own j)) { S with ts:=S.ts.set j (n+dn.1,(sz,e)) }) False
      | .none=>False)) False) False) False) False) False
   | _=>False
  | _,_,_=>False
 | _=>False

def y7x (t:TypeId)(l:List AV)(off:Nat)(v:AV)(k:List AV→Prop):Prop :=
 match szT C.pc t with
 | some n=>cIf (decide (v.cells.length=n)) (cIf (decide (off+n≤l.length)) (cIf (v.cells.all AV.one) (k (y2g l off v.cells)) False) False) False
 | none=>False

def y0b (S:St)(ev:Operand→AV)(o:Op)(k:AV→St→Prop):Prop:=match o with
 | .box t x=>cIf ((ev x).cells.all AV.one) (k (.ptr S.hs.length 0) (S.push (.cells (ev x).cells t))) False
 | .store t a x=>match ev a with
  | .ptr h off=>match z1e S h with
   | some (l,bt)=>y7x C t l off (ev x) fun l'=>k .bad (S.put h (.cells l' bt))
   | none=>False
  | _=>False
 | .makeSlice t n c=>match C.P.underlying t with
  | some (.slice e)=>match szT C.pc e,byT C.pc e,z4p C.pc e,(ev n),(ev c) with
   | some (sz+1),some by',some z,.int .i64 n,.int .i64 c =>
    cIf (decide (0≤n)) (cIf (decide (n≤c)) (cIf (decide (c*by'≤140737488355328)) (cIf (decide (c≤140737488355328)) (k (.row S.hs.length 0 n.toNat c.toNat) (S.push (.cells (z3u z c.toNat) e))) False) False) False) False
   | _,_,_,_,_=>False
  | _=>False
 | .next it isStr=>match ev it with
  | .ptr h 0=>match S.hs[h]? with
   | some (some (.iter s pos))=>match isStr with
     | true=>cIf (decide (pos < s.length)) (k (.tup [.bool true,.int .i64 pos,.int .i32 (Utf8.decode ⟨s.toArray⟩ pos).1]) (S.put h (.iter s (pos+(Utf8.decode ⟨s.toArray⟩ pos).2)))) (k (.tup [.bool false]) S)
     | false=>False
   | _=>False
  | _=>False
 | .mapUpdate t m kk v=>y3d C S t (ev m) (ev kk) (ev v) k
 | .insert t m kk v=>y3d C S t (ev m) (ev kk) (ev v) k
 | .call c=>match c.callee with
  | .builtin .append=>match c.args.toList,c.argTypes.toList with
   | [s,x],[t,tx]=>y6t C S t tx (ev s) (ev x) k
   | _,_=>False
  | _=>False
 | o=>z2b (stOp C.pc S ev o) fun p=>k p.1 p.2

def y7t (g:FuncId)(args:List AV)(S:St)(k:CR→St→Prop):Prop :=
 match C.nat g args with
 | some v=>k (.ret v) S
 | none=>match C.hw g with
  | some W=>W args S k
  | none=>False

def y8u:Op→Bool
 | .move _ | .assign _ | .pick .. | .build .. | .load .. | .nilCheck .. | .binOp .. | .unOp .. | .makeInterface .. | .makeFunc .. | .slice .. | .fieldAddr .. | .field .. | .indexAddr .. | .index .. | .lookup .. | .typeAssert .. | .extract ..=>true
 | .call c=>match c.callee with
  | .builtin .append=>false
  | .builtin _=>true
  | _=>false
 | _=>false

def opW (S:St)(ev:Operand→AV)(o:Op)(k:CR→St→Prop):Prop :=
 match y8u o with
 | true=>y48 C S ev o fun v=>k (.ret v) S
 | false=>match o with
  | .call c=>match c.callee with
   | .value f=>match ev f with
    | .fn (.func g) a b=>y7t C g (a++c.args.toList.map ev++b) S k
    | _=>False
   | _=>y0b C S ev (.call c) fun v S'=>k (.ret v) S'
  | .panic x=>match ev x with
   | .ifc t v=>k (.pan (.ifc t v)) S
   | _=>False
  | .convert src dst x=>match z01 C.pc S ev (.convert src dst x) with
   | some v=>k (.ret v) S
   | none=>z2b (stOp C.pc S ev (.convert src dst x)) fun p=>k (.ret p.1) p.2
  | o=>y0b C S ev o fun v S'=>k (.ret v) S'
end
end Go.Ev
namespace Go.Ev
section
variable {C:WCx}{sf:Self}

theorem y6i {a:AV}{k:Nat→Prop}(h:y8l a k):∃ n,a.nat?=some n∧k n:=by
 unfold y8l at h
 split at h
 ·obtain ⟨h1,h2⟩:=z0r h
  exact ⟨_,by simp only[AV.nat?];rw[if_pos (of_decide_eq_true h1)],h2⟩
 ·exact h.elim
theorem z5t {d:Nat}{a:Option AV}{k:Nat→Prop}(h:z7o d a k):∃ n,z3e d a=some n∧k n:=by
 cases a with
 | none=>exact ⟨d,rfl,h⟩
 | some a=>exact y6i h
theorem y75 {t:TypeId}{l:List AV}{off:Nat}{k:AV→Prop}(h:y7l C t l off k):∃ v,z4x C.pc t l off=some v∧k v:=by
 unfold y7l at h
 unfold z4x
 split at h
 ·rename_i h1 h2
  obtain ⟨h3,h4⟩:=z0r h
  exact ⟨_,by rw[h1,h2];simp only[];rw[if_pos (of_decide_eq_true h3)];rfl,h4⟩
 ·rename_i h1 h2
  obtain ⟨v,h3,h4⟩:=z1j h
  exact ⟨v,by rw[h1,h2];exact h3,h4⟩
 ·exact h.elim
theorem y14 {z:AV}{E:List AV}{j:Nat}(h:z0t z (E.getD j .bad)=true):z88 z E j=E.getD j .bad:=by
 unfold z88
 cases z<;>simp only[cI,cB,cS,cL,cN,cT]<;>generalize E.getD j .bad=v at h ⊢<;>cases v<;>simp[z0t]at h<;>simp[AV.toInt,AV.toBool,AV.toStr,AV.toL,AV.toN,AV.toTk, *]
theorem y12 (E:List AV):∀ (zs:List AV) (j:Nat),like zs (E.drop j)=true→z78 zs E j=E.drop j
 | [],j,h=>by
  simp only[z78]
  cases hd:E.drop j with
  | nil=>rfl
  | cons a l=>rw[hd]at h;simp[like]at h
 | z::zs,j,h=>by
  simp only[z78]
  cases hd:E.drop j with
  | nil=>rw[hd]at h;simp[like]at h
  | cons a l =>
   rw[hd]at h
   simp only[like,Bool.and_eq_true]at h
   have hl:j < E.length:=by
    rcases Nat.lt_or_ge j E.length with h1 | h1
    ·exact h1
    ·rw[List.drop_eq_nil_of_le h1]at hd;cases hd
   have h2:=List.drop_eq_getElem_cons hl
   rw[hd]at h2
   simp only[List.cons.injEq]at h2
   have h3:E.getD j .bad=a:=by simp[List.getD_eq_getElem?_getD,List.getElem?_eq_getElem hl,h2.1]
   rw[y14 (by rw[h3];exact h.1),h3,y12 E zs (j+1) (by rw[← h2.2];exact h.2),← h2.2]
theorem y76 {t:TypeId}{l:List AV}{off:Nat}{k:AV→Prop}(h:y7m C t l off k):∃ v,z4x C.pc t l off=some v∧k v:=by
 unfold y7m at h
 unfold z4x
 split at h
 ·rename_i h1 h2 h5
  obtain ⟨h3,h⟩:=z0r h
  obtain ⟨h4,h⟩:=z0r h
  have:=y12 _ _ 0 (by rw[List.drop_zero];exact h4)
  rw[List.drop_zero]at this
  rw[this]at h
  exact ⟨_,by rw[h1,h2];simp only[];rw[if_pos (of_decide_eq_true h3)];rfl,h⟩
 ·rename_i h1 h2 h5
  obtain ⟨h3,h⟩:=z0r h
  obtain ⟨h4,h⟩:=z0r h
  have h3:=of_decide_eq_true h3
  rw[y14 h4]at h
  refine ⟨l[off],by rw[h1,h2];exact List.getElem?_eq_getElem h3,?_⟩
  simpa[List.getD_eq_getElem?_getD,List.getElem?_eq_getElem h3] using h
 ·exact h.elim
theorem y4o {S:St}{t:TypeId}{a:AV}{k:AV→Prop}(h:y5g C S t a k):∃ v,z4k C.pc S t a=some v∧k v:=by
 unfold y5g at h
 unfold z4k
 split at h
 ·split at h
  ·rename_i h1
   simp only[h1]
   split at h
   ·exact y76 h
   ·exact y75 h
  ·exact h.elim
 ·exact y76 h
 ·exact h.elim
theorem y7g {t:TypeId}{x i:AV}{k:AV→Prop}(h:y1e C t x i k):∃ v,z7b C.pc t x i=some v∧k v:=by
 unfold y1e at h
 obtain ⟨j,hj,h⟩:=y6i h
 unfold z7b
 rw[hj]
 simp only
 split at h
 ·rename_i len e hu
  rw[show C.pc.P.underlying t=_ from hu]
  simp only
  split at h
  ·rename_i n hn
   rw[hn]
   obtain ⟨h1,h⟩:=z0r h
   simp only[if_pos (of_decide_eq_true h1)]
   split at h
   ·exact ⟨_,rfl,h⟩
   ·exact ⟨_,rfl,h⟩
   ·exact h.elim
  ·exact h.elim
 ·rename_i e hu
  rw[show C.pc.P.underlying t=_ from hu]
  simp only
  split at h
  ·rename_i n hn
   rw[hn]
   simp only
   split at h
   ·obtain ⟨h1,h⟩:=z0r h
    obtain ⟨h2,h⟩:=z0r h
    obtain ⟨h3,h⟩:=z0r h
    exact ⟨_,by simp only[];rw[if_pos ⟨of_decide_eq_true h1,of_decide_eq_true h2,of_decide_eq_true h3⟩],h⟩
   ·obtain ⟨h1,h⟩:=z0r h
    exact ⟨_,by simp only[];rw[if_pos (of_decide_eq_true h1)],h⟩
   ·exact h.elim
  ·exact h.elim
 ·exact h.elim
theorem x26 {t:TypeId}{x i:AV}{k:AV→Prop}(h:y8w C t x i k):∃ v,y2q C.pc t x i=some v∧k v:=by
 unfold y8w at h
 obtain ⟨j,hj,h⟩:=y6i h
 unfold y2q
 rw[hj]
 simp only
 split at h
 ·rename_i len e hu
  rw[show C.pc.P.underlying t=_ from hu]
  simp only
  split at h
  ·rename_i n hn
   rw[hn]
   simp only
   split at h
   ·obtain ⟨h1,h⟩:=z0r h
    simp only[if_pos (of_decide_eq_true h1)]
    exact y75 h
   ·exact h.elim
  ·exact h.elim
 ·rename_i hu
  rw[show C.pc.P.underlying t=_ from hu]
  simp only
  split at h
  ·rename_i s
   obtain ⟨h1,h⟩:=z0r h
   have h1:=of_decide_eq_true h1
   simp only[List.getElem?_eq_getElem h1]
   refine ⟨_,rfl,?_⟩
   simpa[List.getD_eq_getElem?_getD,List.getElem?_eq_getElem h1] using h
  ·exact h.elim
 ·exact h.elim
theorem x2k {t:TypeId}{x:AV}{lo hi mx:Option AV}{k:AV→Prop}(h:y71 C t x lo hi mx k):∃ v,z6u C.pc t x lo hi mx=some v∧k v:=by
 unfold y71 at h
 split at h
 ·rename_i hu
  split at h
  ·split at h
   ·exact h.elim
   ·obtain ⟨l,hl,h⟩:=z5t h
    obtain ⟨m,hm,h⟩:=z5t h
    obtain ⟨h1,h⟩:=z0r h
    obtain ⟨h2,h⟩:=z0r h
    refine ⟨_,?_,h⟩
    unfold z6u
    rw[show C.pc.P.underlying t=_ from hu]
    simp only[hl,hm]
    rw[if_pos ⟨of_decide_eq_true h1,of_decide_eq_true h2⟩]
  ·exact h.elim
 ·rename_i e hu
  split at h
  ·rename_i z hz
   split at h
   ·split at h
    ·obtain ⟨l,hl,h⟩:=z5t h
     obtain ⟨m,hm,h⟩:=z5t h
     obtain ⟨h1,h⟩:=z0r h
     obtain ⟨h2,h⟩:=z0r h
     refine ⟨_,?_,h⟩
     unfold z6u
     rw[show C.pc.P.underlying t=_ from hu]
     simp only[hz,hl,hm]
     rw[if_pos ⟨of_decide_eq_true h1,of_decide_eq_true h2⟩]
    ·exact z1j h
   ·split at h
    ·obtain ⟨l,hl,h⟩:=z5t h
     obtain ⟨m,hm,h⟩:=z5t h
     obtain ⟨h1,h⟩:=z0r h
     obtain ⟨h2,h⟩:=z0r h
     refine ⟨_,?_,h⟩
     unfold z6u
     rw[show C.pc.P.underlying t=_ from hu]
     simp only[hz,hl,hm]
     rw[if_pos ⟨of_decide_eq_true h1,of_decide_eq_true h2⟩]
    ·exact h.elim
   ·exact h.elim
  ·exact h.elim
 ·exact z1j h

theorem y37:∀ (fs:List Field) (l m:List AV),z07 C.cx fs l m=z07 C.pc fs l m
 | [],l,m=>by cases l<;>cases m<;>rfl
 | f::fs,[],m=>by cases m<;>rfl
 | f::fs,a::l,[]=>rfl
 | f::fs,a::l,b::m=>by simp only[z07,y37 fs];rfl
theorem y8y:∀ (fs:List Field),z3g C.cx fs=z3g C.pc fs
 | []=>rfl
 | f::fs=>by simp only[z3g,y8y fs];rfl
theorem x7o (op:BinOp)(t:TypeId)(cst:Bool)(x y:AV):y4y C.cx op t cst x y=y4y C.pc op t cst x y:=by
 have he:∀ x y,eqA C.cx t cst x y=eqA C.pc t cst x y:=by
  intro x y
  unfold eqA
  simp only[y37,y8y]
  rfl
 unfold y4y
 simp only[he]
theorem y2i (S:St)(ev:Operand→AV)(o:Op):z01 C.cx S ev o=z01 C.pc S ev o:=by
 cases o
 case binOp=>simp only[z01,x7o]
 all_goals rfl
theorem y92 (S:St)(ev:Operand→AV)(o:Op):stOp C.cx S ev o=stOp C.pc S ev o:=by cases o<;>rfl
theorem x4p (env:Env):z1l C.cx env=z1l C.pc env:=rfl

theorem x02 {S:St}{t:TypeId}{m key:AV}{ok:Bool}{k:AV→Prop}(h:y6l C S t m key ok k):∃ v,z8v C.pc S t m key ok=some v∧k v:=by
 unfold y6l at h
 unfold z8v
 split at h
 case h_2=>exact h.elim
 rename_i kt e hu
 rw[show C.pc.P.underlying t=_ from hu]
 try simp only
 split at h
 case h_2=>exact h.elim
 rename_i hh
 try simp only
 split at h
 case h_2=>exact h.elim
 rename_i es hes
 split at h
 case h_2=>exact h.elim
 rename_i kd hkd
 rw[hes,show C.pc.P.underlying kt=_ from hkd]
 try simp only
 split at h
 case h_2=>exact h.elim
 rename_i hkl
 split at h
 case h_2=>exact h.elim
 rename_i z hz
 obtain ⟨q1,h⟩:=z0r h
 rw[if_pos ⟨hkl,q1⟩]
 rcases z4v h with ⟨q2,h⟩ | ⟨q2,h⟩
 ·obtain ⟨q3,h⟩:=z0r h
  cases hf:z4t key es with
  | none=>rw[y6n,hf]at q2;cases q2
  | some v =>
   have hg:z2w key es=v:=by rw[z2w,hf];rfl
   rw[hg]at q3 h
   have hw:z88 z [v] 0=v:=y14 (E:=[v]) (j:=0) q3
   rw[hw]at h
   cases ok<;>exact ⟨_,rfl,h⟩
 ·cases hf:z4t key es with
  | some v=>rw[y6n,hf]at q2;cases q2
  | none =>
   simp only[hz]
   cases ok<;>exact ⟨_,rfl,h⟩
theorem y4k {S:St}{ev:Operand→AV}{o:Op}{k:AV→Prop}(h:y48 C S ev o k):∃ v,z01 C.cx S ev o=some v∧k v:=by
 rw[y2i]
 unfold y48 at h
 split at h
 ·simp only[z01];exact y4o h
 ·simp only[z01];exact x02 h
 ·simp only[z01];exact y7g h
 ·simp only[z01];exact x26 h
 ·simp only[z01];exact x2k h
 ·simp only[z01]
  split at h
  ·rename_i t ht
   rcases z4v h with ⟨rfl,h⟩ | ⟨rfl,h⟩
   ·exact ⟨_,by rw[ht];rfl,h⟩
   ·exact ⟨_,by rw[ht];rfl,h⟩
  ·exact h.elim
 ·split at h
  ·split at h
   ·rename_i a b ha hb
    obtain ⟨q,h⟩:=z0r h
    refine ⟨_,?_,h⟩
    simp only[z01,ha,hb,y4y,y28]
    rw[if_pos (of_decide_eq_true q)]
   ·exact z1j h
  ·exact z1j h
 ·exact z1j h

theorem x6o {S:St}{sz:Nat}{tx:TypeId}{x:AV}{k:Nat×List AV→Prop}(h:x31 C S sz tx x k):∃ dn,z9a C.pc S sz tx x=some dn∧k dn:=by
 unfold x31 at h
 split at h
 ·rename_i l n t
  split at h
  ·rename_i e hu
   obtain ⟨q1,h⟩:=z0r h
   refine ⟨_,?_,h⟩
   unfold z9a
   rw[show C.pc.P.underlying tx=_ from hu]
   simp only[z7r]
   rw[if_pos (of_decide_eq_true q1)]
  ·exact h.elim
 ·obtain ⟨dn,h1,h2⟩:=z1j h
  exact ⟨dn,h1,h2⟩
theorem x1x {S:St}{t tx:TypeId}{s x:AV}{k:AV→St→Prop}(h:y6t C S t tx s x k):∃ v S',z2e C.pc S t tx s x=some (v,S')∧k v S':=by
 unfold y6t at h
 unfold z2e
 split at h
 ·rename_i e hu
  rw[show C.pc.P.underlying t=_ from hu]
  simp only
  split at h
  ·rename_i sz by' z h1 h2 h3
   rw[h1,h2,h3]
   simp only
   obtain ⟨⟨d,news⟩,h4,h⟩:=x6o h
   rw[h4]
   split at h
   ·rename_i l n tk _
    simp only at h ⊢
    obtain ⟨q1,h⟩:=z0r h
    obtain ⟨q2,h⟩:=z0r h
    obtain ⟨q3,h⟩:=z0r h
    obtain ⟨q4,h⟩:=z0r h
    obtain ⟨q5,h⟩:=z0r h
    rw[if_pos ⟨q1,of_decide_eq_true q2,of_decide_eq_true q3,of_decide_eq_true q4,of_decide_eq_true q5⟩]
    rcases z4v h with ⟨q6,h⟩ | ⟨q6,h⟩
    ·rw[if_pos (of_decide_eq_true q6)];exact ⟨_,_,rfl,h⟩
    ·rw[if_neg (of_decide_eq_false q6)]
     cases tk with
     | zero=>obtain ⟨q7,h⟩:=z0r h;simp only;rw[if_pos (of_decide_eq_true q7)];exact ⟨_,_,rfl,h⟩
     | own j=>obtain ⟨q7,h⟩:=z0r h;simp only;rw[if_pos (of_decide_eq_true q7)];exact ⟨_,_,rfl,h⟩
     | none=>exact h.elim
   ·exact h.elim
  ·exact h.elim
 ·exact h.elim
theorem x16 {t:TypeId}{l:List AV}{off:Nat}{v:AV}{k:List AV→Prop}(h:y7x C t l off v k):∃ l',y0l C.pc t l off v=some l'∧k l':=by
 unfold y7x at h
 unfold y0l
 split at h
 ·rename_i n hn
  obtain ⟨q1,h⟩:=z0r h
  obtain ⟨q2,h⟩:=z0r h
  obtain ⟨q3,h⟩:=z0r h
  rw[hn]
  simp only
  rw[if_pos ⟨of_decide_eq_true q1,of_decide_eq_true q2,q3⟩]
  exact ⟨_,rfl,h⟩
 ·exact h.elim
theorem y5d {S:St}{t:TypeId}{m key x:AV}{k:AV→St→Prop}(h:y3d C S t m key x k):∃ v S',(match C.pc.P.underlying t with
  | some (.map kt _)=>match m with
   | .mp h=>match S.hs[h]?,C.pc.P.underlying kt with
    | some (some (.map es)),some kd=>if z14 kd key=true∧es.all (fun x=>z09 key x.1)=true then
      some (AV.bad,S.put h (.map (z08 key x es))) else none
    | _,_=>none
   | _=>none
  | _=>none)=some (v,S')∧k v S':=by
 unfold y3d at h
 split at h
 case h_2=>exact h.elim
 rename_i kt e hu
 rw[show C.pc.P.underlying t=_ from hu]
 try simp only
 split at h
 case h_2=>exact h.elim
 rename_i hh
 try simp only
 split at h
 case h_2=>exact h.elim
 rename_i es hes
 split at h
 case h_2=>exact h.elim
 rename_i kd hkd
 rw[hes,show C.pc.P.underlying kt=_ from hkd]
 try simp only
 split at h
 case h_2=>exact h.elim
 rename_i hkl
 obtain ⟨q1,h⟩:=z0r h
 rw[if_pos ⟨hkl,q1⟩]
 exact ⟨_,_,rfl,h⟩
theorem z6q {S:St}{ev:Operand→AV}{o:Op}{k:AV→St→Prop}(h:y0b C S ev o k):∃ v S',stOp C.cx S ev o=some (v,S')∧k v S':=by
 rw[y92]
 unfold y0b at h
 split at h
 ·obtain ⟨q1,h⟩:=z0r h
  simp only[stOp]
  rw[if_pos q1]
  exact ⟨_,_,rfl,h⟩
 ·simp only[stOp]
  split at h
  ·rename_i hh off ha
   rw[ha]
   simp only
   split at h
   ·rename_i l bt hb
    rw[hb]
    simp only
    obtain ⟨l',q1,h⟩:=x16 h
    rw[q1]
    exact ⟨_,_,rfl,h⟩
   ·exact h.elim
  ·exact h.elim
 ·simp only[stOp]
  split at h
  ·rename_i e hu
   rw[show C.pc.P.underlying _=_ from hu]
   simp only
   split at h
   ·rename_i h1 h2 h3 h4 h5
    rw[h1,h2,h3,h4,h5]
    obtain ⟨q1,h⟩:=z0r h
    obtain ⟨q2,h⟩:=z0r h
    obtain ⟨q3,h⟩:=z0r h
    obtain ⟨q4,h⟩:=z0r h
    simp only
    rw[if_pos ⟨of_decide_eq_true q1,of_decide_eq_true q2,of_decide_eq_true q3,of_decide_eq_true q4⟩]
    exact ⟨_,_,rfl,h⟩
   ·exact h.elim
  ·exact h.elim
 ·simp only[stOp]
  split at h
  ·rename_i hh ha
   rw[ha]
   simp only
   split at h
   ·rename_i s pos hb
    rw[hb]
    simp only
    split at h
    ·rcases z4v h with ⟨q1,h⟩ | ⟨q1,h⟩
     ·simp only[if_true]
      rw[if_pos (of_decide_eq_true q1)]
      exact ⟨_,_,rfl,h⟩
     ·simp only[if_true]
      rw[if_neg (of_decide_eq_false q1)]
      exact ⟨_,_,rfl,h⟩
    ·exact h.elim
   ·exact h.elim
  ·exact h.elim
 ·simp only[stOp];exact y5d h
 ·simp only[stOp];exact y5d h
 ·simp only[stOp]
  split at h
  ·rename_i hc
   rw[hc]
   simp only
   split at h
   ·rename_i h1 h2
    rw[h1,h2]
    exact x1x h
   ·exact h.elim
  ·exact h.elim
 ·obtain ⟨⟨v,S'⟩,h1,h2⟩:=z1j h
  exact ⟨v,S',h1,h2⟩

def WCx.Ones (C:WCx):Prop:=∀ g W,C.hw g=some W→One W

theorem y9c (ho:C.Ones){g:FuncId}{args:List AV}{S:St}{k:CR→St→Prop}(h:y7t C g args S k):∃ r S',z7z C.cx sf g args S=some (r,S')∧k r S':=by
 unfold y7t at h
 unfold z7z
 rw[show C.cx.nat=C.nat from rfl]
 split at h
 ·rename_i v hv
  rw[hv]
  exact ⟨_,_,rfl,h⟩
 ·rename_i hv
  rw[hv]
  simp only
  split at h
  ·rename_i W hW
   unfold y3p
   rw[show C.cx.hk g=some (y0v W) by simp[WCx.cx,hW]]
   exact (ho g W hW).hook h
  ·exact h.elim

theorem x8d (ho:C.Ones){S:St}{ev:Operand→AV}{o:Op}{k:CR→St→Prop}(h:opW C S ev o k):∃ r S',opA C.cx sf S ev o=some (r,S')∧k r S':=by
 unfold opW at h
 split at h
 ·rename_i hp
  obtain ⟨v,h1,h2⟩:=y4k h
  refine ⟨.ret v,S,?_,h2⟩
  cases o<;>simp only[y8u]at hp<;>try cases hp
  case call c =>
   unfold opA
   cases hc:c.callee with
   | builtin b=>simp only[h1,hc]
   | _=>rw[hc]at hp;cases hp
  all_goals (unfold opA;simp only[h1])
 ·rename_i hp
  split at h
  ·rename_i c
   split at h
   ·rename_i f hc
    unfold opA
    simp only[hc]
    split at h
    ·rename_i g a b hf
     rw[hf]
     exact y9c ho h
    ·exact h.elim
   ·rename_i hne
    obtain ⟨v,S',h1,h2⟩:=z6q h
    refine ⟨.ret v,S',?_,h2⟩
    unfold opA
    have hnone:z01 C.cx S ev (.call c)=none:=by
     unfold z01
     cases hc:c.callee with
     | builtin b=>cases b<;>simp_all [stOp]
     | _=>simp only[hc]
    cases hc:c.callee with
    | value f=>exact absurd hc (hne f)
    | _=>simp only[hc,hnone,h1]
  ·split at h
   ·rename_i x t v hx
    unfold opA
    simp only[hx]
    exact ⟨_,_,rfl,h⟩
   ·exact h.elim
  ·unfold opA
   simp only
   split at h
   ·rename_i v hv
    rw[y2i,hv]
    exact ⟨_,_,rfl,h⟩
   ·rename_i hv
    obtain ⟨⟨v,S'⟩,h1,h2⟩:=z1j h
    rw[y2i,hv,y92,h1]
    exact ⟨_,_,rfl,h2⟩
  ·rename_i h1 h2 h3
   obtain ⟨v,S',h4,h5⟩:=z6q h
   refine ⟨.ret v,S',?_,h5⟩
   have hnone:z01 C.cx S ev o=none:=by
    cases o<;>simp_all [y8u,z01]
   cases o<;>simp_all [opA]
end
end Go.Ev
namespace Go.Ev
abbrev Kont:=EX→Env→St→Prop

section
variable (C:WCx)
def wpOps (ops:Array Oper):List Oper→Env→St→Kont→Prop
 | [],env,S,k=>k .normal env S
 | o::rest,env,S,k=>match o.guard with
  | none=>opW C S (z1l C.pc env) o.op fun r S'=>match r with
   | .ret v=>wpOps ops rest (z1u env o.dst v) S' k
   | .pan v=>k (.pan v) env S'
  | some (j,want)=>match (ops[j]?).bind (·.dst) with
   | some d=>match env.getD d .bad with
    | .bool b=>cIf (decide (d < env.length)) (cIf b
      (match want with
       | true=>opW C S (z1l C.pc (env.set d (.bool true))) o.op fun r S'=>match r with
        | .ret v=>wpOps ops rest (z1u (env.set d (.bool true)) o.dst v) S' k
        | .pan v=>k (.pan v) (env.set d (.bool true)) S'
       | false=>wpOps ops rest (z1u (env.set d (.bool true)) o.dst (.tup [])) S k)
      (match want with
       | false=>opW C S (z1l C.pc (env.set d (.bool false))) o.op fun r S'=>match r with
        | .ret v=>wpOps ops rest (z1u (env.set d (.bool false)) o.dst v) S' k
        | .pan v=>k (.pan v) (env.set d (.bool false)) S'
       | true=>wpOps ops rest (z1u (env.set d (.bool false)) o.dst (.tup [])) S k)) False
    | .tup []=>cIf (decide (d < env.length)) (wpOps ops rest (z1u env o.dst (.tup [])) S k) False
    | _=>False
   | none=>False

def y3k (ops:Array Oper)(S0 S:St)(D:DN)(j:Nat)(ev:Operand→AV)(o:Op)(k:AV→St→DN→Prop):Prop :=
 match o with
 | .store t a x=>match ev a with
  | .ptr h off=>cIf (z1w ops j h D.lds) (cIf (z1w ops j h D.sts) (y0b C S ev (.store t a x) fun v S'=>k v S' { D with sts:=(j,h)::D.sts }) False) False
  | _=>False
 | .alloc t=>y0b C S ev (.alloc t) fun v S'=>k v S' { D with sts:=(j,S.hs.length)::D.sts }
 | .box t x=>y0b C S ev (.box t x) fun v S'=>k v S' { D with sts:=(j,S.hs.length)::D.sts }
 | .makeMap t r=>y0b C S ev (.makeMap t r) fun v S'=>k v S' { D with sts:=(j,S.hs.length)::D.sts }
 | .mapUpdate t m kk x=>match ev m with
  | .mp h=>cIf (z1w ops j h D.lds) (cIf (z1w ops j h D.sts) (y0b C S ev (.mapUpdate t m kk x) fun v S'=>k v S' { D with sts:=(j,h)::D.sts }) False) False
  | _=>False
 | .load t a=>match ev a with
  | .ptr h off=>cIf (y7p h D.sts) (y5g C S0 t (.ptr h off) fun v=>k v S { D with lds:=(j,h)::D.lds }) False
  | x=>y5g C S0 t x fun v=>k v S D
 | .buildSlice t len parts=>z2b (z6k C.pc t len (parts.toList.map fun p=>(p.1,ev p.2))) fun p=>k (.vs p.1 len (if len=0 then .zero else .none)) S D
 | .call c=>match c.callee with
  | .value f=>match ev f with
   | .fn (.func g) a b=>cIf (noHL S0.hs.length (a++c.args.toList.map ev++b)) (y7t C g (a++c.args.toList.map ev++b) S0 fun r S1=>match r with
    | .ret v=>S1=S0∧k v S D
    | .pan _=>False) False
   | _=>False
  | .builtin .append=>match c.args.toList with
   | [_,x]=>match ev x with
    | .row _ _ _ _=>False
    | _=>y0b C S ev (.call c) fun v S'=>k v S' D
   | _=>False
  | _=>y48 C S0 ev (.call c) fun v=>k v S D
 | o=>y48 C S0 ev o fun v=>k v S D

def z4w (ops:Array Oper)(S0:St):List Oper→Nat→Env→St→DN→(Env→St→Prop)→Prop
 | [],_,env,S,_,k=>k env S
 | o::rest,j,env,S,D,k=>match o.guard with
  | none=>y3k C ops S0 S D j (z5i C.pc (o.looksAt ops) env) o.op fun v S' D'=>z4w ops S0 rest (j+1) (z1u env o.dst v) S' D' k
  | some (g,want)=>match (ops[g]?).bind (·.dst) with
   | some d=>match env.getD d .bad with
    | .bool b=>cIf (decide (d < env.length)) (cIf b
      (match want with
       | true=>y3k C ops S0 S D j (z5i C.pc (o.looksAt ops) (env.set d (.bool true))) o.op fun v S' D'=>z4w ops S0 rest (j+1) (z1u (env.set d (.bool true)) o.dst v) S' D' k
       | false=>z4w ops S0 rest (j+1) (z1u (env.set d (.bool true)) o.dst (.tup [])) S D k)
      (match want with
       | false=>y3k C ops S0 S D j (z5i C.pc (o.looksAt ops) (env.set d (.bool false))) o.op fun v S' D'=>z4w ops S0 rest (j+1) (z1u (env.set d (.bool false)) o.dst v) S' D' k
       | true=>z4w ops S0 rest (j+1) (z1u (env.set d (.bool false)) o.dst (.tup [])) S D k)) False
    | .tup []=>cIf (decide (d < env.length)) (z4w ops S0 rest (j+1) (z1u env o.dst (.tup [])) S D k) False
    | _=>False
   | none=>False

def z8w:Code→Option Nat
 | .region id _ _=>some id
 | .seq a _=>z8w a
 | .block _ c=>z8w c
 | .loop c=>z8w c
 | _=>none
def z3q (L:List Nat):Nat→Env→Env
 | _,[]=>[]
 | i,v::env=>(match L.contains i with | true=>v | false=>.bad)::z3q L (i+1) env
def WCx.mask (c:Code)(env:Env):Env:=match z8w c with
 | some id=>match C.lm id with
  | some L=>z3q L 0 env
  | none=>env
 | none=>env

def Gh.Under (n:Nat)(G:Gh):Prop:=(∀ h,n≤h→G.σ h=none)∧∀ k,G.tk k=none
structure CSem (C:Cx) (nb:Nat) (c:Code) (env:Env) (S:St) (x:EX) (e:Env) (s:St):Prop where
 run:okC c=true→∀ G0 w0,G0.Under nb→GtR C G0 w0→∀ rd n ds G w a,Evo G0 w0 G w→Inv G w S→ER G w env a→a.defers=ds→∀ (Q:Exit→Act→World→Prop),(∀ e' a' w',CodePost ds G0 w0 x e s e' a' w'→Q e' a' w')→c.wpIn (WF rd) n C.P Q a w
structure LSem (C:Cx) (nb:Nat) (c:Code) (env:Env) (S:St) (x:EX) (e:Env) (s:St):Prop where
 run:okC c=true→∃ m,∀ G0 w0,G0.Under nb→GtR C G0 w0→∀ rd n ds G w a,Evo G0 w0 G w→Inv G w S→ER G w env a→a.defers=ds→Code.roundsIn (WF rd) n C.P c (CodePost ds G0 w0 x e s) m a w
def okBlk (m:Nat):Option HB→Bool
 | some b=>noHB m b
 | none=>true
def WCx.keep (c:Code)(env:Env)(S:St)(k:St→Prop):Prop:=match z8w c with
 | some id=>match C.sm id with
  | some m=>match Nat.ble C.bs m with
   | true=>cIf (noHL m env) (cIf ((S.hs.take m).all (okBlk m)) (k ⟨S.hs.take m,S.ts,[]⟩) False) False
   | false=>False
  | none=>k ⟨S.hs,S.ts,[]⟩
 | none=>k ⟨S.hs,S.ts,[]⟩
def z2z (c:Code)(env:Env)(S:St)(k:Kont):Prop:=∃ x e s,CSem C.pc C.bs c env S x e s∧k x e s
def WCx.cut (c:Code):Bool:=match z8w c with
 | some id=>C.ct id
 | none=>false
def z0l (c:Code)(env:Env)(S:St)(k:Kont):Prop:=∃ x e s,LSem C.pc C.bs c env S x e s∧k x e s

def wpC:Code→Env→St→Kont→Prop
 | .skip,env,S,k=>k .normal env S
 | .region _ ops false,env,S,k=>wpOps C ops ops.toList env S k
 | .region _ ops true,env,S,k=>match y3j ops with
  | true=>z4w C ops S (ops.toList.take (ops.size-1)) 0 env S ⟨[],[]⟩ fun env' S'=>wpOps C ops (ops.toList.drop (ops.size-1)) env' S' k
  | false=>z4w C ops S (ops.toList.take ops.size) 0 env S ⟨[],[]⟩ fun env' S'=>k .normal env' S'
 | .seq a b,env,S,k=>wpC a env S fun x e s=>match x with
  | .normal=>match C.cut b with
   | true=>C.keep b (C.mask b e) s fun s=>z2z C b (C.mask b e) s k
   | false=>wpC b (C.mask b e) s k
  | x=>k x e s
 | .cond c t e,env,S,k=>match z1l C.pc env c with
  | .bool b=>cIf b (wpC t env S k) (wpC e env S k)
  | _=>False
 | .block id c,env,S,k=>wpC c env S fun x e s=>match x with
  | .exit i=>cIf (decide (i=id)) (k .normal e s) (k (.exit i) e s)
  | x=>k x e s
 | .loop c,env,S,k=>C.keep c (C.mask c env) S fun S=>z0l C c (C.mask c env) S k
 | .exit id,env,S,k=>k (.exit id) env S
 | .ret,env,S,k=>k .ret env S
 | _,_,_,_=>False

def z0k (b:Code)(k:Kont):Kont:=fun x e s=>match x with
 | .normal=>match C.cut b with
  | true=>C.keep b (C.mask b e) s fun s=>z2z C b (C.mask b e) s k
  | false=>wpC C b (C.mask b e) s k
 | x=>k x e s
def z0g (id:Nat)(k:Kont):Kont:=fun x e s=>match x with
 | .exit i=>cIf (decide (i=id)) (k .normal e s) (k (.exit i) e s)
 | x=>k x e s
def z1i (c:Code)(k:Kont):Kont:=fun x e s=>match x with
 | .normal=>C.keep c (C.mask c e) s fun s=>z0l C c (C.mask c e) s k
 | x=>k x e s
def z0q (g:FuncId)(Q:CR→Prop):Kont:=fun x e s=>match C.P.funcs[g]? with
 | some fn=>match x with
  | .normal=>z2b (z0v C.pc fn e s) fun r=>z2b (pub C.pc s.hs 0 r) fun r'=>Q (.ret (scrub 0 r'))
  | .ret=>z2b (z0v C.pc fn e s) fun r=>z2b (pub C.pc s.hs 0 r) fun r'=>Q (.ret (scrub 0 r'))
  | .pan v=>z2b (pub C.pc s.hs 0 v) fun r'=>Q (.pan (scrub 0 r'))
  | _=>False
 | none=>False
def wpF (g:FuncId)(args:List AV)(Q:CR→Prop):Prop:=match C.P.funcs[g]? with
 | some fn=>match fn.body with
  | some c=>wpC C c (args++List.replicate (fn.ntmps-args.length) .bad) St.nil (z0q C g Q)
  | none=>False
 | none=>False
def z05 (g:FuncId)(Q:CR→List (Option HB)→Prop):Kont:=fun x e s=>match C.P.funcs[g]? with
 | some fn=>match x with
  | .normal=>z2b (z0v C.pc fn e s) fun r=>z2b (pub C.pc s.hs C.bs r) fun r'=>cIf ((s.hs.take C.bs).all (okBlk C.bs)) (Q (.ret (scrub 0 r')) ((s.hs.take C.bs).map (Option.map (z0n 0)))) False
  | .ret=>z2b (z0v C.pc fn e s) fun r=>z2b (pub C.pc s.hs C.bs r) fun r'=>cIf ((s.hs.take C.bs).all (okBlk C.bs)) (Q (.ret (scrub 0 r')) ((s.hs.take C.bs).map (Option.map (z0n 0)))) False
  | _=>False
 | none=>False
def wpS (g:FuncId)(args:List AV)(hs:List (Option HB))(Q:CR→List (Option HB)→Prop):Prop:=match C.P.funcs[g]? with
 | some fn=>match fn.body with
  | some c=>wpC C c (args++List.replicate (fn.ntmps-args.length) .bad) ⟨hs,[],[]⟩ (z05 C g Q)
  | none=>False
 | none=>False
end

def Code.at':Code→List Nat→Code
 | c,[]=>c
 | .seq a _,0::p=>Code.at' a p
 | .seq _ b,_::p=>Code.at' b p
 | .cond _ a _,0::p=>Code.at' a p
 | .cond _ _ b,_::p=>Code.at' b p
 | .block _ c,_::p=>Code.at' c p
 | .loop c,_::p=>Code.at' c p
 | .rangeFunc _ _ a _,0::p=>Code.at' a p
 | .rangeFunc _ _ _ b,_::p=>Code.at' b p
 | c,_=>c
def cd (P:Program)(g:FuncId)(p:List Nat):Code:=match P.funcs[g]? with
 | some fn=>match fn.body with
  | some c=>Code.at' c p
  | none=>.skip
 | none=>.skip
end Go.Ev
namespace Go.Ev
section
variable {C:WCx}{sf:Self}{ops:Array Oper}

theorem y4p (S:St)(t:TypeId)(a:AV):z4k C.cx S t a=z4k C.pc S t a:=rfl
theorem y6b (env:Env)(S:St):∀ l,z6d C.cx env S l=z6d C.pc env S l
 | []=>rfl
 | .tmp t::l=>by simp only[z6d,y6b env S l]
 | .cell a t::l=>by simp only[z6d,y6b env S l,y4p]
theorem z7v (fn:Func)(env:Env)(S:St):z0v C.cx fn env S=z0v C.pc fn env S:=by
 unfold z0v
 rw[y6b]
mutual
theorem x2o (hs:List (Option HB))(b:Nat):∀ a,pub C.cx hs b a=pub C.pc hs b a
 | .agg l=>by simp only[pub,y6e hs b l]
 | .tup l=>by simp only[pub,y6e hs b l]
 | .row h off n c=>rfl
 | .bad=>rfl
 | .int _ _=>rfl
 | .bool _=>rfl
 | .str _=>rfl
 | .raw _=>rfl
 | .vs _ _ _=>rfl
 | .vp _=>rfl
 | .ptr _ _=>rfl
 | .mp _=>rfl
 | .fn _ _ _=>rfl
 | .ifc _ _=>rfl
theorem y6e (hs:List (Option HB))(b:Nat):∀ l,z97 C.cx hs b l=z97 C.pc hs b l
 | []=>rfl
 | a::l=>by simp only[z97,x2o hs b a,y6e hs b l]
end
theorem y01 {env:Env}{d:Nat}{b:AV}(h:env.getD d .bad=b)(hd:d < env.length):env.set d b=env:=by
 apply List.ext_getElem?
 intro i
 by_cases hi:d=i
 ·subst hi
  rw[List.getElem?_set_self hd,← h]
  simp[List.getElem?_eq_getElem hd]
 ·rw[List.getElem?_set_ne hi]

theorem z7k (ho:C.Ones):∀ (rest:List Oper) (env:Env) (S:St) (k:Kont),wpOps C ops rest env S k→∃ x e s,z2g C.cx sf ops rest env S=some (x,e,s)∧k x e s
 | [],env,S,k,h=>⟨_,_,_,rfl,h⟩
 | o::rest,env,S,k,h=>by
  have run:∀ (env:Env),(opW C S (z1l C.pc env) o.op fun r S'=>match r with
   | .ret v=>wpOps C ops rest (z1u env o.dst v) S' k
   | .pan v=>k (.pan v) env S')→z1o ops env o=some true→∃ x e s,z2g C.cx sf ops (o::rest) env S=some (x,e,s)∧k x e s:=by
   intro env h hw
   obtain ⟨r,S',h1,h2⟩:=x8d (sf:=sf) ho h
   simp only[z2g,hw]
   rw[x4p,h1]
   cases r with
   | ret v=>exact z7k ho rest _ _ _ h2
   | pan v=>exact ⟨_,_,_,rfl,h2⟩
  have skip:∀ (env:Env),wpOps C ops rest (z1u env o.dst (.tup [])) S k→z1o ops env o=some false→∃ x e s,z2g C.cx sf ops (o::rest) env S=some (x,e,s)∧k x e s:=by
   intro env h hw
   simp only[z2g,hw]
   exact z7k ho rest _ _ _ h
  simp only[wpOps]at h
  split at h
  ·rename_i hg
   exact run env h (by simp[z1o,hg])
  ·rename_i j want hg
   split at h
   ·rename_i d hd
    split at h
    ·rename_i b hb
     obtain ⟨h1,h⟩:=z0r h
     have h1:=of_decide_eq_true h1
     have hw:z1o ops env o=some (b == want):=by
      simp only[z1o,hg,hd,hb,if_pos h1]
     rcases z4v h with ⟨rfl,h⟩ | ⟨rfl,h⟩
     ·rw[y01 hb h1]at h
      cases want
      ·exact skip env h hw
      ·exact run env h hw
     ·rw[y01 hb h1]at h
      cases want
      ·exact run env h hw
      ·exact skip env h hw
    ·rename_i hb
     obtain ⟨h1,h⟩:=z0r h
     have h1:=of_decide_eq_true h1
     exact skip env h (by simp only[z1o,hg,hd,hb,if_pos h1])
    ·exact h.elim
   ·exact h.elim

theorem x4r (ho:C.Ones){S0 S:St}{D:DN}{j:Nat}{ev:Operand→AV}{o:Op}{k:AV→St→DN→Prop}(h:y3k C ops S0 S D j ev o k) :
  ∃ v S' D',z1n C.cx sf ops S0 S D j ev o=some (v,S',D')∧k v S' D':=by
 unfold y3k at h
 split at h
 ·split at h
  ·rename_i hh off ha
   obtain ⟨q1,h⟩:=z0r h
   obtain ⟨q2,h⟩:=z0r h
   obtain ⟨v,S',h1,h2⟩:=z6q h
   simp only[z1n,ha]
   rw[if_pos ⟨q1,q2⟩,h1]
   exact ⟨_,_,_,rfl,h2⟩
  ·exact h.elim
 ·obtain ⟨v,S',h1,h2⟩:=z6q h
  simp only[z1n,h1]
  exact ⟨_,_,_,rfl,h2⟩
 ·obtain ⟨v,S',h1,h2⟩:=z6q h
  simp only[z1n,h1]
  exact ⟨_,_,_,rfl,h2⟩
 ·obtain ⟨v,S',h1,h2⟩:=z6q h
  simp only[z1n,h1]
  exact ⟨_,_,_,rfl,h2⟩
 ·split at h
  ·rename_i hh ha
   obtain ⟨q1,h⟩:=z0r h
   obtain ⟨q2,h⟩:=z0r h
   obtain ⟨v,S',h1,h2⟩:=z6q h
   simp only[z1n,ha]
   rw[if_pos ⟨q1,q2⟩,h1]
   exact ⟨_,_,_,rfl,h2⟩
  ·exact h.elim
 ·split at h
  ·rename_i hh off ha
   obtain ⟨q1,h⟩:=z0r h
   obtain ⟨v,h1,h2⟩:=y4o h
   simp only[z1n,ha]
   rw[if_pos q1,y4p,h1]
   exact ⟨_,_,_,rfl,h2⟩
  ·rename_i hne
   obtain ⟨v,h1,h2⟩:=y4o h
   unfold z1n
   split<;>try (rename_i he;cases he)
   ·split
    ·rename_i ha;exact absurd ha (hne _ _)
    ·rw[y4p,h1];exact ⟨_,_,_,rfl,h2⟩
   ·rename_i h3 h4 h5 h6 h7 h8
    exact absurd rfl (h6 _ _)
 ·obtain ⟨p,h1,h2⟩:=z1j h
  simp only[z1n]
  rw[show z6k C.cx _ _ _=_ from h1]
  exact ⟨_,_,_,rfl,h2⟩
 ·rename_i c
  split at h
  ·rename_i f hc
   split at h
   ·rename_i g a b hf
    obtain ⟨q1,h⟩:=z0r h
    obtain ⟨r,S1,h1,h2⟩:=y9c (sf:=sf) ho h
    simp only[z1n,hc,hf]
    rw[if_pos q1,h1]
    cases r with
    | ret v=>obtain ⟨rfl,h2⟩:=h2;exact ⟨v,S,D,by simp,h2⟩
    | pan v=>exact h2.elim
   ·exact h.elim
  ·rename_i hc
   split at h
   ·rename_i s x hargs
    split at h
    ·exact h.elim
    ·rename_i hne
     obtain ⟨v,S',h1,h2⟩:=z6q h
     unfold z1n
     split<;>try (rename_i he;cases he)
     ·simp only[hc,hargs]
      cases hx:ev x with
      | row a b c d=>exact absurd hx (hne _ _ _ _)
      | _=>simp only[h1];exact ⟨_,_,_,rfl,h2⟩
     ·rename_i h3 h4 h5 h6 h7 h8
      exact absurd rfl (h8 _)
   ·exact h.elim
  ·rename_i hn1 hn2
   obtain ⟨v,h1,h2⟩:=y4k h
   unfold z1n
   split<;>try (rename_i he;cases he)
   ·split
    ·rename_i hc;exact absurd hc (hn1 _)
    ·rename_i hc;exact absurd hc hn2
    ·rw[h1];exact ⟨_,_,_,rfl,h2⟩
   ·rename_i h3 h4 h5 h6 h7 h8
    exact absurd rfl (h8 _)
 ·rename_i n1 n2 n3 m1 m2 n4 n5 n6
  obtain ⟨v,h1,h2⟩:=y4k h
  unfold z1n
  split
  ·exact absurd rfl (n1 _ _ _)
  ·exact absurd rfl (n2 _)
  ·exact absurd rfl (n3 _ _)
  ·exact absurd rfl (m1 _ _)
  ·exact absurd rfl (m2 _ _ _ _)
  ·exact absurd rfl (n4 _ _)
  ·exact absurd rfl (n5 _ _ _)
  ·exact absurd rfl (n6 _)
  ·rw[h1];exact ⟨_,_,_,rfl,h2⟩

theorem z6i (ho:C.Ones){S0:St}:∀ (rest:List Oper) (j:Nat) (env:Env) (S:St) (D:DN) (k:Env→St→Prop),z4w C ops S0 rest j env S D k→∃ e s,z11 C.cx sf ops S0 rest j env S D=some (e,s)∧k e s
 | [],j,env,S,D,k,h=>⟨_,_,rfl,h⟩
 | o::rest,j,env,S,D,k,h=>by
  have run:∀ (env:Env),(y3k C ops S0 S D j (z5i C.pc (o.looksAt ops) env) o.op fun v S' D'=>z4w C ops S0 rest (j+1) (z1u env o.dst v) S' D' k)→z1o ops env o=some true →
    ∃ e s,z11 C.cx sf ops S0 (o::rest) j env S D=some (e,s)∧k e s:=by
   intro env h hw
   obtain ⟨v,S',D',h1,h2⟩:=x4r (sf:=sf) ho h
   simp only[z11,hw]
   rw[show z5i C.cx (o.looksAt ops) env=z5i C.pc (o.looksAt ops) env from rfl,h1]
   exact z6i ho rest _ _ _ _ _ h2
  have skip:∀ (env:Env),z4w C ops S0 rest (j+1) (z1u env o.dst (.tup [])) S D k→z1o ops env o=some false→∃ e s,z11 C.cx sf ops S0 (o::rest) j env S D=some (e,s)∧k e s:=by
   intro env h hw
   simp only[z11,hw]
   exact z6i ho rest _ _ _ _ _ h
  simp only[z4w]at h
  split at h
  ·rename_i hg
   exact run env h (by simp[z1o,hg])
  ·rename_i g want hg
   split at h
   ·rename_i d hd
    split at h
    ·rename_i b hb
     obtain ⟨h1,h⟩:=z0r h
     have h1:=of_decide_eq_true h1
     have hw:z1o ops env o=some (b == want):=by
      simp only[z1o,hg,hd,hb,if_pos h1]
     rcases z4v h with ⟨rfl,h⟩ | ⟨rfl,h⟩
     ·rw[y01 hb h1]at h
      cases want
      ·exact skip env h hw
      ·exact run env h hw
     ·rw[y01 hb h1]at h
      cases want
      ·exact run env h hw
      ·exact skip env h hw
    ·rename_i hb
     obtain ⟨h1,h⟩:=z0r h
     have h1:=of_decide_eq_true h1
     exact skip env h (by simp only[z1o,hg,hd,hb,if_pos h1])
    ·exact h.elim
   ·exact h.elim

theorem y0c {G:Gh}{w:World}{L:List Nat}:∀ (env:Env) (k i:Nat) (x:AV),(z3q L k env)[i]?=some x→∃ y,env[i]?=some y∧(x=y∨x=.bad)
 | [],k,i,x,h=>by simp[z3q]at h
 | v::env,k,0,x,h=>by
  simp only[z3q,List.getElem?_cons_zero,Option.some.injEq]at h
  refine ⟨v,rfl,?_⟩
  split at h
  ·exact .inl h.symm
  ·exact .inr h.symm
 | v::env,k,i+1,x,h=>by
  simp only[z3q,List.getElem?_cons_succ]at h ⊢
  exact y0c (G:=G) (w:=w) env (k+1) i x h
theorem z9i {L:List Nat}:∀ (env:Env) (k:Nat),(z3q L k env).length=env.length
 | [],k=>rfl
 | v::env,k=>by simp[z3q,z9i env]
theorem ER.mask {G:Gh}{w:World}{env:Env}{a:Act}(h:ER G w env a)(c:Code):ER G w (C.mask c env) a:=by
 unfold WCx.mask
 split
 ·split
  ·refine ⟨by rw[z9i];exact h.1,fun i x hx=>?_⟩
   obtain ⟨y,h1,h2⟩:=y0c (G:=G) (w:=w) env 0 i x hx
   rcases h2 with rfl | rfl
   ·exact h.2 i x h1
   ·exact .bad _
  ·exact h
 ·exact h
theorem CSem.mask {c:Code}{env:Env}{S:St}{x:EX}{e:Env}{s:St}(h:CSem C.pc C.bs c (C.mask c env) S x e s):CSem C.pc C.bs c env S x e s :=
 ⟨fun hok G0 w0 hb hg rd n ds G w a hE hI he hd Q hQ=>h.run hok G0 w0 hb hg rd n ds G w a hE hI (he.mask c) hd Q hQ⟩
theorem LSem.mask {c:Code}{env:Env}{S:St}{x:EX}{e:Env}{s:St}(h:LSem C.pc C.bs c (C.mask c env) S x e s):LSem C.pc C.bs c env S x e s :=
 ⟨fun hok=>let ⟨m,hm⟩:=h.run hok; ⟨m,fun G0 w0 hb hg rd n ds G w a hE hI he hd=>hm G0 w0 hb hg rd n ds G w a hE hI (he.mask c) hd⟩⟩

theorem y4r {c:Code}{env:Env}{S:St}{k:St→Prop}(h:C.keep c env S k):∃ S',k S'∧∀ G0 w0 G w a,G0.Under C.bs→Evo G0 w0 G w→Inv G w S→ER G w env a→∃ G',Evo G0 w0 G' w∧Inv G' w S'∧ER G' w env a:=by
 have plain:∀ G0 w0 G w (a:Act),G0.Under C.bs→Evo G0 w0 G w→Inv G w S→ER G w env a→∃ G',Evo G0 w0 G' w∧Inv G' w ⟨S.hs,S.ts,[]⟩∧ER G' w env a :=
  fun G0 w0 G w a _ hE hI he=>⟨G,hE,hI.congr (fun _ _=>Iff.rfl) rfl,he⟩
 unfold WCx.keep at h
 split at h
 ·split at h
  ·rename_i m hm
   split at h
   case h_2=>exact h.elim
   rename_i hbm
   have hbm:=Nat.le_of_ble_eq_true hbm
   obtain ⟨h1,h⟩:=z0r h
   obtain ⟨h2,h⟩:=z0r h
   refine ⟨_,h,fun G0 w0 G w a hb hE hI he=>⟨G.cut m,?_,?_,?_⟩⟩
   ·exact {
     k:=hE.k,cell:=hE.cell
     σ:=fun x b hx=>by
      rcases Nat.lt_or_ge x m with hlt | hge
      ·simp only[Gh.cut,if_pos hlt];exact hE.σ x b hx
      ·rw[hb.1 x (Nat.le_trans hbm hge)]at hx;cases hx
     σn:=fun x b hx=>by
      rcases hE.σn x b (z5k hx).2 with h3 | h3
      ·exact .inl h3
      ·exact .inr h3
     tk:=hE.tk,tkn:=hE.tkn,kn:=hE.kn,B:=hE.B,size:=hE.size,os:=hE.os,tape:=hE.tape,output:=hE.output,frame:=hE.frame }
   ·refine hI.cut (S0:=⟨S.hs.take m,S.ts,[]⟩) (n:=m) (fun q x hx=>?_) (fun q x hq hx=>?_) rfl (fun q x hx=>?_)
    ·simp only at hx
     have hlt:=(List.getElem?_eq_some_iff.1 hx).1
     rw[List.length_take]at hlt
     rw[List.getElem?_take_of_lt (by omega)]at hx
     exact ⟨by omega,hx⟩
    ·simp only
     rw[List.getElem?_take_of_lt hq];exact hx
    ·simp only at hx
     have:=List.all_eq_true.1 h2 _ (List.mem_of_getElem? hx)
     exact fun o b _ _ hr=>hr.cut this
   ·exact ⟨he.1,fun i x hx=>(he.2 i x hx).cut (z1a h1 hx)⟩
  ·exact ⟨_,h,plain⟩
 ·exact ⟨_,h,plain⟩

def noSelf:Self:={ call:=fun _ _ _=>none,loop:=fun _ _ _=>none }
theorem y61 (D:Cx):SelfOk D noSelf:=⟨fun _ _ _ _ _ h=>(by cases h),fun _ _ _ _ _ _ _ h=>(by cases h)⟩

theorem CSem.of_ev (hC:CxOk C.cx){c:Code}{env:Env}{S:St}{x:EX}{e:Env}{s:St}(h:evC C.cx noSelf c env S=some (x,e,s)):CSem C.pc C.bs c env S x e s :=
 ⟨fun hok G0 w0 hb hg rd n ds G w a hE hI he hd Q hQ=>z3l hC (y61 _) c _ _ _ _ _ hok h rd n ds G w a hI (hg.mono hE) he hd Q fun e' a' w' ⟨G',q1,q2,q3,q4,q5⟩=>hQ _ _ _ ⟨G',q1,hE.trans q2,q3,q4,q5⟩⟩

theorem z89 (ho:C.Ones)(hC:CxOk C.cx):∀ (c:Code) (env:Env) (S:St) (k:Kont),wpC C c env S k→∃ x e s,CSem C.pc C.bs c env S x e s∧k x e s:=by
 intro c
 induction c<;>intro env S k h
 case skip=>exact ⟨_,_,_,.of_ev hC rfl,h⟩
 case region id ops d =>
  have key:∃ x e s,evC C.cx noSelf (.region id ops d) env S=some (x,e,s)∧k x e s:=by
   cases d
   ·exact z7k ho _ _ _ _ h
   ·simp only[wpC]at h
    simp only[evC]
    split at h
    ·rename_i hf
     rw[if_pos hf]
     obtain ⟨e,s,h1,h2⟩:=z6i (sf:=noSelf) ho _ _ _ _ _ _ h
     rw[h1]
     exact z7k ho _ _ _ _ h2
    ·rename_i hf
     rw[if_neg (by rw[hf];simp)]
     obtain ⟨e,s,h1,h2⟩:=z6i (sf:=noSelf) ho _ _ _ _ _ _ h
     rw[h1]
     exact ⟨_,_,_,rfl,h2⟩
  obtain ⟨x,e,s,h1,h2⟩:=key
  exact ⟨x,e,s,.of_ev hC h1,h2⟩
 case seq a b iha ihb =>
  obtain ⟨x,e,s,h1,h2⟩:=iha _ _ _ h
  cases x with
  | normal =>
   have h2':∃ x2 e2 s2,CSem C.pc C.bs b (C.mask b e) s x2 e2 s2∧k x2 e2 s2:=by
    simp only at h2
    split at h2
    ·obtain ⟨s',⟨x2,e2,s2,h3,h4⟩,h5⟩:=y4r h2
     refine ⟨x2,e2,s2,⟨fun hok G0 w0 hb hg rd n ds G w a hE hI he hd Q hQ=>?_⟩,h4⟩
     obtain ⟨G',g1,g2,g3⟩:=h5 G0 w0 G w a hb hE hI he
     exact h3.run hok G0 w0 hb hg rd n ds G' w a g1 g2 g3 hd Q hQ
    ·exact ihb _ _ _ h2
   obtain ⟨x2,e2,s2,h3,h4⟩:=h2'
   refine ⟨x2,e2,s2,⟨fun hok G0 w0 hb hg rd n ds G w a hE hI he hd Q hQ=>?_⟩,h4⟩
   simp only[okC,Bool.and_eq_true]at hok
   refine wpIn_seq ?_
   refine h1.run hok.1 G0 w0 hb hg rd n ds G w a hE hI he hd _ ?_
   rintro e' a1 w1 ⟨G1,q1,q2,q3,q4,q5⟩
   simp only[ExR]at q5
   subst q5
   exact h3.mask.run hok.2 G0 w0 hb hg rd n ds G1 w1 a1 q2 q1 q3 q4 Q hQ
  | _ =>
   refine ⟨_,e,s,⟨fun hok G0 w0 hb hg rd n ds G w a hE hI he hd Q hQ=>?_⟩,h2⟩
   simp only[okC,Bool.and_eq_true]at hok
   refine wpIn_seq ?_
   refine h1.run hok.1 G0 w0 hb hg rd n ds G w a hE hI he hd _ ?_
   rintro e' a1 w1 hp
   have hp':=hp
   obtain ⟨G1,q1,q2,q3,q4,q5⟩:=hp
   first
    | (simp only[ExR]at q5;subst q5;exact hQ _ _ _ hp')
    | (obtain ⟨u,rfl,hu⟩:=q5;exact hQ _ _ _ hp')
 case cond c a b iha ihb =>
  simp only[wpC]at h
  split at h
  ·rename_i t ht
   rcases z4v h with ⟨rfl,h⟩ | ⟨rfl,h⟩
   ·obtain ⟨x,e,s,h1,h2⟩:=iha _ _ _ h
    refine ⟨x,e,s,⟨fun hok G0 w0 hb hg rd n ds G w a hE hI he hd Q hQ=>?_⟩,h2⟩
    simp only[okC,Bool.and_eq_true]at hok
    have hv:=he.eval (hg.mono hE) c
    rw[ht]at hv
    refine wpIn_cond hv.bool_inv ?_
    rw[if_pos rfl]
    exact h1.run hok.1 G0 w0 hb hg rd n ds G w a hE hI he hd Q hQ
   ·obtain ⟨x,e,s,h1,h2⟩:=ihb _ _ _ h
    refine ⟨x,e,s,⟨fun hok G0 w0 hb hg rd n ds G w a hE hI he hd Q hQ=>?_⟩,h2⟩
    simp only[okC,Bool.and_eq_true]at hok
    have hv:=he.eval (hg.mono hE) c
    rw[ht]at hv
    refine wpIn_cond hv.bool_inv ?_
    rw[if_neg (by simp)]
    exact h1.run hok.2 G0 w0 hb hg rd n ds G w a hE hI he hd Q hQ
  ·exact h.elim
 case block id c ih =>
  obtain ⟨x,e,s,h1,h2⟩:=ih _ _ _ h
  cases x with
  | exit i =>
   rcases z4v h2 with ⟨q,h2⟩ | ⟨q,h2⟩
   ·refine ⟨.normal,e,s,⟨fun hok G0 w0 hb hg rd n ds G w a hE hI he hd Q hQ=>?_⟩,h2⟩
    refine wpIn_block ?_
    refine h1.run hok G0 w0 hb hg rd n ds G w a hE hI he hd _ ?_
    rintro e' a1 w1 ⟨G1,q1,q2,q3,q4,q5⟩
    simp only[ExR]at q5
    subst q5
    simp only[Exit.inBlock]
    rw[if_pos (of_decide_eq_true q)]
    exact hQ _ _ _ ⟨G1,q1,q2,q3,q4,rfl⟩
   ·refine ⟨.exit i,e,s,⟨fun hok G0 w0 hb hg rd n ds G w a hE hI he hd Q hQ=>?_⟩,h2⟩
    refine wpIn_block ?_
    refine h1.run hok G0 w0 hb hg rd n ds G w a hE hI he hd _ ?_
    rintro e' a1 w1 ⟨G1,q1,q2,q3,q4,q5⟩
    simp only[ExR]at q5
    subst q5
    simp only[Exit.inBlock]
    rw[if_neg (of_decide_eq_false q)]
    exact hQ _ _ _ ⟨G1,q1,q2,q3,q4,rfl⟩
  | _ =>
   refine ⟨_,e,s,⟨fun hok G0 w0 hb hg rd n ds G w a hE hI he hd Q hQ=>?_⟩,h2⟩
   refine wpIn_block ?_
   refine h1.run hok G0 w0 hb hg rd n ds G w a hE hI he hd _ ?_
   rintro e' a1 w1 hp
   have hp':=hp
   obtain ⟨G1,q1,q2,q3,q4,q5⟩:=hp
   first
    | (simp only[ExR]at q5;subst q5;exact hQ _ _ _ hp')
    | (obtain ⟨u,rfl,hu⟩:=q5;exact hQ _ _ _ hp')
 case loop c ih =>
  obtain ⟨S',⟨x,e,s,h1,h2⟩,h5⟩:=y4r h
  refine ⟨x,e,s,⟨fun hok G0 w0 hb hg rd n ds G w a hE hI he hd Q hQ=>?_⟩,h2⟩
  obtain ⟨m,hm⟩:=h1.run hok
  obtain ⟨G',g1,g2,g3⟩:=h5 G0 w0 G w a hb hE hI (he.mask c)
  exact wpIn_mono (wpIn_loop_rounds m (hm G0 w0 hb hg rd n ds G' w a g1 g2 g3 hd)) hQ
 case exit id=>exact ⟨_,_,_,.of_ev hC rfl,h⟩
 case ret=>exact ⟨_,_,_,.of_ev hC rfl,h⟩
 all_goals exact h.elim

theorem x7q (ho:C.Ones)(hC:CxOk C.cx){c:Code}{env:Env}{S:St}{k:Kont}(h:wpC C c env S k):z2z C c env S k:=z89 ho hC _ _ _ _ h

theorem y25 (ho:C.Ones)(hC:CxOk C.cx){c:Code}{env:Env}{S:St}{k:Kont}(h:wpC C c env S (z1i C c k)):z0l C c env S k:=by
 obtain ⟨x,e,s,h1,h2⟩:=z89 ho hC _ _ _ _ h
 cases x with
 | normal =>
  change C.keep c (C.mask c e) s (fun s=>z0l C c (C.mask c e) s k) at h2
  obtain ⟨s',⟨x2,e2,s2,h3,h4⟩,h5⟩:=y4r h2
  refine ⟨x2,e2,s2,⟨fun hok=>?_⟩,h4⟩
  obtain ⟨m,hm⟩:=h3.run hok
  refine ⟨m+1,fun G0 w0 hb hg rd n ds G w a hE hI he hd=>?_⟩
  rw[roundsIn_succ]
  refine h1.run hok G0 w0 hb hg rd n ds G w a hE hI he hd _ ?_
  rintro e' a1 w1 ⟨G1,q1,q2,q3,q4,q5⟩
  simp only[ExR]at q5
  subst q5
  obtain ⟨G',g1,g2,g3⟩:=h5 G0 w0 G1 w1 a1 hb q2 q1 (q3.mask c)
  exact hm G0 w0 hb hg rd n ds G' w1 a1 g1 g2 g3 q4
 | _ =>
  refine ⟨_,e,s,⟨fun hok=>⟨1,fun G0 w0 hb hg rd n ds G w a hE hI he hd=>?_⟩⟩,h2⟩
  rw[roundsIn_succ]
  refine h1.run hok G0 w0 hb hg rd n ds G w a hE hI he hd _ ?_
  rintro e' a1 w1 hp
  have hp':=hp
  obtain ⟨G1,q1,q2,q3,q4,q5⟩:=hp
  first
   | (simp only[ExR]at q5;subst q5;exact hp')
   | (obtain ⟨u,rfl,hu⟩:=q5;exact hp')

theorem x1a {S':St}{r r':AV}(h:pub C.cx S'.hs 0 r=some r'):finish C.cx St.nil S' r=(scrub 0 r',St.nil):=by
 have hf:(S'.wl.filter fun h=>decide (h < St.nil.hs.length))=[]:=by
  rw[List.filter_eq_nil_iff]
  intro a _
  simp[St.nil]
 unfold finish
 rw[show pub C.cx S'.hs St.nil.hs.length r=some r' from h]
 have ht:z8p St.nil S'=0:=by
  unfold z8p
  rw[hf]
  simp[x49,St.nil]
 simp only[hf,ht]
 simp[x3t,St.nil,z2i]

theorem y4x (hC:CxOk C.cx){g:FuncId}{args:List AV}{fn:Func}{c:Code}(hfn:C.P.funcs[g]?=some fn)(hc:fn.body=some c){x:EX}{env1:Env}{S1:St}
  (hev:CSem C.pc C.bs c (args++List.replicate (fn.ntmps-args.length) .bad) St.nil x env1 S1) {r:CR} {S':St}
  (hr:match x with
   | .normal=>∃ v,z0v C.cx fn env1 S1=some v∧r=.ret (finish C.cx St.nil S1 v).1∧S'=(finish C.cx St.nil S1 v).2
   | .ret=>∃ v,z0v C.cx fn env1 S1=some v∧r=.ret (finish C.cx St.nil S1 v).1∧S'=(finish C.cx St.nil S1 v).2
   | .pan v=>r=.pan (finish C.cx St.nil S1 v).1∧S'=(finish C.cx St.nil S1 v).2
   | .exit _=>False):CallOk C.cx g args St.nil r S':=by
 intro G w us hI hg has
 refine (callsIn_wide (n:=0)).1 (callsIn_of_wp hfn hc trivial ?_)
 have hb:G.Under C.bs:=⟨fun h _=>by
  cases hs:G.σ h with
  | none=>rfl
  | some b=>obtain ⟨hb,hx⟩:=hI.dom _ _ hs;simp[St.nil]at hx,fun k=>by
  cases hs:G.tk k with
  | none=>rfl
  | some x=>obtain ⟨b,c,m,z⟩:=x;have:=(hI.tdom _ _ _ _ _ hs).1;simp[St.nil]at this⟩
 have he:=z81 has fn.ntmps
 refine hev.run (hC.codes g fn c hfn hc) G w hb hg none 0 [] G w _ (Evo.refl G w) hI he rfl _ ?_
 rintro e a' w' ⟨G1,q1,q2,q3,q4,q5⟩
 have hW:Wl { St.nil with wl:=[] } S1:=⟨Nat.zero_le _,Nat.zero_le _,fun h hh=>by simp[St.nil]at hh,fun h hh=>by simp[St.nil]at hh⟩
 have ret:(∃ v,z0v C.cx fn env1 S1=some v∧r=.ret (finish C.cx St.nil S1 v).1∧S'=(finish C.cx St.nil S1 v).2)→a'.defers=[]∧∃ v,(results fn a'.tmps).run C.P w'=.ok v w'∧z6h G w r S' (.returned v) w':=by
  rintro ⟨v,hv,rfl,rfl⟩
  obtain ⟨u,u1,u2⟩:=z3n q1 q3 hv
  obtain ⟨G2,p1,p2,p3⟩:=z5p (C:=C.cx) hI q1 q2 hW u1
  exact ⟨q4,u,u2,G2,p1,p2,u,rfl,p3⟩
 cases x with
 | normal=>simp only[ExR]at q5;subst q5;exact ret hr
 | ret=>simp only[ExR]at q5;subst q5;exact ret hr
 | exit i=>exact hr.elim
 | pan v =>
  obtain ⟨u,rfl,hu⟩:=q5
  obtain ⟨G2,p1,p2,p3⟩:=z5p (C:=C.cx) hI q1 q2 hW hu
  obtain ⟨rfl,rfl⟩:=hr
  exact ⟨q4,G2,p1,p2,u,rfl,p3⟩

theorem x18 (ho:C.Ones)(hC:CxOk C.cx){g:FuncId}{args:List AV}{Q:CR→Prop}(h:wpF C g args Q):∃ r,CallOk C.cx g args St.nil r St.nil∧Q r:=by
 unfold wpF at h
 split at h
 ·rename_i fn hfn
  split at h
  ·rename_i c hc
   obtain ⟨x,e,s,h1,h2⟩:=z89 ho hC _ _ _ _ h
   unfold z0q at h2
   rw[hfn]at h2
   simp only at h2
   have fin:∀ v r',pub C.pc s.hs 0 v=some r'→finish C.cx St.nil s v=(scrub 0 r',St.nil):=fun v r' q=>x1a ((x2o _ _ _).trans q)
   cases x with
   | normal =>
    obtain ⟨r,q1,h2⟩:=z1j h2
    obtain ⟨r',q2,h2⟩:=z1j h2
    refine ⟨_,y4x hC hfn hc h1 ⟨r,(z7v _ _ _).trans q1,rfl,?_⟩,?_⟩
    ·rw[fin _ _ q2]
    ·rw[fin _ _ q2];exact h2
   | ret =>
    obtain ⟨r,q1,h2⟩:=z1j h2
    obtain ⟨r',q2,h2⟩:=z1j h2
    refine ⟨_,y4x hC hfn hc h1 ⟨r,(z7v _ _ _).trans q1,rfl,?_⟩,?_⟩
    ·rw[fin _ _ q2]
    ·rw[fin _ _ q2];exact h2
   | pan v =>
    obtain ⟨r',q2,h2⟩:=z1j h2
    refine ⟨_,y4x hC hfn hc h1 ⟨rfl,?_⟩,?_⟩
    ·rw[fin _ _ q2]
    ·rw[fin _ _ q2];exact h2
   | exit i=>exact h2.elim
  ·exact h.elim
 ·exact h.elim
end
end Go.Ev
namespace Go.Ev

abbrev Spc:=List AV→Option (Prop×CR)
def y46 (R:Spc)(args:List AV)(S:St)(k:CR→St→Prop):Prop:=match R args with
 | some (D,r)=>D∧k r S
 | none=>False
theorem x2d (R:Spc):One (y46 R):=by
 intro args S
 unfold y46
 cases h:R args with
 | none=>exact ⟨(.ret .bad,S),False,fun k=>by simp⟩
 | some p=>exact ⟨(p.2,S),p.1,fun k=>Iff.rfl⟩

structure HookOk (C0:Cx) (g:FuncId) (W:List AV→St→(CR→St→Prop)→Prop):Prop where
 one:One W
 body:∃ (fn:Func) (c:Code),C0.P.funcs[g]?=some fn∧fn.body=some c
 ok:∀ args S r S',(W args S fun r' s=>r'=r∧s=S')→CallOk C0 g args S r S'∧Wl S S'

structure Ct (C0:Cx) (g:FuncId) (R:Spc):Prop where
 body:∃ (fn:Func) (c:Code),C0.P.funcs[g]?=some fn∧fn.body=some c
 ok:∀ args (D:Prop) r,R args=some (D,r)→D→noHL 0 args=true∧CallOk C0 g (z0e 0 args) St.nil r St.nil

theorem Ct.hook {C0:Cx}(hgt:z1v C0){g:FuncId}{R:Spc}(h:Ct C0 g R):HookOk C0 g (y46 R) where
 one:=x2d R
 body:=h.body
 ok:=fun args S r S' hw=>by
  unfold y46 at hw
  split at hw
  ·rename_i D r' hR
   obtain ⟨hD,rfl,rfl⟩:=hw
   obtain ⟨h1,h2⟩:=h.ok args D r' hR hD
   exact ⟨h2.frame hgt h1 S,Wl.refl S⟩
  ·exact hw.elim

structure Base where
 P:Program
 gt:Nat→Option (List AV)
 eqt:List TypeId
 nat:FuncId→List AV→Option AV
 hw:FuncId→Option (List AV→St→(CR→St→Prop)→Prop)
def Base.c0 (B:Base):Cx:={ P:=B.P,gt:=B.gt,eqt:=fun t=>B.eqt.contains t,nat:=B.nat,hk:=fun _=>none }

structure BaseOk (B:Base):Prop where
 eqt:∀ t,B.eqt.contains t=true→y2u B.P t=true
 codes:∀ (g:Nat) (fn:Func) (c:Code),B.P.funcs[g]?=some fn→fn.body=some c→okC c=true
 nat:∀ (g:FuncId) (args:List AV) (v:AV),B.nat g args=some v→∀ G w (us:List Value),VRs G w args us→∃ u,(callFunc g us.toArray).run B.P w=.ok (.value u) w∧VR G w v u
 mixed:B.P.follows .mixedOrders=true
 names : ∀ (g : Nat) (fn : Func) (c : Code), B.P.funcs[g]? = some fn → fn.body = some c → (fn.name == "runtime.NumGoroutine") = false
 gtp:z1v B.c0
 hw:∀ g W,B.hw g=some W→HookOk B.c0 g W

def Base.wcx (B:Base)(l:List (FuncId×Spc))(lm:List (Nat×List Nat):=[])(tp:List Nat:=[])(ct:List Nat:=[])(sm:List (Nat×Nat):=[]):WCx :=
 { sm:=fun n=>sm.lookup n,ct:=fun n=>ct.contains n,lm:=fun n=>lm.lookup n,tp:=fun h=>tp.contains h,P:=B.P,gt:=B.gt,eqt:=fun t=>B.eqt.contains t,nat:=B.nat,hw:=fun g=>match l.lookup g with | some R=>some (y46 R) | none=>B.hw g }

def Cts (B:Base)(l:List (FuncId×Spc)):Prop:=∀ p∈l,Ct B.c0 p.1 p.2
theorem Cts.nil (B:Base):Cts B []:=fun p h=>by simp at h
theorem Cts.cons {B:Base}{g:FuncId}{R:Spc}{l:List (FuncId×Spc)}(h:Ct B.c0 g R)(hl:Cts B l):Cts B ((g,R)::l):=fun p hp=>by
 rcases List.mem_cons.1 hp with rfl | hp
 ·exact h
 ·exact hl p hp

section
variable {B:Base}{l:List (FuncId×Spc)}{lm:List (Nat×List Nat)}{tp ct:List Nat}{sm:List (Nat×Nat)}
theorem y5f {g:FuncId}{R:Spc}:∀ {l:List (FuncId×Spc)},l.lookup g=some R→(g,R)∈l
 | [],h=>by simp[List.lookup]at h
 | (g',R')::l,h=>by
  simp only[List.lookup]at h
  split at h
  ·rename_i hg
   cases h
   rw[beq_iff_eq]at hg
   subst hg
   exact List.mem_cons_self
  ·exact List.mem_cons_of_mem _ (y5f h)

theorem y7y (hB:BaseOk B)(hl:Cts B l){g:FuncId}{W:List AV→St→(CR→St→Prop)→Prop}(h:(B.wcx l lm tp ct sm).hw g=some W):HookOk B.c0 g W:=by
 simp only[Base.wcx]at h
 split at h
 ·rename_i R hR
  cases h
  exact (hl _ (y5f hR)).hook hB.gtp
 ·exact hB.hw g W h
theorem z7l (hB:BaseOk B)(hl:Cts B l):(B.wcx l lm tp ct sm).Ones:=fun g W h=>(y7y hB hl h).one
theorem x19 (hB:BaseOk B)(hl:Cts B l){g:FuncId}{f:List AV→St→Option (CR×St)}(h:(B.wcx l lm tp ct sm).cx.hk g=some f){args:List AV}{S S':St}{r:CR}(hr:f args S=some (r,S')) :
  (∃ (fn:Func) (c:Code),B.P.funcs[g]?=some fn∧fn.body=some c)∧CallOk B.c0 g args S r S'∧Wl S S':=by
 simp only[WCx.cx,Option.map_eq_some_iff]at h
 obtain ⟨W,hW,rfl⟩:=h
 have:=y7y hB hl hW
 exact ⟨this.body,this.ok args S r S' (y9w hr)⟩
theorem y0m (hB:BaseOk B)(hl:Cts B l):CxOk (B.wcx l lm tp ct sm).cx where
 eqt:=z8x fun t h=>hB.eqt t h
 hk:=fun g f h args S r S' hr=>⟨(x19 hB hl h hr).1,(x19 hB hl h hr).2.1⟩
 codes:=hB.codes
 nat:=hB.nat
 mixed:=hB.mixed
 names:=hB.names
theorem w99 (hB:BaseOk B)(hl:Cts B l):HkW (B.wcx l lm tp ct sm).cx:=fun g f h args S r S' hr=>(x19 hB hl h hr).2.2

theorem y5r (hB:BaseOk B)(hl:Cts B l){g:FuncId}{args:List AV}{r:CR}(h:wpF (B.wcx l lm tp ct sm) g args fun r'=>r'=r):CallOk B.c0 g args St.nil r St.nil:=by
 obtain ⟨r',h1,rfl⟩:=x18 (z7l hB hl) (y0m hB hl) h
 exact h1
theorem z0y (hB:BaseOk B)(hl:Cts B l){c:Code}{env:Env}{S:St}{k:Kont}(h:wpC (B.wcx l lm tp ct sm) c env S (z1i (B.wcx l lm tp ct sm) c k)):z0l (B.wcx l lm tp ct sm) c env S k :=
 y25 (z7l hB hl) (y0m hB hl) h

theorem y7a (hB:BaseOk B)(hl:Cts B l){c:Code}{env:Env}{S:St}{k:Kont}(h:wpC (B.wcx l lm tp ct sm) c env S k):z2z (B.wcx l lm tp ct sm) c env S k :=
 x7q (z7l hB hl) (y0m hB hl) h

theorem Ct.of_wp (hB:BaseOk B)(hl:Cts B l){g:FuncId}{R:Spc}(hb:∃ (fn:Func) (c:Code),B.P.funcs[g]?=some fn∧fn.body=some c)
  (h:∀ args (D:Prop) r,R args=some (D,r)→D→noHL 0 args=true∧wpF (B.wcx l lm tp ct sm) g (z0e 0 args) fun r'=>r'=r):Ct B.c0 g R :=
 ⟨hb,fun args D r hR hD=>⟨(h args D r hR hD).1,y5r hB hl (h args D r hR hD).2⟩⟩

mutual
def x3i:AV→Nat
 | .agg l=>1+z5x l
 | .tup l=>1+z5x l
 | .vs l _ _=>1+z5x l
 | .vp l=>1+z5x l
 | .fn _ a b=>1+z5x a+z5x b
 | .ifc _ v=>1+x3i v
 | _=>1
def z5x:List AV→Nat
 | []=>0
 | a::l=>x3i a+z5x l
end
def Spc.below (R:Spc)(n:Nat):Spc:=fun args=>match R args with
 | some (D,r)=>some (D∧z5x args < n,r)
 | none=>none
end
end Go.Ev
namespace Go.Ev
mutual
def shA (hs:List (Option HB)):AV→AV
 | .agg l=>.agg (shL hs l)
 | .tup l=>.tup (shL hs l)
 | .ptr h off=>match hs[h]? with
  | some (some (.cells l _))=>.vp (l.drop off)
  | _=>.bad
 | .vs l n t=>.vs l n .none
 | .vp l=>.vp l
 | .fn f x y=>.fn f (shL hs x) (shL hs y)
 | .ifc t v=>.ifc t (shA hs v)
 | .row _ _ _ _=>.bad
 | .mp _=>.bad
 | a=>a
def shL (hs:List (Option HB)):List AV→List AV
 | []=>[]
 | a::l=>shA hs a::shL hs l
end
mutual
def z8j (hs:List (Option HB)):AV→Bool
 | .agg l=>z3b hs l
 | .tup l=>z3b hs l
 | .ptr h _=>match hs[h]? with
  | some (some (.cells l _))=>noHL 0 l && z1y 0 l
  | _=>true
 | .vs l _ _=>noHL 0 l && z1y 0 l
 | .vp l=>noHL 0 l && z1y 0 l
 | .fn _ x y=>z3b hs x && z3b hs y
 | .ifc _ v=>z8j hs v
 | _=>true
def z3b (hs:List (Option HB)):List AV→Bool
 | []=>true
 | a::l=>z8j hs a && z3b hs l
end
def y4g:CR→Bool
 | .ret (.int _ _)=>true
 | .ret (.bool _)=>true
 | .ret (.str _)=>true
 | _=>false
section
variable {C:Cx}{G:Gh}{w:World}
def Gh.share (G:Gh)(w:World):Gh:={ σ:=fun _=>none,tk:=fun _=>none,K:=fun b o=>G.K b o∨∃ h,G.σ h=some b,B:=w.heap.size }

theorem z8u (hs:List (Option HB)):∀ (l:List AV) (i:Nat),(shL hs l)[i]?=(l[i]?).map (shA hs)
 | [],i=>by simp[shL]
 | a::l,0=>by simp[shL]
 | a::l,i+1=>by simpa[shL] using z8u hs l i
theorem z8t (hs:List (Option HB)):∀ (l:List AV),(shL hs l).length=l.length
 | []=>rfl
 | a::l=>by simp[shL,z8t hs l]
theorem z6l {hs:List (Option HB)}:∀ {l:List AV} {i:Nat} {a:AV},z3b hs l=true→l[i]?=some a→z8j hs a=true
 | b::l,0,a,h,hi=>by simp[z3b]at h hi;subst hi;exact h.1
 | b::l,i+1,a,h,hi=>by simp[z3b]at h hi;exact z6l h.2 hi
theorem z3k {b:Nat}:∀ {l:List AV} {i:Nat} {a:AV},z1y b l=true→l[i]?=some a→noT b a=true
 | c::l,0,a,h,hi=>by simp[z1y]at h hi;subst hi;exact h.1
 | c::l,i+1,a,h,hi=>by simp[z1y]at h hi;exact z3k h.2 hi

theorem Ext.share:Ext (G.bare w) w (G.share w) w:=⟨fun _ _ h=>.inl h,fun _ _ _=>rfl,fun _ _ h=>(by cases h),fun _ _ _ _ _ h=>(by cases h)⟩
theorem VR.plain {a:AV}{v:Value}(h:VR G w a v)(h1:Ev.noH 0 a=true)(h2:Ev.noT 0 a=true):VR (G.share w) w a v:=by
 have:=(h.bare h1).ext Ext.share
 rwa[y2j a h2]at this

theorem VR.share {S:St}(hI:Inv G w S){a:AV}{v:Value}(h:VR G w a v):z8j S.hs a=true→VR (G.share w) w (shA S.hs a) v:=by
 induction h with
 | bad v=>intro _;exact .bad v
 | int k n=>intro _;exact .int k n
 | bool b=>intro _;exact .bool b
 | str s=>intro _;exact .str s
 | raw r=>intro _;exact .raw r
 | agg l cs hs h ih =>
  intro ho
  simp only[shA]
  refine .agg _ _ (by rw[z8t];exact hs) fun i x hx=>?_
  rw[z8u,Option.map_eq_some_iff]at hx
  obtain ⟨y,hy,rfl⟩:=hx
  exact ih i y hy (z6l ho hy)
 | tup l cs hs h ih =>
  intro ho
  simp only[shA]
  refine .tup _ _ (by rw[z8t];exact hs) fun i x hx=>?_
  rw[z8u,Option.map_eq_some_iff]at hx
  obtain ⟨y,hy,rfl⟩:=hx
  exact ih i y hy (z6l ho hy)
 | vs l n t A c f hc h hh ht ih =>
  intro ho
  simp only[z8j,Bool.and_eq_true]at ho
  simp only[shA]
  exact VR.plain (VR.vs l n .none A c f hc h hh trivial) (by simpa[Ev.noH] using ho.1) (by simpa[Ev.noT] using ho.2)
 | vp l ad f h hh ih =>
  intro ho
  simp only[z8j,Bool.and_eq_true]at ho
  simp only[shA]
  exact VR.plain (VR.vp l ad f h hh) (by simpa[Ev.noH] using ho.1) (by simpa[Ev.noT] using ho.2)
 | ptr h off b hb =>
  intro ho
  simp only[shA]
  split
  ·rename_i l t hl
   simp only[z8j,hl,Bool.and_eq_true]at ho
   obtain ⟨b',o,h1,h2,h3⟩:=hI.blk h _ hl
   rw[hb]at h1
   cases h1
   cases h3 with
   | cells l t cs hs hc =>
    refine .vp _ _ (fun i=>cs.getD (off+i) Go.undef) (fun i x hx=>?_) ⟨rfl,fun i hi=>⟨.inr ⟨h,hb⟩,?_⟩⟩
    ·rw[List.getElem?_drop]at hx
     exact (hc _ x hx).plain (z1a ho.1 hx) (z3k ho.2 hx)
    ·rw[List.length_drop]at hi
     have:off+i < cs.size:=by omega
     simp only[World.cell?,h2]
     simp[this]
  ·exact .bad _
 | row h off n c b hb hc=>intro _;exact .bad _
 | mp h b hb=>intro _;exact .bad _
 | fn f a b us bs ha hb h1 h2 ih1 ih2 =>
  intro ho
  simp only[z8j,Bool.and_eq_true]at ho
  simp only[shA]
  refine .fn f _ _ us bs (by rw[z8t];exact ha) (by rw[z8t];exact hb) (fun i x hx=>?_) (fun i x hx=>?_)
  ·rw[z8u,Option.map_eq_some_iff]at hx
   obtain ⟨y,hy,rfl⟩:=hx
   exact ih1 i y hy (z6l ho.1 hy)
  ·rw[z8u,Option.map_eq_some_iff]at hx
   obtain ⟨y,hy,rfl⟩:=hx
   exact ih2 i y hy (z6l ho.2 hy)
 | ifc t a v h ih=>intro ho;exact .ifc t _ v (ih ho)

theorem VRs.share {S:St}(hI:Inv G w S){l:List AV}{us:List Value}(h:VRs G w l us)(ho:z3b S.hs l=true):VRs (G.share w) w (shL S.hs l) us:=by
 refine ⟨by rw[z8t];exact h.1,fun i x hx=>?_⟩
 rw[z8u,Option.map_eq_some_iff]at hx
 obtain ⟨y,hy,rfl⟩:=hx
 obtain ⟨v,h1,h2⟩:=h.2 i y hy
 exact ⟨v,h1,h2.share hI (z6l ho hy)⟩

theorem Inv.share {S:St}(hI:Inv G w S):Inv (G.share w) w St.nil where
 blk:=fun h hb hh=>by simp[St.nil]at hh
 dom:=fun h b hh=>by simp[Gh.share]at hh
 inj:=fun h h' b hh=>by simp[Gh.share]at hh
 fr:=fun h b o hh=>by simp[Gh.share]at hh
 base:=fun h b hh=>by simp[Gh.share]at hh
 tok:=fun k m z hh=>by simp[St.nil]at hh
 tdom:=fun k b c m z hh=>by simp[Gh.share]at hh
 tinj:=fun k k' b c m z c' m' z' hh=>by simp[Gh.share]at hh
 tσ:=fun k b c m z h hh=>by simp[Gh.share]at hh
 kin:=fun b o hk=>by
  rcases hk with hk | ⟨h,hk⟩
  ·exact hI.kin b o hk
  ·exact hI.blk_lt hk
 bin:=Nat.le_refl _

theorem CallOk.share (hgt:z1v C){g:FuncId}{args:List AV}{r:CR}{S:St}(h:CallOk C g (shL S.hs args) St.nil r St.nil)(hs:y4g r=true)(ho:z3b S.hs args=true):CallOk C g args S r S:=by
 intro G w us hI hg has
 have hg0:GtR C (G.share w) w:=fun x l hl=>(hg x l hl).plain (by simp only[Ev.noH];exact (hgt x l hl).1) (by simp only[Ev.noT];exact (hgt x l hl).2)
 obtain hc:=h (G.share w) w us hI.share hg0 (has.share hI ho)
 refine hc.mono fun e w' hp=>?_
 obtain ⟨G0',q1,q2,q3⟩:=hp
 have hkn:∀ b o,G0'.K b o→G.K b o∨(∃ h,G.σ h=some b)∨w.heap.size≤b:=fun b o hk=>by
  rcases q2.kn b o hk with h1 | h1 | ⟨k,c,m,z,h1⟩
  ·rcases h1 with h1 | h1
   ·exact .inl h1
   ·exact .inr (.inl h1)
  ·exact .inr (.inr h1)
  ·simp[Gh.share]at h1
 have hold:∀ b,b < w.heap.size→w'.heap[b]?=w.heap[b]?:=fun b hb=>q2.frame b hb (fun x hx=>by simp[Gh.share]at hx) (fun k c m z hx=>by simp[Gh.share]at hx)
 have hsize:=q2.size
 have ext2:Ext G w G w':=⟨fun b o hk=>hk,fun b o hk=>q2.cell b o (.inl hk),fun _ _ h=>h,fun k b c m z hk=>⟨b,c,m,hk,.inl ⟨rfl,rfl,rfl⟩⟩⟩
 refine ⟨G,?_,?_,?_⟩
 ·exact {
   blk:=fun k hb hk=>by
    obtain ⟨b,o,h1,h2,h3⟩:=hI.blk k hb hk
    exact ⟨b,o,h1,(hold b (hI.blk_lt h1)).trans h2,h3.ext ext2⟩
   dom:=hI.dom
   inj:=hI.inj
   fr:=hI.fr
   base:=hI.base
   tok:=hI.tok
   tdom:=fun k b c m z hk=>by
    obtain ⟨h1,h2,h3,h4,h5,⟨cs,e,⟨fz,h6,h7⟩,h8,h9⟩,h10⟩:=hI.tdom k b c m z hk
    exact ⟨h1,h2,h3,h4,h5,⟨cs,e,⟨fz,(hold b (hI.tk_lt hk)).trans h6,h7⟩,h8,h9⟩,h10⟩
   tinj:=hI.tinj
   tσ:=hI.tσ
   kin:=fun b o hk=>Nat.lt_of_lt_of_le (hI.kin b o hk) hsize
   bin:=Nat.le_trans hI.bin hsize }
 ·exact {
   k:=fun _ _ h=>h
   cell:=fun b o hk=>q2.cell b o (.inl hk)
   σ:=fun _ _ h=>h
   σn:=fun _ _ h=>.inl h
   tk:=fun k b c m z hk=>⟨b,c,m,hk,.inl ⟨rfl,rfl,rfl⟩⟩
   tkn:=fun k b c m z hk=>.inl ⟨c,m,z,hk⟩
   kn:=fun b o hk=>.inl hk
   B:=rfl
   size:=hsize
   os:=q2.os
   tape:=q2.tape
   output:=q2.output
   frame:=fun b hb _ _=>hold b hb }
 ·cases r with
  | pan a=>cases hs
  | ret a =>
   obtain ⟨v,h1,h2⟩:=q3
   refine ⟨v,h1,?_⟩
   cases h2<;>first | exact .int _ _ | exact .bool _ | exact .str _ | cases hs
end

def z7t (R:Spc)(args:List AV)(S:St)(k:CR→St→Prop):Prop:=match R (shL S.hs args) with
 | some (D,r)=>D∧(y4g r=true∧z3b S.hs args=true)∧k r S
 | none=>False
theorem x2e (R:Spc):One (z7t R):=by
 intro args S
 unfold z7t
 cases h:R (shL S.hs args) with
 | none=>exact ⟨(.ret .bad,S),False,fun k=>by simp⟩
 | some p=>exact ⟨(p.2,S),p.1∧(y4g p.2=true∧z3b S.hs args=true),fun k=>by simp[and_assoc]⟩
theorem Ct.hookS {C0:Cx}(hgt:z1v C0){g:FuncId}{R:Spc}(h:Ct C0 g R)(hn:∀ args (D:Prop) r,R args=some (D,r)→D→z0e 0 args=args):HookOk C0 g (z7t R) where
 one:=x2e R
 body:=h.body
 ok:=fun args S r S' hw=>by
  unfold z7t at hw
  split at hw
  ·rename_i D r' hR
   obtain ⟨hD,⟨hs,ho⟩,rfl,rfl⟩:=hw
   obtain ⟨h1,h2⟩:=h.ok _ D r' hR hD
   rw[hn _ _ _ hR hD]at h2
   exact ⟨h2.share hgt hs ho,Wl.refl S⟩
  ·exact hw.elim
end Go.Ev
namespace Go.Ev
open Go.RowKit
theorem y1i {C:Cx}{G0 G1:Gh}{w0 w1:World}{hs0:List (Option HB)}{S1:St}{nb:Nat}(hn:hs0.length=nb)(hI0:Inv G0 w0 ⟨hs0,[],[]⟩)(hI1:Inv G1 w1 S1)(hE:Evo G0 w0 G1 w1)
  (hb:(S1.hs.take nb).all (okBlk nb)=true) {r r':AV} {v:Value} (hr':pub C S1.hs nb r=some r') (hv:VR G1 w1 r v) :
  ∃ G2,Inv G2 w1 ⟨(S1.hs.take nb).map (Option.map (z0n 0)),[],[]⟩∧Evo G0 w0 G2 w1∧VR G2 w1 (scrub 0 r') v:=by
 have hσ0:∀ h b,G0.σ h=some b→h < nb:=fun h b hb=>by
  have:=hI0.σ_lt hb
  simpa[hn] using this
 have htk0:∀ k x,G0.tk k≠some x:=by
  intro k x hx
  obtain ⟨b,c,m,z⟩:=x
  obtain ⟨h1,_⟩:=hI0.tdom _ _ _ _ _ hx
  simp at h1
 have hget:∀ h y,((S1.hs.take nb).map (Option.map (z0n 0)))[h]?=some (some y)→h < nb∧∃ x,S1.hs[h]?=some (some x)∧y=z0n 0 x:=by
  intro h y hy
  rw[List.getElem?_map,Option.map_eq_some_iff]at hy
  obtain ⟨x,hx,h2⟩:=hy
  have hl:h < nb:=by
   have:=(List.getElem?_eq_some_iff.1 hx).1
   simp at this;omega
  rw[List.getElem?_take_of_lt hl]at hx
  rw[Option.map_eq_some_iff]at h2
  obtain ⟨z,rfl,rfl⟩:=h2
  exact ⟨hl,z,hx,rfl⟩
 have hok:∀ h x,h < nb→S1.hs[h]?=some (some x)→noHB nb x=true:=by
  intro h x hl hx
  have h1:(S1.hs.take nb)[h]?=some (some x):=by rw[List.getElem?_take_of_lt hl];exact hx
  exact List.all_eq_true.1 hb _ (List.mem_of_getElem? h1)
 have hσ2:∀ h b,(((G1.pubK nb).cut nb).cutT 0).σ h=some b→h < nb∧G1.σ h=some b:=by
  intro h b hx
  simp only[Gh.cutT,Gh.cut,Gh.pubK]at hx
  split at hx
  ·rename_i h1;exact ⟨h1,hx⟩
  ·cases hx
 have htk2:∀ k x,(((G1.pubK nb).cut nb).cutT 0).tk k≠some x:=by
  intro k x hx
  simp[Gh.cutT,Gh.cut,Gh.pubK]at hx
 refine ⟨((G1.pubK nb).cut nb).cutT 0,?_,?_,VR.cutT (Nat.le_refl _) _ (VR.scrub' _ (z9s hI1 r hr' hv))⟩
 ·exact {
   blk:=fun h y hy=>by
    obtain ⟨hl,x,hx,rfl⟩:=hget h y hy
    obtain ⟨b,o,g1,g2,g3⟩:=hI1.blk h x hx
    exact ⟨b,o,by simp[Gh.cutT,Gh.cut,Gh.pubK,hl,g1],g2,((g3.ext (z9c G1 w1 nb)).cut (hok h x hl hx)).cutS⟩
   dom:=fun h b hb=>by
    obtain ⟨hl,h1⟩:=hσ2 h b hb
    obtain ⟨x,hx⟩:=hI1.dom _ _ h1
    exact ⟨z0n 0 x,by simp only[];rw[List.getElem?_map,List.getElem?_take_of_lt hl,hx];rfl⟩
   inj:=fun h h' b h1 h2=>hI1.inj _ _ _ (hσ2 _ _ h1).2 (hσ2 _ _ h2).2
   fr:=fun h b o h1=>by
    obtain ⟨hl,h1⟩:=hσ2 _ _ h1
    rintro (hK | ⟨h',h2,h3⟩)
    ·exact hI1.fr _ _ _ h1 hK
    ·have:=hI1.inj _ _ _ h1 h3;omega
   base:=fun h b h1=>hI1.base _ _ (hσ2 _ _ h1).2
   tok:=fun k m z hk=>by simp at hk
   tdom:=fun k b c m z hk=>absurd hk (htk2 _ _)
   tinj:=fun k k' b c m z c' m' z' h1 h2=>absurd h1 (htk2 _ _)
   tσ:=fun k b c m z h h1 h2=>absurd h1 (htk2 _ _)
   kin:=fun b o hK=>by
    rcases hK with hK | ⟨h',h2,h3⟩
    ·exact hI1.kin _ _ hK
    ·exact hI1.blk_lt h3
   bin:=hI1.bin }
 ·exact {
   k:=fun b o hK=>.inl (hE.k _ _ hK)
   cell:=hE.cell
   σ:=fun h b hb=>by
    have:=hE.σ _ _ hb
    simp[Gh.cutT,Gh.cut,Gh.pubK,hσ0 _ _ hb,this]
   σn:=fun h b hb=>hE.σn _ _ (hσ2 _ _ hb).2
   tk:=fun k b c m z hk=>absurd hk (htk0 _ _)
   tkn:=fun k b c m z hk=>absurd hk (htk2 _ _)
   kn:=fun b o hK=>by
    rcases hK with hK | ⟨h',h2,h3⟩
    ·exact hE.kn _ _ hK
    ·rcases hE.σn _ _ h3 with h4 | h4
     ·have:=hσ0 _ _ h4;omega
     ·exact .inr (.inl h4)
   B:=hE.B
   size:=hE.size
   os:=hE.os
   tape:=hE.tape
   output:=hE.output
   frame:=hE.frame }

section
variable {C:WCx}
theorem x17 (ho:C.Ones)(hC:CxOk C.cx){g:FuncId}{args:List AV}{hs:List (Option HB)}(hn:hs.length=C.bs){Q:CR→List (Option HB)→Prop}(h:wpS C g args hs Q):∃ r hs',CallOk C.cx g args ⟨hs,[],[]⟩ r ⟨hs',[],[]⟩∧Q r hs':=by
 unfold wpS at h
 split at h
 case h_2=>exact h.elim
 rename_i fn hfn
 split at h
 case h_2=>exact h.elim
 rename_i c hc
 obtain ⟨x,e,s,h1,h2⟩:=z89 ho hC _ _ _ _ h
 unfold z05 at h2
 rw[hfn]at h2
 simp only at h2
 have main:(z2b (z0v C.pc fn e s) fun r=>z2b (pub C.pc s.hs C.bs r) fun r'=>cIf ((s.hs.take C.bs).all (okBlk C.bs)) (Q (.ret (scrub 0 r')) ((s.hs.take C.bs).map (Option.map (z0n 0)))) False)→(x=.normal∨x=.ret) →
   ∃ r hs',CallOk C.cx g args ⟨hs,[],[]⟩ r ⟨hs',[],[]⟩∧Q r hs':=by
  intro h2 hx
  obtain ⟨v,q1,h2⟩:=z1j h2
  obtain ⟨r',q2,h2⟩:=z1j h2
  obtain ⟨q3,h2⟩:=z0r h2
  refine ⟨_,_,?_,h2⟩
  intro G w us hI hg has
  refine (callsIn_wide (n:=0)).1 (callsIn_of_wp hfn hc trivial ?_)
  have hb:G.Under C.bs:=⟨fun h hge=>by
   cases hs':G.σ h with
   | none=>rfl
   | some b =>
    have:=hI.σ_lt hs'
    simp only[hn]at this
    omega,fun k=>by
   cases hs:G.tk k with
   | none=>rfl
   | some x=>obtain ⟨b,c,m,z⟩:=x;have:=(hI.tdom _ _ _ _ _ hs).1;simp at this⟩
  have he:=z81 has fn.ntmps
  refine h1.run (hC.codes g fn c hfn hc) G w hb hg none 0 [] G w _ (Evo.refl G w) hI he rfl _ ?_
  rintro e0 a' w' ⟨G1,p1,p2,p3,p4,p5⟩
  have ret:a'.defers=[]∧∃ v,(results fn a'.tmps).run C.P w'=.ok v w'∧z6h G w (.ret (scrub 0 r')) ⟨(s.hs.take C.bs).map (Option.map (z0n 0)),[],[]⟩ (.returned v) w':=by
   obtain ⟨u,u1,u2⟩:=z3n p1 p3 ((z7v (C:=C) _ _ _).trans q1)
   obtain ⟨G2,r1,r2,r3⟩:=y1i (C:=C.pc) hn hI p1 p2 q3 q2 u1
   exact ⟨p4,u,u2,G2,r1,r2,u,rfl,r3⟩
  rcases hx with rfl | rfl
  ·simp only[ExR]at p5;subst p5;exact ret
  ·simp only[ExR]at p5;subst p5;exact ret
 cases x with
 | normal=>exact main h2 (.inl rfl)
 | ret=>exact main h2 (.inr rfl)
 | exit i=>exact h2.elim
 | pan v=>exact h2.elim
end
end Go.Ev
namespace Go.Ev
def z8f (n:Nat):Option HB→Bool
 | some b=>noHB n b
 | none=>false
section
variable {C:Cx}{G:Gh}{w:World}
def Gh.pre (G:Gh)(nb:Nat):Gh:=(G.cut nb).cutT 0
def z9u (S:St)(nb:Nat):St:=⟨(S.hs.take nb).map (Option.map (z0n 0)),[],[]⟩

theorem z6w {nb h b:Nat}(hx:(G.pre nb).σ h=some b):h < nb∧G.σ h=some b:=by
 simp only[Gh.pre,Gh.cutT,Gh.cut]at hx
 split at hx
 ·rename_i h1;exact ⟨h1,hx⟩
 ·cases hx
theorem z9d {nb h b:Nat}(hl:h < nb)(hx:G.σ h=some b):(G.pre nb).σ h=some b:=by
 simp[Gh.pre,Gh.cutT,Gh.cut,hl,hx]
theorem z6x {nb k:Nat}{x:Nat×Nat×Nat×(Nat×Nat)}:(G.pre nb).tk k≠some x:=by
 intro hx
 simp[Gh.pre,Gh.cutT]at hx

theorem VR.pre {nb:Nat}{a:AV}{v:Value}(h:VR G w a v)(hn:Ev.noH nb a=true):VR (G.pre nb) w (scrub 0 a) v :=
 VR.cutT (Nat.le_refl _) a (VR.scrub' (tb:=0) a (h.cut hn))
theorem Ext.pre (nb:Nat):Ext (G.bare w) w (G.pre nb) w:=⟨fun _ _ h=>h,fun _ _ _=>rfl,fun _ _ h=>(by cases h),fun _ _ _ _ _ h=>(by cases h)⟩

theorem Inv.pre {S:St}{nb:Nat}(hI:Inv G w S)(hok:(S.hs.take nb).all (z8f nb)=true):Inv (G.pre nb) w (z9u S nb) where
 blk:=fun h y hy=>by
  simp only[z9u]at hy
  rw[List.getElem?_map,Option.map_eq_some_iff]at hy
  obtain ⟨x,hx,h2⟩:=hy
  have hl:h < nb:=by
   have:=(List.getElem?_eq_some_iff.1 hx).1
   simp at this;omega
  have hm:=List.all_eq_true.1 hok _ (List.mem_of_getElem? hx)
  rw[List.getElem?_take_of_lt hl]at hx
  rw[Option.map_eq_some_iff]at h2
  obtain ⟨z,rfl,rfl⟩:=h2
  obtain ⟨b,o,g1,g2,g3⟩:=hI.blk h z hx
  exact ⟨b,o,z9d hl g1,g2,(g3.cut hm).cutS⟩
 dom:=fun h b hb=>by
  obtain ⟨hl,h1⟩:=z6w hb
  obtain ⟨x,hx⟩:=hI.dom _ _ h1
  exact ⟨z0n 0 x,by simp only[z9u];rw[List.getElem?_map,List.getElem?_take_of_lt hl,hx];rfl⟩
 inj:=fun h h' b h1 h2=>hI.inj _ _ _ (z6w h1).2 (z6w h2).2
 fr:=fun h b o h1 hK=>hI.fr _ _ _ (z6w h1).2 hK
 base:=fun h b h1=>hI.base _ _ (z6w h1).2
 tok:=fun k m z hk=>by simp[z9u]at hk
 tdom:=fun k b c m z hk=>absurd hk z6x
 tinj:=fun k k' b c m z c' m' z' h1 h2=>absurd h1 z6x
 tσ:=fun k b c m z h h1 h2=>absurd h1 z6x
 kin:=hI.kin
 bin:=hI.bin

theorem VRs.pre {nb:Nat}{l:List AV}{us:List Value}(h:VRs G w l us)(hn:Ev.noHL nb l=true):VRs (G.pre nb) w (z0e 0 l) us:=by
 have hg:∀ (l:List AV) (i:Nat),(z0e 0 l)[i]?=(l[i]?).map (scrub 0):=by
  intro l
  induction l with
  | nil=>intro i;simp[z0e]
  | cons a l ih=>intro i;cases i with
   | zero=>simp[z0e]
   | succ i=>simpa[z0e] using ih i
 have hlen:(z0e 0 l).length=l.length:=by
  clear h hn hg
  induction l with
  | nil=>rfl
  | cons a l ih=>simp[z0e,ih]
 refine ⟨by rw[hlen];exact h.1,fun i x hx=>?_⟩
 rw[hg,Option.map_eq_some_iff]at hx
 obtain ⟨y,hy,rfl⟩:=hx
 obtain ⟨v,h1,h2⟩:=h.2 i y hy
 exact ⟨v,h1,h2.pre (z1a hn hy)⟩

theorem CallOk.pre (hgt:z1v C){g:FuncId}{args:List AV}{r:CR}{S:St}{nb:Nat}{hs':List (Option HB)}(h:CallOk C g (z0e 0 args) (z9u S nb) r ⟨hs',[],[]⟩)
  (ha:Ev.noHL nb args=true) (hok:(S.hs.take nb).all (z8f nb)=true) (hlen:hs'.length=nb) (hnb:nb≤S.hs.length) (wl:List Nat):CallOk C g args S r ⟨hs'++S.hs.drop nb,S.ts,wl⟩:=by
 intro G w us hI hg has
 have hg0:GtR C (G.pre nb) w:=fun x l hl=>by
  have h1:=((hg x l hl).bare (by simp only[Ev.noH];exact (hgt x l hl).1)).ext (Ext.pre nb)
  have h2:scrub 0 (.vp l)=.vp l:=by
   simp only[scrub]
   congr 1
   exact z17 l (hgt x l hl).2
  rwa[h2]at h1
 obtain hc:=h (G.pre nb) w us (hI.pre hok) hg0 (has.pre ha)
 refine hc.mono fun e w' hp=>?_
 obtain ⟨G0',q1,q2,q3⟩:=hp
 have hpres:∀ k,k < nb→∃ x,S.hs[k]?=some (some x):=fun k hk=>by
  have h1:k < S.hs.length:=by omega
  have h2:(S.hs.take nb)[k]?=some S.hs[k]:=by rw[List.getElem?_take_of_lt hk];exact List.getElem?_eq_getElem h1
  have h3:=List.all_eq_true.1 hok _ (List.mem_of_getElem? h2)
  rw[List.getElem?_eq_getElem h1]
  cases hx:S.hs[k] with
  | none=>rw[hx]at h3;cases h3
  | some x=>exact ⟨x,rfl⟩
 have hσ:∀ k b,G0'.σ k=some b→k < nb∧G.σ k=some b:=fun k b hk=>by
  have hl:k < nb:=by
   obtain ⟨hb,hx⟩:=q1.dom _ _ hk
   have:=(List.getElem?_eq_some_iff.1 hx).1
   simp at this;omega
  obtain ⟨x,hx⟩:=hpres k hl
  obtain ⟨b0,o,h1,h2,h3⟩:=hI.blk k x hx
  have:=q2.σ _ _ (z9d hl h1)
  rw[hk]at this
  cases this
  exact ⟨hl,h1⟩
 have htk:∀ k x,G0'.tk k≠some x:=fun k x hk=>by obtain ⟨b,c,m,z⟩:=x;have:=(q1.tdom _ _ _ _ _ hk).1;simp at this
 have hkn:∀ b o,G0'.K b o→G.K b o∨w.heap.size≤b:=fun b o hk=>by
  rcases q2.kn b o hk with h1 | h1 | ⟨k,c,m,z,h1⟩
  ·exact .inl h1
  ·exact .inr h1
  ·exact absurd h1 z6x
 have hold:∀ b,b < w.heap.size→(∀ k,k < nb→G.σ k≠some b)→w'.heap[b]?=w.heap[b]?:=fun b hb hx=>q2.frame b hb (fun k hk=>hx k (z6w hk).1 (z6w hk).2) (fun k c m z hk=>z6x hk)
 have ext1:Ext G0' w' { G with K:=G0'.K } w':=⟨fun _ _ h=>h,fun _ _ _=>rfl,fun k b hk=>(hσ k b hk).2,fun k b c m z hk=>absurd hk (htk k _)⟩
 have ext2:Ext G w { G with K:=G0'.K } w':=⟨fun b o hk=>q2.k b o hk,fun b o hk=>q2.cell b o hk,fun _ _ h=>h,fun k b c m z hk=>⟨b,c,m,hk,.inl ⟨rfl,rfl,rfl⟩⟩⟩
 have hgetlt:∀ k,k < nb→(hs'++S.hs.drop nb)[k]?=hs'[k]?:=fun k hk=>List.getElem?_append_left (by omega)
 have hgetge:∀ k,nb≤k→(hs'++S.hs.drop nb)[k]?=S.hs[k]?:=fun k hk=>by
  rw[List.getElem?_append_right (by omega),List.getElem?_drop]
  congr 1
  omega
 have hin:∀ k b,nb≤k→G.σ k=some b→∀ j,j < nb→G.σ j≠some b:=fun k b hk h1 j hj h2=>by
  have:=hI.inj _ _ _ h1 h2;omega
 refine ⟨{ G with K:=G0'.K },?_,?_,?_⟩
 ·exact {
   blk:=fun k hb hk=>by
    rcases Nat.lt_or_ge k nb with hl | hge
    ·simp only at hk
     rw[hgetlt k hl]at hk
     obtain ⟨b,o,h1,h2,h3⟩:=q1.blk k hb hk
     exact ⟨b,o,(hσ k b h1).2,h2,h3.ext ext1⟩
    ·simp only at hk
     rw[hgetge k hge]at hk
     obtain ⟨b,o,h1,h2,h3⟩:=hI.blk k hb hk
     exact ⟨b,o,h1,(hold b (hI.blk_lt h1) (hin k b hge h1)).trans h2,h3.ext ext2⟩
   dom:=fun k b hk=>by
    rcases Nat.lt_or_ge k nb with hl | hge
    ·simp only
     rw[hgetlt k hl]
     exact q1.dom k b (q2.σ _ _ (z9d hl hk))
    ·simp only
     rw[hgetge k hge]
     exact hI.dom k b hk
   inj:=hI.inj
   fr:=fun k b o hk hK=>by
    rcases Nat.lt_or_ge k nb with hl | hge
    ·exact q1.fr k b o (q2.σ _ _ (z9d hl hk)) hK
    ·rcases hkn b o hK with h1 | h1
     ·exact hI.fr k b o hk h1
     ·have:=hI.blk_lt hk;omega
   base:=hI.base
   tok:=hI.tok
   tdom:=fun k b c m z hk=>by
    obtain ⟨h1,h2,h3,h4,h5,⟨cs,e,⟨fz,h6,h7⟩,h8,h9⟩,h10⟩:=hI.tdom k b c m z hk
    refine ⟨h1,h2,h3,h4,h5,⟨cs,e,⟨fz,(hold b (hI.tk_lt hk) fun j _ hj=>hI.tσ _ _ _ _ _ _ hk hj).trans h6,h7⟩,h8,h9⟩,fun o hK=>?_⟩
    rcases hkn b o hK with h11 | h11
    ·exact h10 o h11
    ·have:=hI.tk_lt hk;omega
   tinj:=hI.tinj
   tσ:=hI.tσ
   kin:=q1.kin
   bin:=Nat.le_trans hI.bin q2.size }
 ·exact {
   k:=q2.k
   cell:=q2.cell
   σ:=fun _ _ h=>h
   σn:=fun _ _ h=>.inl h
   tk:=fun k b c m z hk=>⟨b,c,m,hk,.inl ⟨rfl,rfl,rfl⟩⟩
   tkn:=fun k b c m z hk=>.inl ⟨c,m,z,hk⟩
   kn:=fun b o hk=>by
    rcases hkn b o hk with h1 | h1
    ·exact .inl h1
    ·exact .inr (.inl h1)
   B:=rfl
   size:=q2.size
   os:=q2.os
   tape:=q2.tape
   output:=q2.output
   frame:=fun b hb hx _=>hold b hb fun k _=>hx k }
 ·cases r with
  | ret a=>obtain ⟨v,h1,h2⟩:=q3;exact ⟨v,h1,h2.ext ext1⟩
  | pan a=>obtain ⟨v,h1,h2⟩:=q3;exact ⟨v,h1,h2.ext ext1⟩
end

abbrev SpcP:=List AV→List (Option HB)→Option (Prop×CR×List (Option HB))
def y7j (nb:Nat)(R:SpcP)(args:List AV)(S:St)(k:CR→St→Prop):Prop:=match R args (S.hs.take nb) with
 | some (D,r,hs')=>D∧(noHL nb args=true∧(S.hs.take nb).all (z8f nb)=true∧hs'.length=nb∧nb≤S.hs.length)∧k r ⟨hs'++S.hs.drop nb,S.ts,z2i (List.range nb) S.wl⟩
 | none=>False
theorem x2f (nb:Nat)(R:SpcP):One (y7j nb R):=by
 intro args S
 unfold y7j
 cases h:R args (S.hs.take nb) with
 | none=>exact ⟨(.ret .bad,S),False,fun k=>by simp⟩
 | some p=>exact ⟨(p.2.1,⟨p.2.2++S.hs.drop nb,S.ts,z2i (List.range nb) S.wl⟩),p.1∧(noHL nb args=true∧(S.hs.take nb).all (z8f nb)=true∧p.2.2.length=nb∧nb≤S.hs.length),fun k=>by simp[and_assoc]⟩
structure CtP (C0:Cx) (g:FuncId) (nb:Nat) (R:SpcP):Prop where
 body:∃ (fn:Func) (c:Code),C0.P.funcs[g]?=some fn∧fn.body=some c
 ok:∀ args hs (D:Prop) r hs',R args hs=some (D,r,hs')→D→hs.length=nb→CallOk C0 g (z0e 0 args) ⟨hs.map (Option.map (z0n 0)),[],[]⟩ r ⟨hs',[],[]⟩
theorem z7j:∀ (ws l:List Nat) (x:Nat),x∈z2i ws l↔x∈ws∨x∈l
 | [],l,x=>by simp[z2i]
 | h::ws,l,x=>by
  simp only[z2i]
  rw[z7j ws]
  split
  ·rename_i hc
   have hc:h∈l:=by simpa using hc
   constructor
   ·rintro (h1 | h1)
    ·exact .inl (List.mem_cons_of_mem _ h1)
    ·exact .inr h1
   ·rintro (h1 | h1)
    ·rcases List.mem_cons.1 h1 with rfl | h1
     ·exact .inr hc
     ·exact .inl h1
    ·exact .inr h1
  ·simp only[List.mem_cons]
   constructor
   ·rintro (h1 | h1 | h1)
    ·exact .inl (.inr h1)
    ·exact .inl (.inl h1)
    ·exact .inr h1
   ·rintro ((h1 | h1) | h1)
    ·exact .inr (.inl h1)
    ·exact .inl h1
    ·exact .inr (.inr h1)
theorem CtP.hook {C0:Cx}(hgt:z1v C0){g:FuncId}{nb:Nat}{R:SpcP}(h:CtP C0 g nb R):HookOk C0 g (y7j nb R) where
 one:=x2f nb R
 body:=h.body
 ok:=fun args S r S' hw=>by
  unfold y7j at hw
  split at hw
  ·rename_i D r' hs' hR
   obtain ⟨hD,⟨h1,h2,h3,h4⟩,rfl,rfl⟩:=hw
   have h5:=h.ok args _ D r' hs' hR hD (by rw[List.length_take];omega)
   refine ⟨CallOk.pre hgt (S:=S) (nb:=nb) h5 h1 h2 h3 h4 _,?_,Nat.le_refl _,fun x hx=>(z7j _ _ _).2 (.inr hx),fun x hx hn=>?_⟩
   ·simp only[List.length_append,List.length_drop];omega
   ·have hge:nb≤x:=by
     rcases Nat.lt_or_ge x nb with hl | hge
     ·exact absurd ((z7j _ _ _).2 (.inl (List.mem_range.2 hl))) hn
     ·exact hge
    simp only
    rw[List.getElem?_append_right (by omega),List.getElem?_drop]
    congr 1
    omega
  ·exact hw.elim
end Go.Ev
namespace Go.Ev
def SpcP.below (R:SpcP)(n:Nat):SpcP:=fun args hs=>match R args hs with
 | some (D,r)=>some (D∧z5x args < n,r)
 | none=>none
def Base.hk (B:Base)(g:FuncId)(W:List AV→St→(CR→St→Prop)→Prop):Base:={ B with hw:=fun g'=>match Nat.beq g' g with | true=>some W | false=>B.hw g' }
theorem BaseOk.hk {B:Base}(hB:BaseOk B){g:FuncId}{W:List AV→St→(CR→St→Prop)→Prop}(h:HookOk B.c0 g W):BaseOk (B.hk g W) where
 eqt:=hB.eqt
 codes:=hB.codes
 nat:=hB.nat
 mixed:=hB.mixed
 names:=hB.names
 gtp:=hB.gtp
 hw:=fun g' W' h'=>by
  simp only[Base.hk]at h'
  split at h'
  ·rename_i hg
   have:=Nat.eq_of_beq_eq_true hg
   subst this
   cases h'
   exact h
  ·exact hB.hw g' W' h'
def Base.wcxP (B:Base)(nb:Nat)(l:List (FuncId×Spc))(lm:List (Nat×List Nat):=[])(tp:List Nat:=[])(ct:List Nat:=[])(sm:List (Nat×Nat):=[]):WCx:={ B.wcx l lm tp ct sm with bs:=nb }
section
variable {B:Base}{nb:Nat}{l:List (FuncId×Spc)}{lm:List (Nat×List Nat)}{tp ct:List Nat}{sm:List (Nat×Nat)}
theorem y15 (hB:BaseOk B)(hl:Cts B l):(B.wcxP nb l lm tp ct sm).Ones:=z7l (lm:=lm) (tp:=tp) (ct:=ct) (sm:=sm) hB hl
theorem y53 (hB:BaseOk B)(hl:Cts B l):CxOk (B.wcxP nb l lm tp ct sm).cx:=y0m (lm:=lm) (tp:=tp) (ct:=ct) (sm:=sm) hB hl
end
end Go.Ev
namespace Go.Ev
end Go.Ev
namespace Go.Ev

abbrev Memo:=List (FuncId×List AV×CR)
def y8m (M:Memo)(g:FuncId)(args:List AV)(S:St):Option (CR×St) :=
 match M.find? fun e=>Nat.beq e.1 g && (noHL 0 args && AV.eqbL e.2.1 (z0e 0 args)) with
 | some e=>some (e.2.2,S)
 | none=>none
def Cx.memo (C:Cx)(M:Memo):Cx:={ C with hk:=fun g=>if M.any (fun e=>Nat.beq e.1 g)=true then some (y8m M g) else C.hk g }

def MemoOk (C0:Cx)(M:Memo):Prop:=∀ e∈M,(∃ (fn:Func) (c:Code),C0.P.funcs[e.1]?=some fn∧fn.body=some c)∧CallOk C0 e.1 e.2.1 St.nil e.2.2 St.nil
theorem MemoOk.nil (C0:Cx):MemoOk C0 []:=fun e h=>by simp at h
theorem MemoOk.cons {C0:Cx}{g:FuncId}{args:List AV}{r:CR}{M:Memo}(hb:∃ (fn:Func) (c:Code),C0.P.funcs[g]?=some fn∧fn.body=some c)(h:CallOk C0 g args St.nil r St.nil)(hM:MemoOk C0 M):MemoOk C0 ((g,args,r)::M):=fun e he=>by
 rcases List.mem_cons.1 he with rfl | he
 ·exact ⟨hb,h⟩
 ·exact hM e he

theorem y63 {C:Cx}{M:Memo}(hgt:z1v C)(hM:MemoOk C M){g:FuncId}{args:List AV}{S S':St}{r:CR}(h:y8m M g args S=some (r,S')) :
  ((∃ (fn:Func) (c:Code),C.P.funcs[g]?=some fn∧fn.body=some c)∧CallOk C g args S r S')∧S'=S:=by
 unfold y8m at h
 split at h
 ·rename_i e he
  cases h
  have h1:=List.find?_some he
  have h2:=List.mem_of_find?_eq_some he
  simp only[Bool.and_eq_true]at h1
  obtain ⟨h3,h4,h5⟩:=h1
  have h3:=Nat.eq_of_beq_eq_true h3
  have h5:=AV.eqbL_eq _ _ h5
  obtain ⟨h6,h7⟩:=hM e h2
  rw[h3]at h6 h7
  rw[h5]at h7
  exact ⟨⟨h6,h7.frame hgt h4 S⟩,rfl⟩
 ·cases h

theorem y10 {C:Cx}(M:Memo):∀ (fs:List Field) (l m:List AV),z07 (C.memo M) fs l m=z07 C fs l m
 | [],l,m=>by cases l<;>cases m<;>rfl
 | f::fs,[],m=>by cases m<;>rfl
 | f::fs,a::l,[]=>rfl
 | f::fs,a::l,b::m=>by simp only[z07,y10 M fs];rfl
theorem y5k {C:Cx}(M:Memo):∀ (fs:List Field),z3g (C.memo M) fs=z3g C fs
 | []=>rfl
 | f::fs=>by simp only[z3g,y5k M fs];rfl
theorem EqtOk.memo {C:Cx}(M:Memo)(h:EqtOk C):EqtOk (C.memo M):=fun t ht=>by
 obtain ⟨h1,h2⟩:=h t ht
 refine ⟨h1,fun fs G w l m b xs ys hu hl hm hs hf=>h2 fs G w l m b xs ys hu hl hm hs ?_⟩
 rw[← y10 M,← y5k M]
 exact hf
theorem x0b {C:Cx}{M:Memo}(hC:CxOk C)(hgt:z1v C)(hM:MemoOk C M):CxOk (C.memo M) where
 eqt:=hC.eqt.memo M
 hk:=fun g f h args S r S' hr=>by
  simp only[Cx.memo]at h
  split at h
  ·cases h
   exact (y63 hgt hM hr).1
  ·exact hC.hk g f h args S r S' hr
 codes:=hC.codes
 nat:=hC.nat
 mixed:=hC.mixed
 names:=hC.names
theorem x21 {C:Cx}{M:Memo}(hw:HkW C)(hgt:z1v C)(hM:MemoOk C M):HkW (C.memo M):=by
 intro g f h args S r S' hr
 simp only[Cx.memo]at h
 split at h
 ·cases h
  obtain ⟨_,rfl⟩:=y63 hgt hM hr
  exact Wl.refl _
 ·exact hw g f h args S r S' hr

theorem z1t {C:Cx}(hC:CxOk C)(hw:HkW C){n:Nat}{g:FuncId}{args:List AV}{r:CR}(h:(z3y C n).call g args St.nil=some (r,St.nil)):CallOk C g args St.nil r St.nil :=
 ((z4y hC hw n).call _ _ _ _ _ ((y3f n).call _ _ _ _ h)).2
end Go.Ev
