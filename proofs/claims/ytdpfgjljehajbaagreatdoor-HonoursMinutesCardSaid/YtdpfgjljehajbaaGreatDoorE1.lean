/- An evaluator of the model, part 1: values, operations and their soundness. -/
import Derived.CallsIn
import Derived.OrdersIn
import Derived.RangeFuncIn
import Derived.Below
import Derived.Deep.AppendSrc
import Derived.Laws.Strings
import Derived.WalkKit
import Derived.MapKept
import Derived.Laws.BytesArg
import Derived.Lib.Builder
set_option linter.unusedVariables false
set_option linter.unusedSimpArgs false
namespace Go.Ev

inductive Tok where
 | none | zero | own (k:Nat)
 deriving DecidableEq
inductive RV where
 | nilIface | nilFunc | nilPtr | nilMap | glob (g:Nat)
 deriving DecidableEq
def RV.val:RV→Value
 | .nilIface=>.nilIface
 | .nilFunc=>.nilFunc
 | .nilPtr=>.pointer none
 | .nilMap=>.map none
 | .glob g=>.pointer (some ⟨g,0,none⟩)

inductive AV where
 | bad
 | int (k:IntKind) (n:Int)
 | bool (b:Bool)
 | str (s:List UInt8)
 | raw (r:RV)
 | agg (l:List AV)
 | tup (l:List AV)
 | vs (l:List AV) (n:Nat) (t:Tok)
 | vp (l:List AV)
 | ptr (h off:Nat)
 | row (h off n c:Nat)
 | mp (h:Nat)
 | fn (f:Fn) (a b:List AV)
 | ifc (t:TypeId) (v:AV)
instance:Inhabited AV:=⟨.bad⟩

mutual
def AV.eqb:AV→AV→Bool
 | .bad,.bad=>true
 | .int k n,.int k' n'=>k == k' && n == n'
 | .bool b,.bool b'=>b == b'
 | .str s,.str s'=>s == s'
 | .raw r,.raw r'=>r == r'
 | .agg l,.agg l'=>AV.eqbL l l'
 | .tup l,.tup l'=>AV.eqbL l l'
 | .vs l n t,.vs l' n' t'=>AV.eqbL l l' && n == n' && t == t'
 | .vp l,.vp l'=>AV.eqbL l l'
 | .ptr h o,.ptr h' o'=>h == h' && o == o'
 | .row h o n c,.row h' o' n' c'=>h == h' && o == o' && n == n' && c == c'
 | .mp h,.mp h'=>h == h'
 | .fn f a b,.fn f' a' b'=>f == f' && AV.eqbL a a' && AV.eqbL b b'
 | .ifc t v,.ifc t' v'=>t == t' && AV.eqb v v'
 | _,_=>false
def AV.eqbL:List AV→List AV→Bool
 | [],[]=>true
 | a::l,a'::l'=>AV.eqb a a' && AV.eqbL l l'
 | _,_=>false
end
mutual
theorem AV.eqb_eq:∀ a b:AV,AV.eqb a b=true→a=b
 | .bad,b=>by cases b<;>simp[AV.eqb]
 | .int k n,b=>by cases b<;>simp[AV.eqb]<;>(intro h1 h2;exact ⟨h1,h2⟩)
 | .bool x,b=>by cases b<;>simp[AV.eqb]
 | .str x,b=>by cases b<;>simp[AV.eqb]
 | .raw x,b=>by cases b<;>simp[AV.eqb]
 | .agg l,b=>by cases b<;>simp[AV.eqb];exact AV.eqbL_eq l _
 | .tup l,b=>by cases b<;>simp[AV.eqb];exact AV.eqbL_eq l _
 | .vs l n t,b=>by cases b<;>simp[AV.eqb];intro h1 h2 h3;exact ⟨AV.eqbL_eq l _ h1,h2,h3⟩
 | .vp l,b=>by cases b<;>simp[AV.eqb];exact AV.eqbL_eq l _
 | .ptr h o,b=>by cases b<;>simp[AV.eqb]<;>(intro h1 h2;exact ⟨h1,h2⟩)
 | .row h o n c,b=>by cases b<;>simp[AV.eqb];intro h1 h2 h3 h4;exact ⟨h1,h2,h3,h4⟩
 | .mp h,b=>by cases b<;>simp[AV.eqb]
 | .fn f x y,b=>by cases b<;>simp[AV.eqb];intro h1 h2 h3;exact ⟨h1,AV.eqbL_eq x _ h2,AV.eqbL_eq y _ h3⟩
 | .ifc t v,b=>by cases b<;>simp[AV.eqb];intro h1 h2;exact ⟨h1,AV.eqb_eq v _ h2⟩
theorem AV.eqbL_eq:∀ a b:List AV,AV.eqbL a b=true→a=b
 | [],b=>by cases b<;>simp[AV.eqbL]
 | a::l,b=>by cases b<;>simp[AV.eqbL];intro h1 h2;exact ⟨AV.eqb_eq a _ h1,AV.eqbL_eq l _ h2⟩
end
mutual
theorem AV.eqb_refl:∀ a:AV,AV.eqb a a=true
 | .bad=>by simp[AV.eqb]
 | .int k n=>by simp[AV.eqb]
 | .bool x=>by simp[AV.eqb]
 | .str x=>by simp[AV.eqb]
 | .raw x=>by simp[AV.eqb]
 | .agg l=>by simp[AV.eqb,AV.eqbL_refl l]
 | .tup l=>by simp[AV.eqb,AV.eqbL_refl l]
 | .vs l n t=>by simp[AV.eqb,AV.eqbL_refl l]
 | .vp l=>by simp[AV.eqb,AV.eqbL_refl l]
 | .ptr h o=>by simp[AV.eqb]
 | .row h o n c=>by simp[AV.eqb]
 | .mp h=>by simp[AV.eqb]
 | .fn f x y=>by simp[AV.eqb,AV.eqbL_refl x,AV.eqbL_refl y]
 | .ifc t v=>by simp[AV.eqb,AV.eqb_refl v]
theorem AV.eqbL_refl:∀ a:List AV,AV.eqbL a a=true
 | []=>by simp[AV.eqbL]
 | a::l=>by simp[AV.eqbL,AV.eqb_refl a,AV.eqbL_refl l]
end
instance:DecidableEq AV:=fun a b =>
 if h:AV.eqb a b=true then .isTrue (AV.eqb_eq a b h) else .isFalse fun e=>h (e ▸ AV.eqb_refl a)

inductive HB where
 | cells (l:List AV) (t:TypeId)
 | map (es:List (AV×AV))
 | iter (s:List UInt8) (pos:Nat)
 deriving DecidableEq

structure St where
 hs:List (Option HB)
 ts:List (Nat×(Nat×Nat))
 wl:List Nat:=[]
 deriving DecidableEq

inductive EX where
 | normal | exit (id:Nat) | ret | pan (v:AV)
inductive CR where
 | ret (v:AV) | pan (v:AV)

structure Cx where
 P:Program
 gt:Nat→Option (List AV)
 hk:FuncId→Option (List AV→St→Option (CR×St))
 eqt:TypeId→Bool
 nat:FuncId→List AV→Option AV

def AV.ofVal:Value→AV
 | .int k n=>.int k n
 | .bool b=>.bool b
 | .string s=>.str s.data.toList
 | .slice none 0 0=>.vs [] 0 .zero
 | .nilIface=>.raw .nilIface
 | .nilFunc=>.raw .nilFunc
 | .pointer none=>.raw .nilPtr
 | .map none=>.raw .nilMap
 | _=>.bad

def AV.one:AV→Bool
 | .agg _ | .tup _ | .bad=>false
 | _=>true

def AV.cells:AV→List AV
 | .agg l=>l
 | a=>[a]

def AV.nat?:AV→Option Nat
 | .int _ n=>if 0≤n then some n.toNat else none
 | _=>none

abbrev Env:=List AV

def z1l (C:Cx)(a:Env):Operand→AV
 | .tmp t=>a.getD t .bad
 | .const v=>AV.ofVal v
 | .global g=>match C.gt g with | some l=>.vp l | none=>.raw (.glob g)
 | .func f=>.fn (.func f) [] []

section ops
variable (C:Cx)

def z4p (t:TypeId):Option (List AV) :=
 match C.P.info? t with
 | some i=>match i.zero with
  | some v=>if v.cells.size=i.size then some (v.cells.toList.map AV.ofVal) else none
  | none=>none
 | none=>none
def z9o (t:TypeId):Option Bool :=
 match C.P.underlying t with
 | some (.struct _)=>some true
 | some (.array _ _)=>some true
 | some _=>some false
 | none=>none
def szT (t:TypeId):Option Nat:=(C.P.info? t).map (·.size)
def byT (t:TypeId):Option Nat:=(C.P.info? t).map (·.bytes)

def z4x (t:TypeId)(l:List AV)(off:Nat):Option AV :=
 match z9o C t,szT C t with
 | some true,some n=>if off+n≤l.length then some (.agg ((l.drop off).take n)) else none
 | some false,some _=>l[off]?
 | _,_=>none
def y2g (l:List AV)(off:Nat)(cs:List AV):List AV:=l.take off++(cs++l.drop (off+cs.length))
def y0l (t:TypeId)(l:List AV)(off:Nat)(v:AV):Option (List AV) :=
 match szT C t with
 | some n=>if v.cells.length=n∧off+n≤l.length∧v.cells.all AV.one=true then some (y2g l off v.cells) else none
 | none=>none

def z1e (S:St)(h:Nat):Option (List AV×TypeId) :=
 match S.hs[h]? with
 | some (some (.cells l t))=>some (l,t)
 | _=>none

def fieldAt (s:TypeId)(f:Nat):Option (TypeId×Nat) :=
 match C.P.underlying s with
 | some (.struct fs)=>match fs[f]? with
  | some fd=>match szT C fd.type with
   | some (_+1)=>some (fd.type,fd.offset)
   | _=>none
  | none=>none
 | _=>none

def z7x (place:Nat→Option (Nat×Nat))(cells:List AV):List (Nat×AV)→Option (List AV)
 | []=>some cells
 | (i,v)::rest =>
  match place i with
  | none=>none
  | some (off,size) =>
   if v.cells.length=size∧off+size≤cells.length∧v.cells.all AV.one=true then z7x place (y2g cells off v.cells) rest else none

def z5z (fs:Array Field)(i:Nat):Option (Nat×Nat) :=
 match fs[i]? with
 | some f=>match szT C f.type with
  | some n=>some (f.offset,n)
  | none=>none
 | none=>none

def y9f (t:TypeId)(parts:List (Nat×AV)):Option AV :=
 match z4p C t with
 | some z=>match C.P.underlying t with
  | some (.struct fs)=>if fs.all (fun f=>(szT C f.type).isSome) then (z7x (z5z C fs) z parts).map .agg else none
  | some (.array _ e)=>match szT C e with
   | some n=>(z7x (fun i=>some (i*n,n)) z parts).map .agg
   | none=>none
  | _=>none
 | none=>none

def z4k (S:St)(t:TypeId):AV→Option AV
 | .ptr h off=>match z1e S h with
  | some (l,_)=>z4x C t l off
  | none=>none
 | .vp l=>z4x C t l 0
 | _=>none

def z7b (t:TypeId)(x i:AV):Option AV :=
 match i.nat? with
 | some j=>match C.P.underlying t with
  | some (.array len e)=>match szT C e with
   | some n=>if j < len then match x with
    | .ptr h off=>some (.ptr h (off+j*n))
    | .vp l=>some (.vp (l.drop (j*n)))
    | _=>none
    else none
   | none=>none
  | some (.slice e)=>match szT C e with
   | some n=>match x with
    | .vs l m _=>if j < m∧m*n=l.length∧0 < n then some (.vp (l.drop (j*n))) else none
    | .row h off m _=>if j < m then some (.ptr h (off+j*n)) else none
    | _=>none
   | none=>none
  | _=>none
 | none=>none

def y2q (t:TypeId)(x i:AV):Option AV :=
 match i.nat? with
 | some j=>match C.P.underlying t with
  | some (.array len e)=>match szT C e with
   | some n=>match x with
    | .agg l=>if j < len then z4x C e l (j*n) else none
    | _=>none
   | none=>none
  | some .string=>match x with
   | .str s=>match s[j]? with
    | some b=>some (.int .u8 b.toNat)
    | none=>none
   | _=>none
  | _=>none
 | none=>none

def z3e (d:Nat):Option AV→Option Nat
 | none=>some d
 | some a=>a.nat?

def z6u (t:TypeId)(x:AV)(lo hi mx:Option AV):Option AV :=
 match C.P.underlying t with
 | some .string=>match x with
  | .str s=>match mx with
   | some _=>none
   | none=>match z3e 0 lo,z3e s.length hi with
    | some l,some h=>if l≤h∧h≤s.length then some (.str ((s.drop l).take (h-l))) else none
    | _,_=>none
  | _=>none
 | some (.slice e)=>match szT C e with
  | some z=>match x with
   | .vs cs n tk=>match z3e 0 lo,z3e n hi with
    | some l,some h=>match mx with
     | none=>if l≤h∧h≤n then some (.vs ((cs.drop (l*z)).take ((h-l)*z)) (h-l) (if l=0∧h=n then tk else .none)) else none
     | some m=>match m.nat?,hi with
      | some m,some _=>if l≤h∧h≤m∧m≤n then some (.vs ((cs.drop (l*z)).take ((h-l)*z)) (h-l) (if l=m then .zero else .none)) else none
      | _,_=>none
    | _,_=>none
   | .row hh off n c=>match mx with
    | none=>match z3e 0 lo,z3e n hi with
     | some l,some h=>if l≤h∧h≤c then some (.row hh (if c=l then off else off+l*z) (h-l) (c-l)) else none
     | _,_=>none
    | some _=>none
   | _=>none
  | none=>none
 | some (.array n e)=>match szT C e with
  | some z=>match x with
   | .ptr hh off=>match mx with
    | none=>match z3e 0 lo,z3e n hi with
     | some l,some h=>if l≤h∧h≤n then some (.row hh (if n=l then off else off+l*z) (h-l) (n-l)) else none
     | _,_=>none
    | some _=>none
   | _=>none
  | none=>none
 | _=>none

def y0r:Sem Value→Option AV
 | .pure (.int k n)=>some (.int k n)
 | .pure (.bool b)=>some (.bool b)
 | _=>none

def z2y:AV→AV→Option Bool
 | .int k a,.int k' b=>if k=k' then some (a == b) else none
 | .bool a,.bool b=>some (a == b)
 | .str a,.str b=>some (a == b)
 | _,_=>none
def y8r:Option TypeDesc→AV→AV→Option Bool
 | some (.int _),.int k a,.int k' b=>if k=k' then some (a == b) else none
 | some .bool,.bool a,.bool b=>some (a == b)
 | some .string,.str a,.str b=>some (a == b)
 | _,_,_=>none
def z07:List Field→List AV→List AV→Option Bool
 | [],[],[]=>some true
 | f::fs,a::l,b::m=>match y8r (C.P.underlying f.type) a b,z07 fs l m with
  | some x,some y=>some (x && y)
  | _,_=>none
 | _,_,_=>none
def z3g:List Field→List Field
 | []=>[]
 | f::fs=>(match C.P.underlying f.type with
  | some (.struct gs)=>gs.toList
  | _=>[f])++z3g fs
def eqA (t:TypeId)(cst:Bool)(x y:AV):Option Bool :=
 match C.P.underlying t with
 | some .bool=>match x,y with | .bool a,.bool b=>some (a == b) | _,_=>none
 | some (.struct fs)=>match x,y with | .agg a,.agg b=>if C.eqt t=true∧szT C t=some a.length then z07 C (z3g C fs.toList) a b else none | _,_=>none
 | some (.pointer e)=>match x,y with
  | .ptr h o,.ptr h' o'=>match szT C e with
   | some (_+1)=>if h=h' then some (o == o') else none
   | _=>none
  | .ptr _ _,.raw .nilPtr=>some false
  | .raw .nilPtr,.ptr _ _=>some false
  | .raw .nilPtr,.raw .nilPtr=>some true
  | _,_=>none
 | some (.interface _)=>match x,y with
  | .ifc _ _,.raw .nilIface=>some false
  | .raw .nilIface,.ifc _ _=>some false
  | .raw .nilIface,.raw .nilIface=>if cst then some true else none
  | _,_=>none
 | some (.func _ _ _)=>match x,y with
  | .fn _ _ _,.raw .nilFunc=>some false
  | .raw .nilFunc,.raw .nilFunc=>some true
  | _,_=>none
 | _=>none

def z6f:Operand→Bool
 | .const _=>true
 | _=>false

def y6m (op:BinOp)(t:TypeId)(k:IntKind)(a b:Int):Option AV :=
 match op with
 | .add=>some (.int k (k.wrap (a+b)))
 | .sub=>some (.int k (k.wrap (a-b)))
 | .mul=>some (.int k (k.wrap (a*b)))
 | .eql=>some (.bool (a == b))
 | .neq=>some (.bool (a != b))
 | .lss=>some (.bool (decide (a < b)))
 | .leq=>some (.bool (decide (a≤b)))
 | .gtr=>some (.bool (decide (a > b)))
 | .geq=>some (.bool (decide (a≥b)))
 | op=>y0r (Go.binOp op t (.int k a) (.int k b))

def y28 (op:BinOp)(a b:List UInt8):Option AV :=
 match op with
 | .add=>if a.length+b.length≤9223372036854775807 then some (.str (a++b)) else none
 | .eql=>some (.bool (a == b))
 | .neq=>some (.bool (!(a == b)))
 | .lss=>some (.bool (Op.bytesLess a b))
 | .leq=>some (.bool (Op.bytesLess a b || a == b))
 | .gtr=>some (.bool (!(Op.bytesLess a b || a == b)))
 | .geq=>some (.bool (!(Op.bytesLess a b)))
 | _=>none

def y4y (op:BinOp)(t:TypeId)(cst:Bool)(x y:AV):Option AV :=
 match x,y with
 | .int k a,.int k' b=>if k=k' then y6m op t k a b else
   match op with
   | .shl=>y0r (Go.binOp .shl t (.int k a) (.int k' b))
   | .shr=>y0r (Go.binOp .shr t (.int k a) (.int k' b))
   | _=>none
 | .str a,.str b=>y28 op a b
 | x,y=>match op with
  | .eql=>(eqA C t cst x y).map .bool
  | .neq=>(eqA C t cst x y).map fun b=>.bool (!b)
  | _=>none

def unA (op:UnOp)(x:AV):Option AV :=
 match op,x with
 | .not,.bool b=>some (.bool (!b))
 | .neg,.int k n=>some (.int k (k.wrap (0-n)))
 | .xor,.int k n=>y0r (Op.unary .xor (.int k n))
 | _,_=>none

def y0z:List AV→Option (List UInt8)
 | []=>some []
 | .int .u8 n::l=>match y0z l with | some r=>some (UInt8.ofNat n.toNat::r) | none=>none
 | _=>none

def y1n (S:St)(src dst:TypeId)(x:AV):Option AV :=
 match C.P.underlying src with
 | some (.int _)=>match C.P.underlying dst with
  | some (.int k)=>match x with
   | .int _ n=>some (.int k (k.wrap n))
   | _=>none
  | _=>none
 | some .string=>match C.P.underlying dst with
  | some .string=>match x with
   | .str s=>some (.str s)
   | _=>none
  | _=>none
 | some (.slice e)=>match C.P.underlying dst with
  | some .string=>match C.P.underlying e with
   | some (.int .u8)=>match x with
    | .vs l n _=>if l.length=n then (y0z l).map .str else none
    | .row h off n _=>match z1e S h with
     | some (l,_)=>if off+n≤l.length then (y0z ((l.drop off).take n)).map .str else none
     | none=>none
    | _=>none
   | _=>none
  | _=>none
 | some (.pointer t)=>match C.P.underlying dst with
  | some .unsafePointer=>match x with
   | .ptr h off=>match z1e S h,szT C t with
    | some (l,_),some (_+1)=>if off < l.length then some (.ptr h off) else none
    | _,_=>none
   | _=>none
  | _=>none
 | some .unsafePointer=>match C.P.underlying dst with
  | some (.pointer u)=>match x with
   | .ptr h off=>match z1e S h,szT C u with
    | some (l,bt),some _=>if liesAt C.P C.P.depth bt (l.length / C.P.cellsOf bt) off u 1=true then some (.ptr h off) else none
    | _,_=>none
   | _=>none
  | _=>none
 | _=>none

def x04 (S:St)(t:TypeId)(x:AV):Option AV :=
 match C.P.underlying t with
 | some .string=>match x with | .str s=>some (.int .i64 s.length) | _=>none
 | some (.array n _)=>some (.int .i64 n)
 | some (.slice _)=>match x with | .vs _ n _=>some (.int .i64 n) | .row _ _ n _=>some (.int .i64 n) | _=>none
 | some (.map _ _)=>match x with
  | .mp h=>match S.hs[h]? with | some (some (.map es))=>some (.int .i64 es.length) | _=>none
  | _=>none
 | _=>none

def x4x (t:TypeId)(x:AV):Option AV :=
 match C.P.underlying t with
 | some (.slice _)=>match x with
  | .vs _ _ .zero=>some (.int .i64 0)
  | .row _ _ _ c=>some (.int .i64 c)
  | _=>none
 | _=>none

def x4h:List AV→Option AV
 | [.int k a,.int k' b]=>if k=k' then some (.int k (if b > a then b else a)) else none
 | _=>none
def x4g:List AV→Option AV
 | [.int k a,.int k' b]=>if k=k' then some (.int k (if b < a then b else a)) else none
 | _=>none

def y62:AV→Option AV
 | .ptr h o=>some (.ptr h o)
 | .vp l=>some (.vp l)
 | .fn (.func f) a b=>some (.fn (.func f) a b)
 | .ifc t v=>some (.ifc t v)
 | _=>none

def z94 (asserted:TypeId)(ok:Bool)(x:AV):Option AV :=
 match C.P.underlying asserted with
 | some (.interface _)=>none
 | none=>none
 | some _=>match x with
  | .ifc t v=>if t=asserted then some (if ok then .tup [v,.bool true] else v) else none
  | _=>none

def z4t (k:AV):List (AV×AV)→Option AV
 | []=>none
 | (k',v)::es=>if z2y k k'=some true then some v else z4t k es
def z08 (k v:AV):List (AV×AV)→List (AV×AV)
 | []=>[(k,v)]
 | (k',v')::es=>if z2y k k'=some true then (k,v)::es else (k',v')::z08 k v es
def z14 (d:TypeDesc)(k:AV):Bool :=
 match d,k with
 | .int _,.int _ _=>true
 | .string,.str _=>true
 | .bool,.bool _=>true
 | _,_=>false
def z09:AV→AV→Bool
 | .int k _,.int k' _=>k == k'
 | .str _,.str _=>true
 | .bool _,.bool _=>true
 | _,_=>false
def zeroV (t:TypeId):Option AV :=
 match C.P.info? t with
 | some i=>match i.zero with
  | some (.agg cs)=>some (.agg (cs.toList.map AV.ofVal))
  | some v=>some (AV.ofVal v)
  | none=>none
 | none=>none

def z8v (S:St)(t:TypeId)(m k:AV)(ok:Bool):Option AV :=
 match C.P.underlying t with
 | some (.map kt e)=>match m with
  | .mp h=>match S.hs[h]?,C.P.underlying kt with
   | some (some (.map es)),some kd=>if z14 kd k=true∧es.all (fun x=>z09 k x.1)=true then
     match z4t k es with
     | some v=>some (if ok then .tup [v,.bool true] else v)
     | none=>match zeroV C e with
      | some z=>some (if ok then .tup [z,.bool false] else z)
      | none=>none
    else none
   | _,_=>none
  | _=>none
 | _=>none

def z01 (S:St)(ev:Operand→AV):Op→Option AV
 | .move x=>some (ev x)
 | .assign x=>some (ev x)
 | .pick c a b=>match ev c with
  | .bool t=>some (if t then ev a else ev b)
  | _=>none
 | .build t parts=>y9f C t (parts.toList.map fun p=>(p.1,ev p.2))
 | .load t a=>z4k C S t (ev a)
 | .nilCheck x=>y62 (ev x)
 | .binOp op t x y _=>y4y C op t (z6f x || z6f y) (ev x) (ev y)
 | .unOp op _ x=>unA op (ev x)
 | .convert src dst x=>y1n C S src dst (ev x)
 | .makeInterface t x=>match C.P.underlying t with
  | some (.interface _)=>none
  | some _=>some (.ifc t (ev x))
  | none=>none
 | .makeFunc f a b=>some (.fn f (a.toList.map ev) (b.toList.map ev))
 | .slice t x lo hi mx=>z6u C t (ev x) (lo.map ev) (hi.map ev) (mx.map ev)
 | .fieldAddr s x f=>match fieldAt C s f with
  | some (_,off)=>match ev x with
   | .ptr h o=>some (.ptr h (o+off))
   | .vp l=>some (.vp (l.drop off))
   | _=>none
  | none=>none
 | .field s x f=>match fieldAt C s f with
  | some (ft,off)=>match ev x with
   | .agg l=>z4x C ft l off
   | _=>none
  | none=>none
 | .indexAddr t x i=>z7b C t (ev x) (ev i)
 | .index t x i=>y2q C t (ev x) (ev i)
 | .lookup t m k ok=>z8v C S t (ev m) (ev k) ok
 | .typeAssert x _ a ok=>z94 C a ok (ev x)
 | .extract t i=>match ev t with
  | .tup l=>l[i]?
  | _=>none
 | .call c=>match c.callee with
  | .builtin .len=>match c.args.toList,c.argTypes.toList with
   | [x],[t]=>x04 C S t (ev x)
   | _,_=>none
  | .builtin .cap=>match c.args.toList,c.argTypes.toList with
   | [x],[t]=>x4x C t (ev x)
   | _,_=>none
  | .builtin .max=>x4h (c.args.toList.map ev)
  | .builtin .min=>x4g (c.args.toList.map ev)
  | _=>none
 | _=>none

def St.push (S:St)(b:HB):St:={ S with hs:=S.hs++[some b] }
def St.put (S:St)(h:Nat)(b:HB):St:={ S with hs:=S.hs.set h (some b),wl:=if S.wl.contains h=true then S.wl else h::S.wl }

def z3u (z:List AV)(n:Nat):List AV:=(List.range (n*z.length)).map fun i=>z.getD (i % z.length) .bad

def z7r (S:St)(sz:Nat):AV→Option (Nat×List AV)
 | .vs l n _=>if l.length=n*sz then some (n,l) else none
 | .row h off n _=>match z1e S h with
  | some (l,_)=>if off+n*sz≤l.length then some (n,(l.drop off).take (n*sz)) else none
  | none=>none
 | _=>none

def z9a (S:St)(sz:Nat)(tx:TypeId)(x:AV):Option (Nat×List AV) :=
 match C.P.underlying tx with
 | some (.slice _)=>z7r S sz x
 | some .string=>match x with
  | .str b=>if sz=1 then some (b.length,b.map fun c=>.int .u8 c.toNat) else none
  | _=>none
 | _=>none

def z2e (S:St)(t tx:TypeId)(s x:AV):Option (AV×St) :=
 match C.P.underlying t with
 | some (.slice e)=>match szT C e,byT C e,z4p C e with
  | some sz,some by',some _ =>
   match z9a C S sz tx x,s with
   | some (d,news),.vs l n tk =>
    if news.all AV.one=true∧(n+d)*by'≤140737488355328∧n+d≤140737488355328∧l.length=n*sz∧0 < sz then
     if d=0 then some (.vs l n tk,S) else
     match tk with
     | .zero=>if n=0 then some (.vs news d (.own S.ts.length),{ S with ts:=S.ts++[(d,(sz,e))] }) else none
     | .own k=>if S.ts[k]?=some (n,(sz,e)) then some (.vs (l++news) (n+d) (.own k),{ S with ts:=S.ts.set k (n+d,(sz,e)) }) else none
     | .none=>none
    else none
   | _,_=>none
  | _,_,_=>none
 | _=>none

def z6k (t:TypeId)(len:Nat)(parts:List (Nat×AV)):Option (List AV×(Nat×Nat)) :=
 match C.P.underlying t with
 | some (.slice e)=>match szT C e,z4p C e with
  | some sz,some z=>if len*sz≤16777216∧0 < sz then (z7x (fun i=>some (i*sz,sz)) (z3u z len) parts).map fun l=>(l,(sz,e)) else none
  | _,_=>none
 | _=>none

def stOp (S:St)(ev:Operand→AV):Op→Option (AV×St)
 | .alloc t=>match z4p C t with
  | some z=>some (.ptr S.hs.length 0,S.push (.cells z t))
  | none=>none
 | .box t x=>if (ev x).cells.all AV.one=true then some (.ptr S.hs.length 0,S.push (.cells (ev x).cells t)) else none
 | .store t a x=>match ev a with
  | .ptr h off=>match z1e S h with
   | some (l,bt)=>match y0l C t l off (ev x) with
    | some l'=>some (.bad,S.put h (.cells l' bt))
    | none=>none
   | none=>none
  | _=>none
 | .buildSlice t len parts=>match z6k C t len (parts.toList.map fun p=>(p.1,ev p.2)) with
  | some (l,sz)=>some (.vs l len (.own S.ts.length),{ S with ts:=S.ts++[(len,sz)] })
  | none=>none
 | .makeSlice t n c=>match C.P.underlying t with
  | some (.slice e)=>match szT C e,byT C e,z4p C e,(ev n),(ev c) with
   | some (sz+1),some by',some z,.int .i64 n,.int .i64 c =>
    if 0≤n∧n≤c∧c*by'≤140737488355328∧c≤140737488355328 then
     some (.row S.hs.length 0 n.toNat c.toNat,S.push (.cells (z3u z c.toNat) e)) else none
   | _,_,_,_,_=>none
  | _=>none
 | .makeMap _ r=>match r with
  | none=>some (.mp S.hs.length,S.push (.map []))
  | some _=>none
 | .insert t m k v=>match C.P.underlying t with
  | some (.map kt _)=>match ev m with
   | .mp h=>match S.hs[h]?,C.P.underlying kt with
    | some (some (.map es)),some kd=>if z14 kd (ev k)=true∧es.all (fun x=>z09 (ev k) x.1)=true then
      some (.bad,S.put h (.map (z08 (ev k) (ev v) es))) else none
    | _,_=>none
   | _=>none
  | _=>none
 | .mapUpdate t m k v=>match C.P.underlying t with
  | some (.map kt _)=>match ev m with
   | .mp h=>match S.hs[h]?,C.P.underlying kt with
    | some (some (.map es)),some kd=>if z14 kd (ev k)=true∧es.all (fun x=>z09 (ev k) x.1)=true then
      some (.bad,S.put h (.map (z08 (ev k) (ev v) es))) else none
    | _,_=>none
   | _=>none
  | _=>none
 | .range t x=>match C.P.underlying t with
  | some .string=>match ev x with
   | .str s=>some (.ptr S.hs.length 0,S.push (.iter s 0))
   | _=>none
  | _=>none
 | .next it isStr=>match ev it with
  | .ptr h 0=>match S.hs[h]? with
   | some (some (.iter s pos))=>if isStr then
     if pos < s.length then
      let cw:=Utf8.decode ⟨s.toArray⟩ pos
      some (.tup [.bool true,.int .i64 pos,.int .i32 cw.1],S.put h (.iter s (pos+cw.2)))
     else some (.tup [.bool false],S)
    else none
   | _=>none
  | _=>none
 | .convert src dst x=>match C.P.underlying src,C.P.underlying dst with
  | some .string,some (.slice e)=>match C.P.underlying e with
   | some (.int .u8)=>match ev x with
    | .str s=>some (.vs (s.map fun b=>.int .u8 b.toNat) s.length .none,S)
    | _=>none
   | _=>none
  | _,_=>none
 | .call c=>match c.callee with
  | .builtin .append=>match c.args.toList,c.argTypes.toList with
   | [s,x],[t,tx]=>z2e C S t tx (ev s) (ev x)
   | _,_=>none
  | _=>none
 | _=>none
end ops

mutual
def noH (b:Nat):AV→Bool
 | .agg l=>noHL b l
 | .tup l=>noHL b l
 | .vs l _ _=>noHL b l
 | .vp l=>noHL b l
 | .ptr h _=>decide (h < b)
 | .row h _ _ _=>decide (h < b)
 | .mp h=>decide (h < b)
 | .fn _ x y=>noHL b x && noHL b y
 | .ifc _ v=>noH b v
 | _=>true
def noHL (b:Nat):List AV→Bool
 | []=>true
 | a::l=>noH b a && noHL b l
end
def Tok.scrub (tb:Nat):Tok→Tok
 | .own k=>if k < tb then .own k else .none
 | t=>t
mutual
def scrub (tb:Nat):AV→AV
 | .agg l=>.agg (z0e tb l)
 | .tup l=>.tup (z0e tb l)
 | .vs l n t=>.vs (z0e tb l) n (t.scrub tb)
 | .vp l=>.vp (z0e tb l)
 | .fn f x y=>.fn f (z0e tb x) (z0e tb y)
 | .ifc t v=>.ifc t (scrub tb v)
 | a=>a
def z0e (tb:Nat):List AV→List AV
 | []=>[]
 | a::l=>scrub tb a::z0e tb l
end
mutual
def pub (C:Cx)(hs:List (Option HB))(b:Nat):AV→Option AV
 | .agg l=>(z97 C hs b l).map .agg
 | .tup l=>(z97 C hs b l).map .tup
 | .row h off n c =>
  if h < b then some (.row h off n c) else
  match hs[h]? with
  | some (some (.cells l e))=>match szT C e with
   | some sz=>if off+n*sz≤l.length∧n≤c∧0 < sz then
     (if noHL b ((l.drop off).take (n*sz))=true then some (.vs ((l.drop off).take (n*sz)) n .none) else none) else none
   | none=>none
  | _=>none
 | a=>if noH b a then some a else none
def z97 (C:Cx)(hs:List (Option HB))(b:Nat):List AV→Option (List AV)
 | []=>some []
 | a::l=>match pub C hs b a,z97 C hs b l with
  | some a',some l'=>some (a'::l')
  | _,_=>none
end
def noHB (n:Nat):HB→Bool
 | .cells l _=>noHL n l
 | .map es=>es.all fun e=>noH n e.1 && noH n e.2
 | .iter _ _=>true
def z0n (tb:Nat):HB→HB
 | .cells l t=>.cells (z0e tb l) t
 | .map es=>.map (es.map fun e=>(scrub tb e.1,scrub tb e.2))
 | .iter s p=>.iter s p
def x3t (b:Nat)(hs:List (Option HB))(ws:List Nat):Bool:=ws.all fun h=>match hs[h]? with | some (some x)=>noHB b x | _=>true
def z3m (tb:Nat):List Nat→List (Option HB)→List (Option HB)
 | [],hs=>hs
 | h::ws,hs=>z3m tb ws (match hs[h]? with | some (some x)=>hs.set h (some (z0n tb x)) | _=>hs)
def z2i:List Nat→List Nat→List Nat
 | [],l=>l
 | h::ws,l=>z2i ws (if l.contains h=true then l else h::l)
mutual
def noT (tb:Nat):AV→Bool
 | .agg l=>z1y tb l
 | .tup l=>z1y tb l
 | .vs l _ t=>(match t with | .own k=>decide (k < tb) | _=>true) && z1y tb l
 | .vp l=>z1y tb l
 | .fn _ x y=>z1y tb x && z1y tb y
 | .ifc _ v=>noT tb v
 | _=>true
def z1y (tb:Nat):List AV→Bool
 | []=>true
 | a::l=>noT tb a && z1y tb l
end
def y1a (tb:Nat):HB→Bool
 | .cells l _=>z1y tb l
 | .map es=>es.all fun e=>noT tb e.1 && noT tb e.2
 | .iter _ _=>true
def x49 (tb:Nat)(hs:List (Option HB))(ws:List Nat):Bool:=ws.all fun h=>match hs[h]? with | some (some x)=>y1a tb x | _=>true
def z8p (S0 S':St):Nat:=if x49 S0.ts.length S'.hs (S'.wl.filter fun h=>decide (h < S0.hs.length))=true then S0.ts.length else S'.ts.length
def finish (C:Cx)(S0 S':St)(r:AV):AV×St :=
 match pub C S'.hs S0.hs.length r with
 | some r' =>
  if x3t S0.hs.length S'.hs (S'.wl.filter fun h=>decide (h < S0.hs.length))=true then
   (scrub (z8p S0 S') r',{ hs:=(z3m (z8p S0 S') (S'.wl.filter fun h=>decide (h < S0.hs.length)) S'.hs).take S0.hs.length,ts:=S'.ts.take (z8p S0 S'),wl:=z2i (S'.wl.filter fun h=>decide (h < S0.hs.length)) S0.wl })
  else (r,{ S' with wl:=z2i S'.wl S0.wl })
 | none=>(r,{ S' with wl:=z2i S'.wl S0.wl })

structure Self where
 call:FuncId→List AV→St→Option (CR×St)
 loop:Code→Env→St→Option (EX×Env×St)

def z1u (env:Env)(dst:Option Tmp)(v:AV):Env :=
 match dst with
 | some d=>env.set d v
 | none=>env

def y3p (C:Cx)(self:Self)(g:FuncId)(args:List AV)(S:St):Option (CR×St) :=
 match C.hk g with
 | some f=>f args S
 | none=>self.call g args S

def z7z (C:Cx)(self:Self)(g:FuncId)(args:List AV)(S:St):Option (CR×St) :=
 match C.nat g args with
 | some v=>some (.ret v,S)
 | none=>y3p C self g args S

def opA (C:Cx)(self:Self)(S:St)(ev:Operand→AV)(o:Op):Option (CR×St) :=
 match o with
 | .call c=>match c.callee with
  | .value f=>match ev f with
   | .fn (.func g) a b=>z7z C self g (a++c.args.toList.map ev++b) S
   | _=>none
  | _=>match z01 C S ev (.call c) with
   | some v=>some (.ret v,S)
   | none=>match stOp C S ev (.call c) with
    | some (v,S')=>some (.ret v,S')
    | none=>none
 | .panic x=>match ev x with
  | .ifc t v=>some (.pan (.ifc t v),S)
  | _=>none
 | o=>match z01 C S ev o with
  | some v=>some (.ret v,S)
  | none=>match stOp C S ev o with
   | some (v,S')=>some (.ret v,S')
   | none=>none

def z1o (ops:Array Oper)(env:Env)(o:Oper):Option Bool :=
 match o.guard with
 | none=>some true
 | some (j,want)=>match (ops[j]?).bind (·.dst) with
  | some d=>match env.getD d .bad with
   | .bool b=>if d < env.length then some (b == want) else none
   | .tup []=>if d < env.length then some false else none
   | _=>none
  | none=>none

def z2g (C:Cx)(self:Self)(ops:Array Oper):List Oper→Env→St→Option (EX×Env×St)
 | [],env,S=>some (.normal,env,S)
 | o::rest,env,S=>match z1o ops env o with
  | some true=>match opA C self S (z1l C env) o.op with
   | some (.ret v,S')=>z2g C self ops rest (z1u env o.dst v) S'
   | some (.pan v,S')=>some (.pan v,env,S')
   | none=>none
  | some false=>z2g C self ops rest (z1u env o.dst (.tup [])) S
  | none=>none

structure DN where
 lds:List (Nat×Nat)
 sts:List (Nat×Nat)

def z1w (ops:Array Oper)(j h:Nat)(l:List (Nat×Nat)):Bool:=l.all fun x=>x.2 != h || ((Region.before ops).getD j 0).testBit x.1
def y7p (h:Nat)(l:List (Nat×Nat)):Bool:=l.all fun x=>x.2 != h

def z1n (C:Cx)(self:Self)(ops:Array Oper)(S0 S:St)(D:DN)(j:Nat)(ev:Operand→AV)(o:Op):Option (AV×St×DN) :=
 match o with
 | .store t a x=>match ev a with
  | .ptr h off=>if z1w ops j h D.lds=true∧z1w ops j h D.sts=true then
    match stOp C S ev (.store t a x) with
    | some (v,S')=>some (v,S',{ D with sts:=(j,h)::D.sts })
    | none=>none
   else none
  | _=>none
 | .alloc t=>match stOp C S ev (.alloc t) with
  | some (v,S')=>some (v,S',{ D with sts:=(j,S.hs.length)::D.sts })
  | none=>none
 | .box t x=>match stOp C S ev (.box t x) with
  | some (v,S')=>some (v,S',{ D with sts:=(j,S.hs.length)::D.sts })
  | none=>none
 | .makeMap t r=>match stOp C S ev (.makeMap t r) with
  | some (v,S')=>some (v,S',{ D with sts:=(j,S.hs.length)::D.sts })
  | none=>none
 | .mapUpdate t m k x=>match ev m with
  | .mp h=>if z1w ops j h D.lds=true∧z1w ops j h D.sts=true then
    match stOp C S ev (.mapUpdate t m k x) with
    | some (v,S')=>some (v,S',{ D with sts:=(j,h)::D.sts })
    | none=>none
   else none
  | _=>none
 | .load t a=>match ev a with
  | .ptr h off=>if y7p h D.sts=true then match z4k C S0 t (.ptr h off) with
    | some v=>some (v,S,{ D with lds:=(j,h)::D.lds })
    | none=>none
   else none
  | x=>match z4k C S0 t x with
   | some v=>some (v,S,D)
   | none=>none
 | .buildSlice t len parts=>match z6k C t len (parts.toList.map fun p=>(p.1,ev p.2)) with
  | some (l,_)=>some (.vs l len (if len=0 then .zero else .none),S,D)
  | none=>none
 | .call c=>match c.callee with
  | .value f=>match ev f with
   | .fn (.func g) a b=>if noHL S0.hs.length (a++c.args.toList.map ev++b)=true then
     match z7z C self g (a++c.args.toList.map ev++b) S0 with
     | some (.ret v,S1)=>if S1=S0 then some (v,S,D) else none
     | _=>none
    else none
   | _=>none
  | .builtin .append=>match c.args.toList with
   | [_,x]=>match ev x with
    | .row _ _ _ _=>none
    | _=>match stOp C S ev (.call c) with
     | some (v,S')=>some (v,S',D)
     | none=>none
   | _=>none
  | _=>match z01 C S0 ev (.call c) with
   | some v=>some (v,S,D)
   | none=>none
 | o=>match z01 C S0 ev o with
  | some v=>some (v,S,D)
  | none=>none

def z5i (C:Cx)(l:List Tmp)(env:Env):Operand→AV
 | .tmp t=>if l.contains t then env.getD t .bad else .bad
 | x=>z1l C env x

def z11 (C:Cx)(self:Self)(ops:Array Oper)(S0:St):List Oper→Nat→Env→St→DN→Option (Env×St)
 | [],_,env,S,_=>some (env,S)
 | o::rest,j,env,S,D=>match z1o ops env o with
  | some true=>match z1n C self ops S0 S D j (z5i C (o.looksAt ops) env) o.op with
   | some (v,S',D')=>z11 C self ops S0 rest (j+1) (z1u env o.dst v) S' D'
   | none=>none
  | some false=>z11 C self ops S0 rest (j+1) (z1u env o.dst (.tup [])) S D
  | none=>none

def y3j (ops:Array Oper):Bool :=
 ((List.range (ops.size-1)).all fun i=>((Region.before ops).getD (ops.size-1) 0).testBit i) && match ops[ops.size-1]? with
  | some o=>match o.op with
   | .call c=>match c.callee with | .value _=>true | _=>false
   | _=>false
  | none=>false

def evC (C:Cx)(self:Self):Code→Env→St→Option (EX×Env×St)
 | .skip,env,S=>some (.normal,env,S)
 | .region _ ops false,env,S=>z2g C self ops ops.toList env S
 | .region _ ops true,env,S=>if y3j ops=true then
   match z11 C self ops S (ops.toList.take (ops.size-1)) 0 env S ⟨[],[]⟩ with
   | some (env',S')=>z2g C self ops (ops.toList.drop (ops.size-1)) env' S'
   | none=>none
  else match z11 C self ops S (ops.toList.take ops.size) 0 env S ⟨[],[]⟩ with
   | some (env',S')=>some (.normal,env',S')
   | none=>none
 | .seq a b,env,S=>match evC C self a env S with
  | some (.normal,env',S')=>evC C self b env' S'
  | r=>r
 | .cond c t e,env,S=>match z1l C env c with
  | .bool b=>if b then evC C self t env S else evC C self e env S
  | _=>none
 | .block id c,env,S=>match evC C self c env S with
  | some (.exit i,env',S')=>if i=id then some (.normal,env',S') else some (.exit i,env',S')
  | r=>r
 | .loop c,env,S=>self.loop c env S
 | .exit id,env,S=>some (.exit id,env,S)
 | .ret,env,S=>some (.ret,env,S)
 | _,_,_=>none

def z6d (C:Cx)(env:Env)(S:St):List ResultVar→Option (List AV)
 | []=>some []
 | .tmp t::l=>match z6d C env S l with
  | some r=>some (env.getD t .bad::r)
  | none=>none
 | .cell a t::l=>match env.getD a .bad with
  | .ptr h off=>match z4k C S t (.ptr h off),z6d C env S l with
   | some v,some r=>some (v::r)
   | _,_=>none
  | _=>none

def z0v (C:Cx)(fn:Func)(env:Env)(S:St):Option AV :=
 match z6d C env S fn.results.toList with
 | some [v]=>some v
 | some l=>some (.tup l)
 | none=>none

def y1p (C:Cx)(self:Self)(g:FuncId)(args:List AV)(S:St):Option (CR×St) :=
 match C.P.funcs[g]? with
 | some fn=>match fn.body with
  | some c=>match evC C self c (args++List.replicate (fn.ntmps-args.length) .bad) { S with wl:=[] } with
   | some (.normal,env,S')=>match z0v C fn env S' with
    | some r=>some (.ret (finish C S S' r).1,(finish C S S' r).2)
    | none=>none
   | some (.ret,env,S')=>match z0v C fn env S' with
    | some r=>some (.ret (finish C S S' r).1,(finish C S S' r).2)
    | none=>none
   | some (.pan v,_,S')=>some (.pan (finish C S S' v).1,(finish C S S' v).2)
   | _=>none
  | none=>none
 | none=>none

def y1c (C:Cx)(self:Self)(c:Code)(env:Env)(S:St):Option (EX×Env×St) :=
 match evC C self c env S with
 | some (.normal,env',S')=>self.loop c env' S'
 | r=>r

def lev (C:Cx):Nat→Self
 | 0=>{ call:=fun _ _ _=>none,loop:=fun _ _ _=>none }
 | n+1=>{ call:=y1p C (lev C n),loop:=y1c C (lev C n) }

def z3t:Op→Bool
 | .store ..=>true
 | .mapUpdate ..=>true
 | _=>false
def isApp:Op→Bool
 | .call c=>match c.callee with | .builtin .append=>true | _=>false
 | _=>false
def z4a:Op→Bool
 | .call c=>match c.callee with | .builtin .append=>false | _=>true
 | .convert ..=>true
 | .lookup ..=>true
 | _=>false
def z0p (ops:Array Oper)(i j:Nat):Bool:=((Region.before ops).getD j 0).testBit i
def z6z (ops:Array Oper)(i j:Nat)(oi oj:Oper):Bool :=
 -- i < j
 (match oi.dst with | some d=>oj.dst != some d && (!(oj.looksAt ops).contains d || z0p ops i j) | none=>true) &&
 (match oj.dst with | some d=>!(oi.looksAt ops).contains d || z0p ops i j | none=>true) &&
 (if z3t oj.op || isApp oj.op then !z4a oi.op || z0p ops i j else true) &&
 (if z3t oi.op || isApp oi.op then !z4a oj.op else true) &&
 (if isApp oi.op then !isApp oj.op || z0p ops i j else true)
def z1s (ops:Array Oper):Bool :=
 ((List.range ops.size).all fun j=>(List.range j).all fun i=>match ops[i]?,ops[j]? with | some oi,some oj=>z6z ops i j oi oj | _,_=>true) &&
 ((List.range ops.size).all fun j=>match ops[j]? with | some o=>o.after.toList.all fun e=>!Region.binds .any e || decide (e.on < j) | none=>true)
def okC:Code→Bool
 | .region _ ops true=>z1s ops
 | .seq a b=>okC a && okC b
 | .cond _ a b=>okC a && okC b
 | .block _ c=>okC c
 | .loop c=>okC c
 | _=>true
end Go.Ev
namespace Go.Ev
open Go.RowKit

structure Gh where
 σ:Nat→Option Nat
 tk:Nat→Option (Nat×Nat×Nat×(Nat×Nat))
 K:Nat→Nat→Prop
 B:Nat

def Held (G:Gh)(w:World)(ad:Addr)(n:Nat)(f:Nat→Value):Prop :=
 ad.spot=none∧∀ i,i < n→G.K ad.block (ad.off+i)∧w.cell? ⟨ad.block,ad.off+i,none⟩=some (f i)

def TokR (G:Gh)(A:Option Addr)(n c:Nat):Tok→Prop
 | .none=>True
 | .zero=>n=0∧c=0
 | .own k=>∃ b c' m z,G.tk k=some (b,c',m,z)∧n≤m∧(n=m→A=some ⟨b,0,none⟩∧c=c')

inductive VR (G:Gh) (w:World):AV→Value→Prop
 | bad (v:Value):VR G w .bad v
 | int (k:IntKind) (n:Int):VR G w (.int k n) (.int k n)
 | bool (b:Bool):VR G w (.bool b) (.bool b)
 | str (s:List UInt8):VR G w (.str s) (.string ⟨s.toArray⟩)
 | raw (r:RV):VR G w (.raw r) r.val
 | agg (l:List AV) (cs:Array Value) (hs:cs.size=l.length) (h:∀ i a,l[i]?=some a→VR G w a (cs.getD i undef)):VR G w (.agg l) (.agg cs)
 | tup (l:List AV) (cs:Array Value) (hs:cs.size=l.length) (h:∀ i a,l[i]?=some a→VR G w a (cs.getD i undef)):VR G w (.tup l) (.tuple cs)
 | vs (l:List AV) (n:Nat) (t:Tok) (A:Option Addr) (c:Nat) (f:Nat→Value) (hc:n≤c) (h:∀ i a,l[i]?=some a→VR G w a (f i))
   (hh:l=[]∨∃ ad,A=some ad∧Held G w ad l.length f) (ht:TokR G A n c t):VR G w (.vs l n t) (.slice A n c)
 | vp (l:List AV) (ad:Addr) (f:Nat→Value) (h:∀ i a,l[i]?=some a→VR G w a (f i)) (hh:Held G w ad l.length f):VR G w (.vp l) (.pointer (some ad))
 | ptr (h off b:Nat) (hb:G.σ h=some b):VR G w (.ptr h off) (.pointer (some ⟨b,off,none⟩))
 | row (h off n c b:Nat) (hb:G.σ h=some b) (hc:n≤c):VR G w (.row h off n c) (.slice (some ⟨b,off,none⟩) n c)
 | mp (h b:Nat) (hb:G.σ h=some b):VR G w (.mp h) (.map (some b))
 | fn (f:Fn) (a b:List AV) (as bs:Array Value) (ha:as.size=a.length) (hb:bs.size=b.length)
   (h1:∀ i x,a[i]?=some x→VR G w x (as.getD i undef)) (h2:∀ i x,b[i]?=some x→VR G w x (bs.getD i undef)):VR G w (.fn f a b) (.func f as bs)
 | ifc (t:TypeId) (a:AV) (v:Value) (h:VR G w a v):VR G w (.ifc t a) (.iface t v)

def VRs (G:Gh)(w:World)(l:List AV)(cs:List Value):Prop:=cs.length=l.length∧∀ (i:Nat) (a:AV),l[i]?=some a→∃ v:Value,cs[i]?=some v∧VR G w a v

inductive HR (G:Gh) (w:World):HB→Obj→Prop
 | cells (l:List AV) (t:TypeId) (cs:Array Value) (hs:cs.size=l.length) (h:∀ i a,l[i]?=some a→VR G w a (cs.getD i undef)):HR G w (.cells l t) (.cells cs t (0,0))
 | map (es:List (AV×AV)) (ms:Array MapEntry) (clock:Nat) (p:List MapEntry) (hp:p.Perm ms.toList) (hs:p.length=es.length) (hst:MapKept.Stamped ms clock)
   (h:∀ (i:Nat) (k v:AV),es[i]?=some (k,v)→∃ m:MapEntry,p[i]?=some m∧VR G w k m.key∧VR G w v m.val):HR G w (.map es) (.map ms clock)
 | iter (s:List UInt8) (pos:Nat):HR G w (.iter s pos) (.stringIter ⟨s.toArray⟩ pos)

structure Inv (G:Gh) (w:World) (S:St):Prop where
 blk:∀ h hb,S.hs[h]?=some (some hb)→∃ b o,G.σ h=some b∧w.heap[b]?=some o∧HR G w hb o
 dom:∀ h b,G.σ h=some b→∃ hb,S.hs[h]?=some (some hb)
 inj:∀ h h' b,G.σ h=some b→G.σ h'=some b→h=h'
 fr:∀ h b o,G.σ h=some b→¬ G.K b o
 base:∀ h b,G.σ h=some b→G.B≤b
 tok:∀ k m z,S.ts[k]?=some (m,z)→∃ b c,G.tk k=some (b,c,m,z)
 tdom:∀ k b c m z,G.tk k=some (b,c,m,z)→S.ts[k]?=some (m,z)∧G.B≤b∧0 < z.1∧m≤c∧c≤maxLen∧(∃ cs e,(∃ fz:Nat×Nat,w.heap[b]?=some (.cells cs e fz)∧fz.2≤m*z.1)∧cs.size=c*z.1∧e=z.2)∧(∀ o,G.K b o→o < m*z.1)
 tinj:∀ k k' b c m z c' m' z',G.tk k=some (b,c,m,z)→G.tk k'=some (b,c',m',z')→k=k'
 tσ:∀ k b c m z h,G.tk k=some (b,c,m,z)→G.σ h≠some b
 kin:∀ b o,G.K b o→b < w.heap.size
 bin:G.B≤w.heap.size

structure Evo (G:Gh) (w:World) (G':Gh) (w':World):Prop where
 k:∀ b o,G.K b o→G'.K b o
 cell:∀ b o,G.K b o→w'.cell? ⟨b,o,none⟩=w.cell? ⟨b,o,none⟩
 σ:∀ h b,G.σ h=some b→G'.σ h=some b
 σn:∀ h b,G'.σ h=some b→G.σ h=some b∨w.heap.size≤b
 tk:∀ k b c m z,G.tk k=some (b,c,m,z)→∃ b' c' m',G'.tk k=some (b',c',m',z)∧((m'=m∧b'=b∧c'=c)∨m < m')
 tkn:∀ k b c m z,G'.tk k=some (b,c,m,z)→(∃ c' m' z',G.tk k=some (b,c',m',z'))∨w.heap.size≤b
 kn:∀ b o,G'.K b o→G.K b o∨w.heap.size≤b∨∃ k c m z,G.tk k=some (b,c,m,z)
 B:G'.B=G.B
 size:w.heap.size≤w'.heap.size
 os:w'.os=w.os
 tape:w'.tape=w.tape
 output:w'.output=w.output
 frame:∀ b,b < w.heap.size→(∀ h,G.σ h≠some b)→(∀ k c m z,G.tk k≠some (b,c,m,z))→w'.heap[b]?=w.heap[b]?

theorem Evo.refl (G:Gh)(w:World):Evo G w G w :=
 ⟨fun _ _ h=>h,fun _ _ _=>rfl,fun _ _ h=>h,fun _ _ h=>.inl h,fun k b c m z h=>⟨b,c,m,h,.inl ⟨rfl,rfl,rfl⟩⟩,fun k b c m z h=>.inl ⟨c,m,z,h⟩,fun _ _ h=>.inl h,rfl,Nat.le_refl _,rfl,rfl,rfl,fun _ _ _ _=>rfl⟩

theorem Evo.trans {G w G1 w1 G2 w2}(h:Evo G w G1 w1)(k:Evo G1 w1 G2 w2):Evo G w G2 w2 where
 k:=fun b o hk=>k.k _ _ (h.k _ _ hk)
 cell:=fun b o hk=>(k.cell _ _ (h.k _ _ hk)).trans (h.cell _ _ hk)
 σ:=fun x b hx=>k.σ _ _ (h.σ _ _ hx)
 σn:=fun x b hx=>by
  rcases k.σn _ _ hx with h1 | h1
  ·exact h.σn _ _ h1
  ·exact .inr (Nat.le_trans h.size h1)
 tk:=fun i b c m z hi=>by
  obtain ⟨b1,c1,m1,h1,h2⟩:=h.tk _ _ _ _ _ hi
  obtain ⟨b2,c2,m2,h3,h4⟩:=k.tk _ _ _ _ _ h1
  refine ⟨b2,c2,m2,h3,?_⟩
  rcases h2 with ⟨rfl,rfl,rfl⟩ | h2
  ·exact h4
  ·rcases h4 with ⟨rfl,rfl,rfl⟩ | h4
   ·exact .inr h2
   ·exact .inr (by omega)
 tkn:=fun i b c m z hi=>by
  rcases k.tkn _ _ _ _ _ hi with ⟨c',m',z',h1⟩ | h1
  ·exact h.tkn _ _ _ _ _ h1
  ·exact .inr (Nat.le_trans h.size h1)
 kn:=fun b o hk=>by
  rcases k.kn _ _ hk with h1 | h1 | ⟨i,c,m,z,h1⟩
  ·exact h.kn _ _ h1
  ·exact .inr (.inl (Nat.le_trans h.size h1))
  ·rcases h.tkn _ _ _ _ _ h1 with ⟨c',m',z',h2⟩ | h2
   ·exact .inr (.inr ⟨i,c',m',z',h2⟩)
   ·exact .inr (.inl h2)
 B:=k.B.trans h.B
 size:=Nat.le_trans h.size k.size
 os:=k.os.trans h.os
 tape:=k.tape.trans h.tape
 output:=k.output.trans h.output
 frame:=fun b hb h1 h2=>by
  rw[k.frame b (Nat.lt_of_lt_of_le hb h.size),h.frame b hb h1 h2]
  ·intro x hx
   rcases h.σn _ _ hx with h3 | h3
   ·exact h1 _ h3
   ·omega
  ·intro i c m z hi
   rcases h.tkn _ _ _ _ _ hi with ⟨c',m',z',h3⟩ | h3
   ·exact h2 _ _ _ _ h3
   ·omega

theorem Evo.below {G w G' w' S}(h:Evo G w G' w')(hI:Inv G w S):Below G.B w w' :=
 ⟨h.os,h.tape,h.output,h.size,fun b hb=>h.frame b (Nat.lt_of_lt_of_le hb hI.bin) (fun x hx=>by have:=hI.base _ _ hx;omega)
  (fun k c m z hk=>by have:=(hI.tdom _ _ _ _ _ hk).2.1;omega)⟩

structure Ext (G:Gh) (w:World) (G':Gh) (w':World):Prop where
 k:∀ b o,G.K b o→G'.K b o
 cell:∀ b o,G.K b o→w'.cell? ⟨b,o,none⟩=w.cell? ⟨b,o,none⟩
 σ:∀ h b,G.σ h=some b→G'.σ h=some b
 tk:∀ k b c m z,G.tk k=some (b,c,m,z)→∃ b' c' m',G'.tk k=some (b',c',m',z)∧((m'=m∧b'=b∧c'=c)∨m < m')
theorem Evo.ext {G w G' w'}(e:Evo G w G' w'):Ext G w G' w':=⟨e.k,e.cell,e.σ,e.tk⟩

theorem Held.mono {G w G' w'}(e:Ext G w G' w'){ad n f}(h:Held G w ad n f):Held G' w' ad n f :=
 ⟨h.1,fun i hi=>⟨e.k _ _ (h.2 i hi).1,(e.cell _ _ (h.2 i hi).1).trans (h.2 i hi).2⟩⟩

theorem TokR.mono {G w G' w'}(e:Ext G w G' w'){A n c t}(h:TokR G A n c t):TokR G' A n c t:=by
 cases t with
 | none=>trivial
 | zero=>exact h
 | own k =>
  obtain ⟨b,c',m,z,h1,h2,h3⟩:=h
  obtain ⟨b1,c1,m1,h4,h5⟩:=e.tk _ _ _ _ _ h1
  refine ⟨b1,c1,m1,z,h4,?_,?_⟩
  ·rcases h5 with ⟨rfl,_,_⟩ | h5<;>omega
  ·intro hn
   rcases h5 with ⟨rfl,rfl,rfl⟩ | h5
   ·exact h3 hn
   ·omega

theorem VR.ext {G w G' w'}(e:Ext G w G' w'){a v}(h:VR G w a v):VR G' w' a v:=by
 induction h with
 | bad v=>exact .bad v
 | int k n=>exact .int k n
 | bool b=>exact .bool b
 | str s=>exact .str s
 | raw r=>exact .raw r
 | agg l cs hs h ih=>exact .agg l cs hs ih
 | tup l cs hs h ih=>exact .tup l cs hs ih
 | vs l n t A c f hc h hh ht ih=>exact .vs l n t A c f hc ih (hh.imp id fun ⟨ad,h1,h2⟩=>⟨ad,h1,h2.mono e⟩) (ht.mono e)
 | vp l ad f h hh ih=>exact .vp l ad f ih (hh.mono e)
 | ptr h off b hb=>exact .ptr h off b (e.σ _ _ hb)
 | row h off n c b hb hc=>exact .row h off n c b (e.σ _ _ hb) hc
 | mp h b hb=>exact .mp h b (e.σ _ _ hb)
 | fn f a b as bs ha hb h1 h2 ih1 ih2=>exact .fn f a b as bs ha hb ih1 ih2
 | ifc t a v h ih=>exact .ifc t a v ih
theorem VR.mono {G w G' w'}(e:Evo G w G' w'){a v}(h:VR G w a v):VR G' w' a v:=h.ext e.ext

theorem VRs.mono {G w G' w'}(e:Evo G w G' w'){l cs}(h:VRs G w l cs):VRs G' w' l cs :=
 ⟨h.1,fun i a ha=>let ⟨v,h1,h2⟩:=h.2 i a ha; ⟨v,h1,h2.mono e⟩⟩
theorem HR.ext {G w G' w'}(e:Ext G w G' w'){b o}(h:HR G w b o):HR G' w' b o:=by
 cases h with
 | cells l t cs hs h=>exact .cells l t cs hs fun i a ha=>(h i a ha).ext e
 | map es ms clock p hp hs hst h=>exact .map es ms clock p hp hs hst fun i k v hi=>let ⟨m,h1,h2,h3⟩:=h i k v hi; ⟨m,h1,h2.ext e,h3.ext e⟩
 | iter s pos=>exact .iter s pos
theorem HR.mono {G w G' w'}(e:Evo G w G' w'){b o}(h:HR G w b o):HR G' w' b o:=h.ext e.ext

theorem VR.ofVal (G:Gh)(w:World)(v:Value):VR G w (AV.ofVal v) v:=by
 unfold AV.ofVal
 split
 ·exact .int _ _
 ·exact .bool _
 ·rename_i s
  have:(⟨s.data.toList.toArray⟩:ByteArray)=s:=by cases s;simp
  conv=>arg 4;rw[← this]
  exact .str _
 ·exact .vs [] 0 .zero none 0 (fun _=>undef) (Nat.le_refl _) (by simp) (.inl rfl) ⟨rfl,rfl⟩
 ·exact .raw .nilIface
 ·exact .raw .nilFunc
 ·exact .raw .nilPtr
 ·exact .raw .nilMap
 ·exact .bad _

theorem VR.one {G w a v}(h:VR G w a v)(ho:a.one=true):v.oneCell'=true:=by
 cases h<;>simp[AV.one]at ho<;>try rfl
 rename_i r
 cases r<;>rfl

theorem VR.cells {G w a v}(h:VR G w a v)(hb:a.cells.all AV.one=true):v.cells.size=a.cells.length∧(∀ i x,a.cells[i]?=some x→VR G w x (v.cells.getD i undef))∧∀ u∈v.cells.toList,u.oneCell'=true:=by
 have key:∀ (h:VR G w a v),a.cells=[a]→v.cells=#[v]→v.cells.size=a.cells.length∧(∀ i x,a.cells[i]?=some x→VR G w x (v.cells.getD i undef))∧∀ u∈v.cells.toList,u.oneCell'=true:=by
  intro h e1 e2
  rw[e1]at hb
  simp at hb
  rw[e1,e2]
  refine ⟨rfl,fun i x hx=>?_,fun u hu=>?_⟩
  ·cases i with
   | zero=>simp at hx;subst hx;simpa using h
   | succ i=>simp at hx
  ·simp at hu;subst hu;exact h.one hb
 cases h with
 | agg l cs hs h =>
  refine ⟨by simpa[AV.cells,Value.cells] using hs,by simpa[AV.cells,Value.cells] using h,fun u hu=>?_⟩
  simp only[Value.cells]at hu
  obtain ⟨i,hi,rfl⟩:=List.getElem_of_mem hu
  have hi':i < l.length:=by simpa[hs] using hi
  have:=h i l[i] (List.getElem?_eq_getElem hi')
  simp only[AV.cells,List.all_eq_true]at hb
  have h2:=this.one (hb _ (List.getElem_mem hi'))
  have h3:i < cs.size:=by simpa using hi
  simpa[Array.getD,h3] using h2
 | bad v=>simp[AV.cells,AV.one]at hb
 | int k n=>exact key (.int k n) rfl rfl
 | bool b=>exact key (.bool b) rfl rfl
 | str s=>exact key (.str s) rfl rfl
 | raw r=>exact key (.raw r) rfl (by cases r<;>rfl)
 | tup l cs hs h=>simp[AV.cells,AV.one]at hb
 | vs l n t A c f hc h hh ht=>exact key (.vs l n t A c f hc h hh ht) rfl rfl
 | vp l ad f h hh=>exact key (.vp l ad f h hh) rfl rfl
 | ptr h off b hb'=>exact key (.ptr h off b hb') rfl rfl
 | row h off n c b hb' hc=>exact key (.row h off n c b hb' hc) rfl rfl
 | mp h b hb'=>exact key (.mp h b hb') rfl rfl
 | fn f a b as bs ha hb' h1 h2=>exact key (.fn f a b as bs ha hb' h1 h2) rfl rfl
 | ifc t a v h=>exact key (.ifc t a v h) rfl rfl

def ER (G:Gh)(w:World)(env:Env)(a:Act):Prop:=a.tmps.size=env.length∧∀ i x,env[i]?=some x→VR G w x (a.tmps.getD i undef)

theorem ER.mono {G w G' w'}(e:Evo G w G' w'){env a}(h:ER G w env a):ER G' w' env a:=⟨h.1,fun i x hx=>(h.2 i x hx).mono e⟩
theorem ER.put {G w env a}(h:ER G w env a){x v}(hv:VR G w x v)(dst:Option Tmp):ER G w (z1u env dst x) (a.put dst v):=by
 cases dst with
 | none=>exact h
 | some d =>
  refine ⟨by simp[z1u,Act.put,h.1],fun i y hy=>?_⟩
  simp only[z1u]at hy
  by_cases hid:d=i
  ·subst hid
   have hlt:d < env.length:=by
    rcases Nat.lt_or_ge d env.length with h1 | h1
    ·exact h1
    ·simp[h1]at hy
   simp[hlt]at hy
   subst hy
   have:d < a.tmps.size:=by rw[h.1];exact hlt
   simpa[Act.put,this] using hv
  ·rw[List.getElem?_set_ne hid]at hy
   have:=h.2 i y hy
   simpa[Act.put,Array.getElem?_setIfInBounds_ne hid] using this
theorem VR.undef {G w}:VR G w (.tup []) undef:=.tup [] #[] rfl (by simp)
def GtR (C:Cx)(G:Gh)(w:World):Prop:=∀ g l,C.gt g=some l→VR G w (.vp l) (.pointer (some ⟨g,0,none⟩))
theorem GtR.mono {C G w G' w'}(e:Evo G w G' w')(h:GtR C G w):GtR C G' w':=fun g l hl=>(h g l hl).mono e

theorem ER.eval {C:Cx}{G w env a}(h:ER G w env a)(hg:GtR C G w)(x:Operand):VR G w (z1l C env x) (a.eval x):=by
 cases x with
 | tmp t =>
  simp only[z1l,Act.eval]
  rcases Nat.lt_or_ge t env.length with h1 | h1
  ·have:=h.2 t env[t] (List.getElem?_eq_getElem h1)
   simpa[h1] using this
  ·simp[List.getElem?_eq_none h1]
   exact .bad _
 | const v=>exact .ofVal G w v
 | global g =>
  simp only[z1l,Act.eval]
  split
  ·rename_i l hl;exact hg g l hl
  ·exact .raw (.glob g)
 | func f=>exact .fn _ [] [] #[] #[] rfl rfl (by simp) (by simp)
end Go.Ev
namespace Go.Ev
open Go.RowKit

section
variable {C:Cx}{G:Gh}{w:World}{S:St}

theorem run_sizeOf {P:Program}{t:TypeId}{n:Nat}(h:(P.info? t).map (·.size)=some n)(w:World):(sizeOf t).run P w=.ok n w:=by
 cases hi:P.info? t with
 | none=>simp[hi]at h
 | some i=>simp[hi]at h;simp[sizeOf,typeInfo,hi,h]
theorem z3i {t:TypeId}{b:Bool}(h:z9o C t=some b)(w:World):(isAgg t).run C.P w=.ok b w:=by
 unfold z9o at h
 split at h<;>cases h
 ·rename_i hu;simp[isAgg,run_underlying hu]
 ·rename_i hu;simp[isAgg,run_underlying hu]
 ·rename_i hu d h1 h2
  simp only[isAgg,Sem.run_bind,run_underlying h2,Result.andThen]
  cases hu<;>first | rfl | (exact absurd rfl (d _)) | (exact absurd rfl (h1 _ _))
theorem y30 {t:TypeId}{l:List AV}{off:Nat}{a:AV}(h:z4x C t l off=some a)(cs:Array Value)(hs:cs.size=l.length)
  (hf:∀ i x,l[i]?=some x→VR G w x (cs.getD i undef)):∃ v,VR G w a v∧(part t cs off).run C.P w=.ok v w:=by
 unfold z4x at h
 split at h
 ·rename_i n hagg hsz
  split at h<;>cases h
  rename_i hle
  refine ⟨.agg (cs.extract off (off+n)),.agg _ _ ?_ ?_,?_⟩
  ·simp[hs];omega
  ·intro i x hx
   have hlt:i < n:=by
    rcases Nat.lt_or_ge i n with h1 | h1
    ·exact h1
    ·simp[List.getElem?_take,Nat.not_lt.2 h1]at hx
   rw[List.getElem?_take,if_pos hlt,List.getElem?_drop]at hx
   have:=hf _ x hx
   have h2:off+i < cs.size:=by omega
   simpa[Array.getD,h2,show i < min (off+n) cs.size-off by omega] using this
  ·simp[part,z3i hagg,run_sizeOf (show (C.P.info? t).map (·.size)=some n from hsz)]
 ·rename_i n hagg hsz
  have hlt:off < l.length:=by
   rcases Nat.lt_or_ge off l.length with h1 | h1
   ·exact h1
   ·simp[h1]at h
  have h2:off < cs.size:=by omega
  refine ⟨cs.getD off undef,hf _ _ h,?_⟩
  simp[part,z3i hagg,Array.getD,h2]
 ·cases h

theorem y31 {t:TypeId}{l:List AV}{off:Nat}{a:AV}(h:z4x C t l off=some a)(b o:Nat)(f:Nat→Value)
  (hc:∀ i,i < l.length→w.cell? ⟨b,o+i,none⟩=some (f i))
  (hf:∀ i x,l[i]?=some x→VR G w x (f i)):∃ v,VR G w a v∧(loadVar t ⟨b,o+off,none⟩).run C.P w=.ok v w:=by
 unfold z4x at h
 split at h
 ·rename_i n hagg hsz
  split at h<;>cases h
  rename_i hle
  have hl:=run_loadCells (P:=C.P) w ⟨b,o+off,none⟩ n (fun j=>f (off+j)) (fun j hj=>by
   rw[Addr.add_lit,Nat.add_assoc];exact hc _ (by omega))
  refine ⟨.agg ((List.range n).map fun j=>f (off+j)).toArray,.agg _ _ ?_ ?_,?_⟩
  ·simp;omega
  ·intro i x hx
   have hlt:i < n:=by
    rcases Nat.lt_or_ge i n with h1 | h1
    ·exact h1
    ·simp[List.getElem?_take,Nat.not_lt.2 h1]at hx
   rw[List.getElem?_take,if_pos hlt,List.getElem?_drop]at hx
   have:=hf _ x hx
   simpa[Array.getD,hlt] using this
  ·simp[loadVar,z3i hagg,run_sizeOf (show (C.P.info? t).map (·.size)=some n from hsz),hl]
 ·rename_i n hagg hsz
  have hlt:off < l.length:=by
   rcases Nat.lt_or_ge off l.length with h1 | h1
   ·exact h1
   ·simp[h1]at h
  refine ⟨f off,hf _ _ h,?_⟩
  simp[loadVar,z3i hagg,hc off hlt]
 ·cases h

theorem Inv.cellsAt (hI:Inv G w S){h:Nat}{l:List AV}{t:TypeId}(hb:z1e S h=some (l,t)) :
  ∃ b cs,G.σ h=some b∧w.heap[b]?=some (.cells cs t (0,0))∧cs.size=l.length∧(∀ i x,l[i]?=some x→VR G w x (cs.getD i undef)) ∧
   ∀ i,i < l.length→w.cell? ⟨b,i,none⟩=some (cs.getD i undef):=by
 unfold z1e at hb
 split at hb<;>cases hb
 rename_i hs
 obtain ⟨b,o,h1,h2,h3⟩:=hI.blk _ _ hs
 cases h3 with
 | cells l t cs hs h =>
  refine ⟨b,cs,h1,h2,hs,h,fun i hi=>?_⟩
  have:i < cs.size:=by omega
  simp[World.cell?,h2,Array.getD,this]

theorem Held.drop {ad:Addr}{n k:Nat}{f:Nat→Value}(h:Held G w ad n f)(hk:k≤n):Held G w ⟨ad.block,ad.off+k,none⟩ (n-k) (fun i=>f (k+i)) :=
 ⟨rfl,fun i hi=>by
  have:=h.2 (k+i) (by omega)
  simp only[Nat.add_assoc]
  exact this⟩
theorem Held.le {ad:Addr}{n k:Nat}{f:Nat→Value}(h:Held G w ad n f)(hk:k≤n):Held G w ad k f:=⟨h.1,fun i hi=>h.2 i (by omega)⟩

theorem y34 (hI:Inv G w S){t:TypeId}{x a:AV}(h:z4k C S t x=some a){u:Value}(hu:VR G w x u) :
  ∃ v,VR G w a v∧(Instr.loadAt t u).run C.P w=.ok v w:=by
 unfold z4k at h
 split at h
 ·split at h<;>try cases h
  rename_i hh off _ l t' hb
  cases hu with
  | ptr _ _ b hσ =>
   obtain ⟨b',cs,h1,h2,h3,h4,h5⟩:=hI.cellsAt hb
   rw[hσ]at h1
   cases h1
   obtain ⟨v,hv,hr⟩:=y31 h b 0 (fun i=>cs.getD i undef) (by simpa using h5) h4
   exact ⟨v,hv,by simpa[Instr.loadAt,Instr.sureAddr] using hr⟩
 ·rename_i l
  cases hu with
  | vp _ ad f hf hh =>
   obtain ⟨v,hv,hr⟩:=y31 h ad.block ad.off f (fun i hi=>(hh.2 i hi).2) hf
   refine ⟨v,hv,?_⟩
   have:ad=⟨ad.block,ad.off,none⟩:=by cases ad;have:=hh.1;simp at this;simp[this]
   rw[this]
   simpa[Instr.loadAt,Instr.sureAddr] using hr
 ·cases h

theorem VR.int_inv {k:IntKind}{n:Int}{v:Value}(h:VR G w (.int k n) v):v=.int k n:=by cases h;rfl
theorem VR.bool_inv {b:Bool}{v:Value}(h:VR G w (.bool b) v):v=.bool b:=by cases h;rfl
theorem VR.str_inv {s:List UInt8}{v:Value}(h:VR G w (.str s) v):v=.string ⟨s.toArray⟩:=by cases h;rfl

theorem nat?_inv {x:AV}{j:Nat}(h:x.nat?=some j):∃ k,x=.int k (j:Int):=by
 unfold AV.nat? at h
 split at h<;>try cases h
 split at h<;>cases h
 rename_i k n hn
 exact ⟨k,by rw[Int.toNat_of_nonneg hn]⟩

def VL (G:Gh)(w:World)(l:List AV)(cs:Array Value):Prop:=cs.size=l.length∧∀ i x,l[i]?=some x→VR G w x (cs.getD i undef)

theorem z6a {l:List AV}{off:Nat}{cs:List AV}(h:off+cs.length≤l.length):(y2g l off cs).length=l.length:=by
 simp[y2g];omega
theorem y78 {l:List AV}{off:Nat}{cs:List AV}(h:off+cs.length≤l.length)(i:Nat) :
  (y2g l off cs)[i]?=if i < off then l[i]? else if i < off+cs.length then cs[i-off]? else l[i]?:=by
 unfold y2g
 rw[List.getElem?_append]
 have h1:(l.take off).length=off:=by simp;omega
 rw[h1]
 split
 ·rename_i hi;simp[hi]
 ·rename_i hi
  rw[List.getElem?_append]
  split
  ·rename_i hi2;rw[if_pos (by omega)]
  ·rename_i hi2
   rw[if_neg (by omega),List.getElem?_drop]
   congr 1;omega

theorem y67 (cells:Array Value)(off:Nat):∀ (vs:List Value) (k:Nat) (c:Array Value),
  ((vs.zipIdx k).foldl (fun cs (x:Value×Nat)=>cs.setIfInBounds (off+x.2) x.1) c).size=c.size ∧
  ∀ i,i < c.size→((vs.zipIdx k).foldl (fun cs (x:Value×Nat)=>cs.setIfInBounds (off+x.2) x.1) c).getD i undef =
   if off+k≤i∧i < off+k+vs.length then vs.getD (i-(off+k)) undef else c.getD i undef
 | [],k,c=>by simp;intro i hi h1 h2;omega
 | v::r,k,c=>by
  have ih:=y67 cells off r (k+1) (c.setIfInBounds (off+k) v)
  simp only[List.zipIdx_cons,List.foldl_cons]
  refine ⟨by rw[ih.1];simp,fun i hi=>?_⟩
  rw[ih.2 i (by simpa using hi)]
  by_cases h1:off+(k+1)≤i∧i < off+(k+1)+r.length
  ·rw[if_pos h1,if_pos (by simp;omega)]
   rw[show i-(off+k)=(i-(off+(k+1)))+1 by omega]
   simp
  ·rw[if_neg h1]
   by_cases h2:i=off+k
   ·subst h2
    rw[if_pos (by simp)]
    simp[Array.getD,hi]
   ·rw[if_neg (by simp;omega)]
    have:off+k≠i:=fun e=>h2 e.symm
    simp[Array.getD_eq_getD_getElem?,Array.getElem?_setIfInBounds_ne this]

theorem y0g (place:Nat→Option (Nat×Nat)):∀ (parts:List (Nat×AV)) (vals:List (Nat×Value)) (cells:List AV) (cs:Array Value) (out:List AV),
  VL G w cells cs→parts.length=vals.length→(∀ (i:Nat) (p:Nat×AV),parts[i]?=some p→∃ v:Value,vals[i]?=some (p.1,v)∧VR G w p.2 v)→z7x place cells parts=some out →
  ∃ cs',Instr.fill place cs vals=some cs'∧VL G w out cs':=by
 intro parts
 induction parts with
 | nil =>
  intro vals cells cs out hl hlen hv h
  cases vals with
  | nil=>simp[z7x]at h;subst h;exact ⟨cs,by simp[Instr.fill],hl⟩
  | cons x xs=>simp at hlen
 | cons p rest ih =>
  intro vals cells cs out hl hlen hv h
  cases vals with
  | nil=>simp at hlen
  | cons x xs =>
   obtain ⟨i,a⟩:=p
   obtain ⟨v,hx,hav⟩:=hv 0 (i,a) rfl
   simp at hx
   subst hx
   have hav:VR G w a v:=hav
   simp only[z7x]at h
   split at h
   ·cases h
   ·rename_i off size hp
    split at h
    ·rename_i hcond
     obtain ⟨hc1,hc2,hc3⟩:=hcond
     obtain ⟨q1,q2,q3⟩:=hav.cells hc3
     have hfd:=y67 cs off v.cells.toList 0 cs
     have hsz:(v.cells.zipIdx.foldl (fun cs (x:Value×Nat)=>cs.setIfInBounds (off+x.2) x.1) cs)=((v.cells.toList.zipIdx 0).foldl (fun cs (x:Value×Nat)=>cs.setIfInBounds (off+x.2) x.1) cs):=by
      rw[← Array.foldl_toList]
      simp
     have hnew:VL G w (y2g cells off a.cells) (v.cells.zipIdx.foldl (fun cs (x:Value×Nat)=>cs.setIfInBounds (off+x.2) x.1) cs):=by
      rw[hsz]
      refine ⟨by rw[hfd.1,z6a (by omega),hl.1],fun j y hy=>?_⟩
      have hjl:j < cells.length:=by
       rcases Nat.lt_or_ge j cells.length with h1 | h1
       ·exact h1
       ·rw[← z6a (l:=cells) (off:=off) (cs:=a.cells) (by omega)]at h1
        simp[h1]at hy
      rw[y78 (by omega)]at hy
      rw[hfd.2 j (by rw[hl.1];exact hjl)]
      by_cases h1:j < off
      ·rw[if_pos h1]at hy
       rw[if_neg (by omega)]
       exact hl.2 j y hy
      ·rw[if_neg h1]at hy
       by_cases h2:j < off+a.cells.length
       ·rw[if_pos h2]at hy
        rw[if_pos (by simp;omega)]
        have:=q2 _ y hy
        have h3:j-off < v.cells.size:=by omega
        simpa[Array.getD,h3,List.getD_eq_getElem?_getD] using this
       ·rw[if_neg h2]at hy
        rw[if_neg (by simp;omega)]
        exact hl.2 j y hy
     obtain ⟨cs',h1,h2⟩:=ih xs _ _ out hnew (by simpa using hlen) (fun k q hq=>hv (k+1) q (by simpa using hq)) h
     refine ⟨cs',?_,h2⟩
     have hb:(v.cells.size≠size || decide (off+v.cells.size > cs.size))=false:=by
      simp[q1,hc1,hl.1];omega
     simp only[Instr.fill,hp]
     rw[if_neg (by simp[q1,hc1,hl.1];omega)]
     exact h1
    ·cases h

theorem z5a {t:TypeId}{z:List AV}(h:z4p C t=some z):∃ i v,C.P.info? t=some i∧i.zero=some v∧v.cells.size=i.size∧VL G w z v.cells:=by
 unfold z4p at h
 split at h<;>try cases h
 split at h<;>try cases h
 split at h<;>cases h
 rename_i i hi _ v hv hs
 refine ⟨i,v,hi,hv,hs,by simp,fun j x hx=>?_⟩
 simp only[List.getElem?_map,Option.map_eq_some_iff]at hx
 obtain ⟨y,hy,rfl⟩:=hx
 have hlt:j < v.cells.size:=by
  rcases Nat.lt_or_ge j v.cells.size with h1 | h1
  ·exact h1
  ·simp[h1]at hy
 simp[hlt]at hy
 subst hy
 simp only[Array.getD,hlt,dif_pos]
 exact .ofVal _ _ _
end
end Go.Ev
namespace Go.Ev
open Go.RowKit

def EqtOk (C:Cx):Prop:=∀ t,C.eqt t=true→C.P.eqGuardType C.P.depth t=false ∧
 ∀ (fs:Array Field) (G:Gh) (w:World) (l m:List AV) (b:Bool) (xs ys:Array Value),C.P.underlying t=some (.struct fs)→VL G w l xs→VL G w m ys→szT C t=some l.length→z07 C (z3g C fs.toList) l m=some b→(Op.equal t (.agg xs) (.agg ys)).run C.P w=.ok b w

section
variable {C:Cx}{G:Gh}{w:World}{S:St}

theorem z6v {s:Sem Value}{a:AV}(h:y0r s=some a)(P:Program):∃ v,VR G w a v∧s.run P w=.ok v w:=by
 unfold y0r at h
 split at h<;>cases h
 ·exact ⟨_,.int _ _,rfl⟩
 ·exact ⟨_,.bool _,rfl⟩

theorem y7f {op:BinOp}{t:TypeId}{k:IntKind}{x y:Int}{a:AV}(h:y6m op t k x y=some a):∃ v,VR G w a v∧(Go.binOp op t (.int k x) (.int k y)).run C.P w=.ok v w:=by
 cases op<;>simp only[y6m,Option.some.injEq]at h<;>first
  | (subst h;exact ⟨_,.int _ _,by simp[Go.binOp,Op.intArith]⟩)
  | (subst h;exact ⟨_,.bool _,by simp[Go.binOp,Op.intCmp]⟩)
  | exact z6v h C.P

theorem y7b {op:BinOp}{t:TypeId}{x y:List UInt8}{a:AV}(h:y28 op x y=some a):∃ v,VR G w a v∧(Go.binOp op t (.string ⟨x.toArray⟩) (.string ⟨y.toArray⟩)).run C.P w=.ok v w:=by
  cases op<;>simp only[y28,Option.some.injEq]at h<;>first
    | (subst h;exact ⟨_,.bool _,by simp[Go.binOp,Op.stringOp]⟩)
    | (split at h<;>cases h
       rename_i hle
       refine ⟨_,.str _,?_⟩
       have e:(⟨x.toArray⟩++⟨y.toArray⟩:ByteArray)=⟨(x++y).toArray⟩:=by
         apply ByteArray.ext
         simp
       have h1:¬ ((((⟨x.toArray⟩:ByteArray).size+(⟨y.toArray⟩:ByteArray).size:Nat):Int) > IntKind.i64.max):=by
         have e1:(⟨x.toArray⟩:ByteArray).size=x.length:=by simp[ByteArray.size]
         have e2:(⟨y.toArray⟩:ByteArray).size=y.length:=by simp[ByteArray.size]
         rw[e1,e2]
         simp[IntKind.max,IntKind.signed,IntKind.bits]
         omega
       simp only[Go.binOp,Op.stringOp]
       rw[if_neg h1,e];rfl)
    | cases h

theorem z1z {op:BinOp}{t:TypeId}{x y:Operand}{a b:Value}(h1:∀ cs ds,¬ (a=.agg cs∧b=.agg ds))(h2:¬ (a=.nilIface∧b=.nilIface)):(eqGuard op t x y a b).run C.P w=.ok () w:=by
 unfold eqGuard
 cases op<;>simp<;>(cases a<;>cases b<;>first | rfl | (exact absurd ⟨rfl,rfl⟩ (h1 _ _)) | (exact absurd ⟨rfl,rfl⟩ h2))

theorem z2k (t:TypeId)(x y:Value):∃ d,Op.equal t x y=Op.equalIn (d+1) t x y:=⟨9999,rfl⟩

theorem y68 (he:EqtOk C){t:TypeId}{ox oy:Operand}{op:BinOp}{x y:AV}{b:Bool}(h:eqA C t (z6f ox || z6f oy) x y=some b){u v:Value}(hu:VR G w x u)(hv:VR G w y v) :
  (eqGuard op t ox oy u v).run C.P w=.ok () w∧Go.binOp .eql t u v=(do pure (.bool (← Op.equal t u v)):Sem Value)∧Go.binOp .neq t u v=(do pure (.bool (!(← Op.equal t u v))):Sem Value)∧(Op.equal t u v).run C.P w=.ok b w:=by
 unfold eqA at h
 split at h
 ·rename_i ht
  split at h<;>cases h
  cases hu.bool_inv;cases hv.bool_inv
  exact ⟨z1z (by simp) (by simp),rfl,rfl,by obtain ⟨d,hd⟩:=z2k t _ _;rw[hd];simp[Op.equalIn,run_underlying ht]⟩
 ·rename_i fs ht
  split at h<;>try cases h
  split at h
  ·rename_i hc
   cases hu with
   | agg l cs hs hl =>
    cases hv with
    | agg m ds hs2 hm =>
     obtain ⟨q1,q2⟩:=he t hc.1
     refine ⟨?_,rfl,rfl,q2 _ G w _ _ _ _ _ ht ⟨hs,hl⟩ ⟨hs2,hm⟩ hc.2 h⟩
     unfold eqGuard
     cases op<;>simp[q1]
  ·cases h
 ·rename_i e ht
  split at h
  ·rename_i h1 o1 h2 o2
   split at h<;>try cases h
   rename_i n hsz
   split at h<;>cases h
   rename_i hhh
   subst hhh
   cases hu with
   | ptr _ _ b1 hb1 =>
    cases hv with
    | ptr _ _ b2 hb2 =>
     rw[hb1]at hb2;cases hb2
     refine ⟨z1z (by simp) (by simp),rfl,rfl,?_⟩
     obtain ⟨d,hd⟩:=z2k t (.pointer (some ⟨b1,o1,none⟩)) (.pointer (some ⟨b1,o2,none⟩))
     rw[hd]
     have hne:(sizeOf e).run C.P w=.ok (n+1) w:=run_sizeOf (show (C.P.info? e).map (·.size)=some (n+1) from hsz) w
     simp[Op.equalIn,run_underlying ht,hne,sameAddr]
     rw[Bool.eq_iff_iff];simp
  all_goals (first | (cases h;done) | skip)
  ·cases h;cases hu;cases hv
   exact ⟨z1z (by simp) (by simp),rfl,rfl,by obtain ⟨d,hd⟩:=z2k t _ _;rw[hd];simp[RV.val,Op.equalIn,run_underlying ht]⟩
  ·cases h;cases hu;cases hv
   exact ⟨z1z (by simp[RV.val]) (by simp[RV.val]),rfl,rfl,by obtain ⟨d,hd⟩:=z2k t _ _;rw[hd];simp[RV.val,Op.equalIn,run_underlying ht]⟩
  ·cases h;cases hu;cases hv
   exact ⟨z1z (by simp[RV.val]) (by simp[RV.val]),rfl,rfl,by obtain ⟨d,hd⟩:=z2k t _ _;rw[hd];simp[RV.val,Op.equalIn,run_underlying ht]⟩
 ·rename_i ht
  split at h
  ·cases h;cases hu;cases hv
   exact ⟨z1z (by simp[RV.val]) (by simp[RV.val]),rfl,rfl,by obtain ⟨d,hd⟩:=z2k t _ _;rw[hd];simp[RV.val,Op.equalIn,run_underlying ht]⟩
  ·cases h;cases hu;cases hv
   exact ⟨z1z (by simp[RV.val]) (by simp[RV.val]),rfl,rfl,by obtain ⟨d,hd⟩:=z2k t _ _;rw[hd];simp[RV.val,Op.equalIn,run_underlying ht]⟩
  ·split at h<;>cases h
   rename_i hc
   cases hu;cases hv
   refine ⟨?_,rfl,rfl,by obtain ⟨d,hd⟩:=z2k t _ _;rw[hd];simp[RV.val,Op.equalIn,run_underlying ht]⟩
   unfold eqGuard
   revert hc
   cases op<;>simp[RV.val]<;>(cases ox<;>cases oy<;>simp[z6f])
  ·cases h
 ·rename_i ht
  split at h<;>cases h
  ·cases hu;cases hv
   exact ⟨z1z (by simp[RV.val]) (by simp[RV.val]),rfl,rfl,by obtain ⟨d,hd⟩:=z2k t _ _;rw[hd];simp[RV.val,Op.equalIn,run_underlying ht]⟩
  ·cases hu;cases hv
   exact ⟨z1z (by simp[RV.val]) (by simp[RV.val]),rfl,rfl,by obtain ⟨d,hd⟩:=z2k t _ _;rw[hd];simp[RV.val,Op.equalIn,run_underlying ht]⟩
 ·cases h

theorem x1v (he:EqtOk C){t:TypeId}{ox oy:Operand}{op:BinOp}{x y a:AV}(h:y4y C op t (z6f ox || z6f oy) x y=some a){u v:Value}(hu:VR G w x u)(hv:VR G w y v) :
  ∃ r,VR G w a r∧(do eqGuard op t ox oy u v;Go.binOp op t u v:Sem Value).run C.P w=.ok r w:=by
 unfold y4y at h
 split at h
 ·rename_i k p k' q
  cases hu.int_inv;cases hv.int_inv
  have hg:(eqGuard op t ox oy (.int k p) (.int k' q)).run C.P w=.ok () w:=z1z (by simp) (by simp)
  split at h
  ·rename_i hk;subst hk
   obtain ⟨r,h1,h2⟩:=y7f (C:=C) (G:=G) (w:=w) h
   exact ⟨r,h1,by simp[hg,h2]⟩
  ·split at h
   ·obtain ⟨r,h1,h2⟩:=z6v (G:=G) (w:=w) h C.P
    exact ⟨r,h1,by simp[hg,h2]⟩
   ·obtain ⟨r,h1,h2⟩:=z6v (G:=G) (w:=w) h C.P
    exact ⟨r,h1,by simp[hg,h2]⟩
   ·cases h
 ·cases hu.str_inv;cases hv.str_inv
  obtain ⟨r,h1,h2⟩:=y7b (C:=C) (G:=G) (w:=w) (t:=t) h
  exact ⟨r,h1,by simp[z1z,h2]⟩
 ·split at h
  ·obtain ⟨b,hb,rfl⟩:=Option.map_eq_some_iff.1 h
   obtain ⟨h1,h2,h3,h4⟩:=y68 he (op:=.eql) hb hu hv
   exact ⟨_,.bool b,by simp[h1,h2,h4]⟩
  ·obtain ⟨b,hb,rfl⟩:=Option.map_eq_some_iff.1 h
   obtain ⟨h1,h2,h3,h4⟩:=y68 he (op:=.neq) hb hu hv
   exact ⟨_,.bool (!b),by simp[h1,h3,h4]⟩
  ·cases h
end
end Go.Ev
namespace Go.Ev
open Go.RowKit

section
variable {C:Cx}{G:Gh}{w:World}{S:St}

theorem x2c {op:UnOp}{x a:AV}(h:unA op x=some a){u:Value}(hu:VR G w x u):∃ v,VR G w a v∧(Op.unary op u).run C.P w=.ok v w:=by
 unfold unA at h
 split at h
 ·cases h;cases hu.bool_inv;exact ⟨_,.bool _,rfl⟩
 ·cases h;cases hu.int_inv;exact ⟨_,.int _ _,by simp[Op.unary,Op.intArith]⟩
 ·cases hu.int_inv;exact z6v h C.P
 ·cases h

theorem y2e {α β:Type}(P:Program)(g:α→Sem β)(f:α→β)(w:World):∀ (l:List α),(∀ a∈l,(g a).run P w=.ok (f a) w)→(l.mapM g).run P w=.ok (l.map f) w
 | [],_=>by simp
 | a::l,h=>by
  have ih:=y2e P g f w l (fun b hb=>h b (by simp[hb]))
  simp[List.mapM_cons,h a (by simp),ih]

theorem y9e {t:TypeId}{parts:List (Nat×AV)}{a:AV}(h:y9f C t parts=some a)(vals:Array (Nat×Value))(hl:parts.length=vals.size)
  (hv:∀ (i:Nat) (p:Nat×AV),parts[i]?=some p→∃ v:Value,vals[i]?=some (p.1,v)∧VR G w p.2 v):∃ v,VR G w a v∧(Instr.build t vals).run C.P w=.ok v w:=by
 unfold y9f at h
 split at h
 ·rename_i z hz
  obtain ⟨i,zv,hi,hzv,hzs,hvl⟩:=z5a (G:=G) (w:=w) hz
  have hzr:(zeroValue t).run C.P w=.ok zv w:=by simp[zeroValue,typeInfo,hi,hzv]
  have hv':∀ (i:Nat) (p:Nat×AV),parts[i]?=some p→∃ v:Value,vals.toList[i]?=some (p.1,v)∧VR G w p.2 v:=by simpa using hv
  split at h
  ·rename_i fs hu
   split at h
   ·rename_i hall
    obtain ⟨cells,hf,rfl⟩:=Option.map_eq_some_iff.1 h
    have hsz:∀ f∈fs.toList,(do pure (f.offset,← sizeOf f.type):Sem (Nat×Nat)).run C.P w=.ok (f.offset,(szT C f.type).getD 0) w:=by
     intro f hf
     have h1:(szT C f.type).isSome=true:=by
      rw[Array.all_eq_true_iff_forall_mem]at hall
      exact hall f (by simpa using hf)
     obtain ⟨n,hn⟩:=Option.isSome_iff_exists.1 h1
     simp[run_sizeOf (show (C.P.info? f.type).map (·.size)=some n from hn),hn]
    have hmap:=y2e C.P _ _ w fs.toList hsz
    have hplace:∀ j,(fs.map fun f=>(f.offset,(szT C f.type).getD 0))[j]?=z5z C fs j:=by
     intro j
     unfold z5z
     simp only[Array.getElem?_map]
     cases hj:fs[j]? with
     | none=>rfl
     | some f =>
      have h1:(szT C f.type).isSome=true:=by
       rw[Array.all_eq_true_iff_forall_mem]at hall
       exact hall f (Array.mem_of_getElem? hj)
      obtain ⟨n,hn⟩:=Option.isSome_iff_exists.1 h1
      simp[hn]
    obtain ⟨cs',h1,h2⟩:=y0g (z5z C fs) parts vals.toList z zv.cells cells hvl (by simpa using hl) hv' hf
    refine ⟨.agg cs',.agg _ _ h2.1 h2.2,?_⟩
    have hfn:(fun x=>(fs.map fun f=>(f.offset,(szT C f.type).getD 0))[x]?)=z5z C fs:=funext hplace
    unfold Instr.build
    simp only[Sem.run_bind,hzr,Result.andThen,run_underlying hu]
    rw[show (fs.mapM fun f=>(do pure (f.offset,← sizeOf f.type):Sem (Nat×Nat)))=(List.toArray <$> fs.toList.mapM fun f=>(do pure (f.offset,← sizeOf f.type):Sem (Nat×Nat))) from by rw[Array.mapM_eq_mapM_toList]]
    simp only[Sem.run_map,hmap,Result.andThen]
    rw[show (List.map (fun f=>(f.offset,(szT C f.type).getD 0)) fs.toList).toArray=(fs.map fun f=>(f.offset,(szT C f.type).getD 0)) from by apply Array.ext';simp]
    rw[hfn,h1]
    rfl
   ·cases h
  ·rename_i len e hu
   split at h
   ·rename_i n hn
    obtain ⟨cells,hf,rfl⟩:=Option.map_eq_some_iff.1 h
    obtain ⟨cs',h1,h2⟩:=y0g (fun i=>some (i*n,n)) parts vals.toList z zv.cells cells hvl (by simpa using hl) hv' hf
    refine ⟨.agg cs',.agg _ _ h2.1 h2.2,?_⟩
    unfold Instr.build
    simp[hzr,run_underlying hu,run_sizeOf (show (C.P.info? e).map (·.size)=some n from hn),h1]
   ·cases h
  ·cases h
 ·cases h

theorem nat?_run {x:AV}{j:Nat}(h:x.nat?=some j){u:Value}(hu:VR G w x u):∃ k,u=.int k (j:Int):=by
 obtain ⟨k,rfl⟩:=nat?_inv h
 exact ⟨k,hu.int_inv⟩

theorem z7s {ad:Addr}(h:ad.spot=none):ad=⟨ad.block,ad.off,none⟩:=by cases ad;simp at h;simp[h]

theorem y4t {t:TypeId}{x i a:AV}(h:z7b C t x i=some a){u iv:Value}(hu:VR G w x u)(hi:VR G w i iv) :
  ∃ v,VR G w a v∧(Instr.indexAt t u iv).run C.P w=.ok v w:=by
 unfold z7b at h
 split at h
 ·rename_i j hj
  obtain ⟨k,rfl⟩:=nat?_run hj hi
  split at h
  ·rename_i len e ht
   split at h
   ·rename_i n hn
    have hsz:=run_sizeOf (show (C.P.info? e).map (·.size)=some n from hn) w
    split at h
    ·rename_i hlt
     have h1:¬ ((len:Int)≤(j:Int)):=by omega
     split at h<;>cases h
     ·rename_i hh off
      cases hu with
      | ptr _ _ b hb =>
       refine ⟨_,.ptr hh (off+j*n) b hb,?_⟩
       simp[Instr.indexAt,asIntOf,run_underlying ht,Instr.sureAddr,hsz,Addr.add_lit,hlt]
     ·rename_i l
      cases hu with
      | vp _ ad f hf hh =>
       have hadd:ad.add (j*n)=⟨ad.block,ad.off+j*n,none⟩:=by rw[z7s hh.1,Addr.add_lit]
       rcases Nat.lt_or_ge (j*n) l.length with hlt2 | hge
       ·refine ⟨.pointer (some (ad.add (j*n))),?_,?_⟩
        ·rw[hadd]
         refine .vp _ _ (fun i=>f (j*n+i)) (fun i y hy=>hf _ y (by simpa[List.getElem?_drop] using hy)) ?_
         have:=hh.drop (k:=j*n) (by omega)
         simpa using this
        ·simp[Instr.indexAt,asIntOf,run_underlying ht,Instr.sureAddr,hsz,hlt]
       ·refine ⟨.pointer (some (ad.add (j*n))),?_,?_⟩
        ·rw[hadd]
         have:l.drop (j*n)=[]:=List.drop_eq_nil_of_le hge
         rw[this]
         exact .vp [] _ (fun _=>undef) (by simp) ⟨rfl,by simp⟩
        ·simp[Instr.indexAt,asIntOf,run_underlying ht,Instr.sureAddr,hsz,hlt]
    ·cases h
   ·cases h
  ·rename_i e ht
   split at h
   ·rename_i n hn
    have hsz:=run_sizeOf (show (C.P.info? e).map (·.size)=some n from hn) w
    split at h
    ·rename_i l m tk
     split at h<;>cases h
     rename_i hc
     obtain ⟨hjm,hml,hn0⟩:=hc
     cases hu with
     | vs _ _ _ A c f hcap hf hh htk =>
      have hle:j*n < l.length:=by rw[← hml];exact Nat.mul_lt_mul_of_pos_right hjm hn0
      rcases hh with rfl | ⟨ad,rfl,hh⟩
      ·simp at hle
      ·have hadd:ad.add (j*n)=⟨ad.block,ad.off+j*n,none⟩:=by rw[z7s hh.1,Addr.add_lit]
       refine ⟨.pointer (some (ad.add (j*n))),?_,?_⟩
       ·rw[hadd]
        refine .vp _ _ (fun i=>f (j*n+i)) (fun i y hy=>hf _ y (by simpa[List.getElem?_drop] using hy)) ?_
        have:=hh.drop (k:=j*n) (by omega)
        simpa using this
       ·simp[Instr.indexAt,asIntOf,run_underlying ht,hsz,hjm]
    ·rename_i hh off m cc
     split at h<;>cases h
     rename_i hjm
     cases hu with
     | row _ _ _ _ b hb hc =>
      refine ⟨_,.ptr hh (off+j*n) b hb,?_⟩
      simp[Instr.indexAt,asIntOf,run_underlying ht,hsz,hjm,Addr.add_lit]
    ·cases h
   ·cases h
  ·cases h
 ·cases h

theorem y8x {t:TypeId}{x i a:AV}(h:y2q C t x i=some a){u iv:Value}(hu:VR G w x u)(hi:VR G w i iv) :
  ∃ v,VR G w a v∧(Instr.index t u iv).run C.P w=.ok v w:=by
 unfold y2q at h
 split at h
 ·rename_i j hj
  obtain ⟨k,rfl⟩:=nat?_run hj hi
  split at h
  ·rename_i len e ht
   split at h
   ·rename_i n hn
    have hsz:=run_sizeOf (show (C.P.info? e).map (·.size)=some n from hn) w
    split at h
    ·split at h
     ·rename_i hlt
      cases hu with
      | agg _ cs hs hl =>
       obtain ⟨v,hv,hr⟩:=y30 h cs hs hl
       exact ⟨v,hv,by simp[Instr.index,asIntOf,run_underlying ht,hsz,hlt,hr]⟩
     ·cases h
    ·cases h
   ·cases h
  ·rename_i ht
   split at h
   ·rename_i s
    split at h<;>cases h
    rename_i b hb
    cases hu.str_inv
    refine ⟨_,.int _ _,?_⟩
    have hlt:j < s.length:=by
     rcases Nat.lt_or_ge j s.length with h1 | h1
     ·exact h1
     ·simp[h1]at hb
    have hb':(⟨s.toArray⟩:ByteArray)[j]?=some b:=by
     have h2:j < (⟨s.toArray⟩:ByteArray).size:=by simpa[ByteArray.size] using hlt
     rw[getElem?_pos (⟨s.toArray⟩:ByteArray) j h2]
     congr 1
     simp[hlt]at hb
     rw[← hb]
     rfl
    simp[Instr.index,asIntOf,run_underlying ht,hb']
   ·cases h
  ·cases h
 ·cases h
end
end Go.Ev
namespace Go.Ev
open Go.RowKit

section
variable {C:Cx}{G:Gh}{w:World}{S:St}

def OR (G:Gh)(w:World):Option AV→Option Value→Prop
 | none,none=>True
 | some a,some v=>VR G w a v
 | _,_=>False

theorem run_sliceBound {P:Program}{k:IntKind}{i y:Nat}{code:BoundsCode}(h:i≤y):(Instr.sliceBound (.int k (i:Int)) y code).run P w=.ok i w:=by
 have h1:(i:Int)≤(y:Int):=by omega
 simp[Instr.sliceBound,asIntOf,h1]

theorem z5g {isSlice:Bool}{len cap l h:Nat}{lo hi:Option AV}{lov hiv:Option Value}(hlo:OR G w lo lov)(hhi:OR G w hi hiv)(h1:z3e 0 lo=some l)(h2:z3e len hi=some h)
  (hle:l≤h) (hc:h≤cap):(Instr.sliceBounds isSlice len cap lov hiv none).run C.P w=.ok (l,h,cap) w:=by
 have e2:∃ m:Sem Nat,(match hiv with | some v=>Instr.sliceBound v cap (if isSlice then .sliceAcap else .sliceAlen) | none=>pure len)=m∧m.run C.P w=.ok h w:=by
  refine ⟨_,rfl,?_⟩
  cases hi with
  | none=>cases hiv with
   | none=>simp[z3e]at h2;subst h2;rfl
   | some v=>exact hhi.elim
  | some a=>cases hiv with
   | none=>exact hhi.elim
   | some v =>
    obtain ⟨k,rfl⟩:=nat?_run (show a.nat?=some h from h2) hhi
    exact run_sliceBound hc
 have e1:∃ m:Sem Nat,(match lov with | some v=>Instr.sliceBound v h (if (none:Option Value).isSome then .slice3C else .sliceB) | none=>pure 0)=m∧m.run C.P w=.ok l w:=by
  refine ⟨_,rfl,?_⟩
  cases lo with
  | none=>cases lov with
   | none=>simp[z3e]at h1;subst h1;rfl
   | some v=>exact hlo.elim
  | some a=>cases lov with
   | none=>exact hlo.elim
   | some v =>
    obtain ⟨k,rfl⟩:=nat?_run (show a.nat?=some l from h1) hlo
    exact run_sliceBound hle
 obtain ⟨m2,g2,r2⟩:=e2
 obtain ⟨m1,g1,r1⟩:=e1
 unfold Instr.sliceBounds
 cases hiv<;>cases lov<;>simp_all

theorem y4i {isSlice:Bool}{len cap l h m:Nat}{lo hi:Option AV}{a:AV}{lov hiv:Option Value}{mv:Value}(hlo:OR G w lo lov)(hhi:OR G w hi hiv)(hm:VR G w a mv)(h1:z3e 0 lo=some l)(h2:z3e len hi=some h)
  (h3:a.nat?=some m) (hs:hi.isSome=true) (hle:l≤h) (hc:h≤m) (hmc:m≤cap):(Instr.sliceBounds isSlice len cap lov hiv (some mv)).run C.P w=.ok (l,h,m) w:=by
 obtain ⟨k3,rfl⟩:=nat?_run h3 hm
 cases hi with
 | none=>cases hs
 | some b=>cases hiv with
  | none=>exact hhi.elim
  | some v =>
   obtain ⟨k,rfl⟩:=nat?_run (show b.nat?=some h from h2) hhi
   cases lo with
   | none=>cases lov with
    | none=>simp[z3e]at h1;subst h1;simp[Instr.sliceBounds,run_sliceBound hc,run_sliceBound hmc]
    | some v=>exact hlo.elim
   | some c=>cases lov with
    | none=>exact hlo.elim
    | some v =>
     obtain ⟨k,rfl⟩:=nat?_run (show c.nat?=some l from h1) hlo
     simp[Instr.sliceBounds,run_sliceBound hc,run_sliceBound hmc,run_sliceBound hle]

theorem x2a {cs:List AV}{A:Option Addr}{f:Nat→Value}(hf:∀ i a,cs[i]?=some a→VR G w a (f i))(hh:cs=[]∨∃ ad,A=some ad∧Held G w ad cs.length f)
  {l h z m:Nat} (hlm:l≤m) (hle:l≤h) (hm:h≤m) (t:Tok) (ht:TokR G (if m=l then A else A.map (·.add (l*z))) (h-l) (m-l) t) :
  VR G w (.vs ((cs.drop (l*z)).take ((h-l)*z)) (h-l) t) (.slice (if m=l then A else A.map (·.add (l*z))) (h-l) (m-l)):=by
 refine .vs _ _ _ _ _ (fun i=>f (l*z+i)) (by omega) (fun i a ha=>?_) ?_ ht
 ·rw[List.getElem?_take]at ha
  split at ha
  ·rw[List.getElem?_drop]at ha;exact hf _ _ ha
  ·cases ha
 ·by_cases hnil:(cs.drop (l*z)).take ((h-l)*z)=[]
  ·exact .inl hnil
  ·right
   have hlen:((cs.drop (l*z)).take ((h-l)*z)).length≠0:=fun e=>hnil (List.eq_nil_of_length_eq_zero e)
   simp at hlen
   have hpos:l < h:=by
    rcases Nat.lt_or_ge l h with h1 | h1
    ·exact h1
    ·exfalso;have:h-l=0:=by omega
     simp[this]at hlen
   rcases hh with rfl | ⟨ad,rfl,hh⟩
   ·simp at hlen
   ·rw[if_neg (by omega)]
    refine ⟨ad.add (l*z),rfl,?_⟩
    have hadd:ad.add (l*z)=⟨ad.block,ad.off+l*z,none⟩:=by rw[z7s hh.1,Addr.add_lit]
    rw[hadd]
    exact (hh.drop (k:=l*z) (by omega)).le (by simp;omega)

theorem y72 {t:TypeId}{x a:AV}{lo hi mx:Option AV}(h:z6u C t x lo hi mx=some a){u:Value}{lov hiv mxv:Option Value}(hu:VR G w x u)(hlo:OR G w lo lov)(hhi:OR G w hi hiv)(hmx:OR G w mx mxv) :
  ∃ v,VR G w a v∧(Instr.sliceAt t u lov hiv mxv).run C.P w=.ok v w:=by
 unfold z6u at h
 split at h
 ·rename_i ht
  split at h
  ·rename_i s
   cases hu.str_inv
   split at h
   ·cases h
   ·cases mxv with
    | some v=>exact hmx.elim
    | none =>
     split at h
     ·rename_i l hh h1 h2
      split at h<;>cases h
      rename_i hc
      have e1:(⟨s.toArray⟩:ByteArray).size=s.length:=by simp[ByteArray.size]
      have hb:=z5g (C:=C) (isSlice:=false) (len:=s.length) (cap:=s.length) hlo hhi h1 h2 hc.1 hc.2
      refine ⟨.string ((⟨s.toArray⟩:ByteArray).extract l hh),?_,?_⟩
      ·have:(⟨s.toArray⟩:ByteArray).extract l hh=⟨((s.drop l).take (hh-l)).toArray⟩:=by
        apply ByteArray.ext
        simp
       rw[this]
       exact .str _
      ·simp[Instr.sliceAt,run_underlying ht,Instr.slice,e1,hb]
     ·cases h
  ·cases h
 ·rename_i e ht
  split at h
  ·rename_i z hz
   have hsz:=run_sizeOf (show (C.P.info? e).map (·.size)=some z from hz) w
   split at h
   ·rename_i cs n tk
    cases hu with
    | vs _ _ _ A c f hcap hf hh htk =>
     split at h
     ·rename_i l hh2 h1 h2
      split at h
      ·cases mxv with
       | some v=>exact hmx.elim
       | none =>
        split at h<;>cases h
        rename_i hc
        have hb:=z5g (C:=C) (isSlice:=true) (len:=n) (cap:=c) hlo hhi h1 h2 hc.1 (by omega)
        refine ⟨_,x2a hf hh (m:=c) (by omega) hc.1 (by omega) _ ?_,?_⟩
        ·by_cases hc2:l=0∧hh2=n
         ·rw[if_pos hc2]
          obtain ⟨rfl,rfl⟩:=hc2
          have:(if c=0 then A else Option.map (fun x=>x.add (0*z)) A)=A:=by
           split
           ·rfl
           ·cases A<;>simp[Addr.add]
          rw[this]
          exact htk
         ·rw[if_neg hc2];trivial
        ·simp[Instr.sliceAt,run_underlying ht,Instr.slice,hb,hsz]
      ·rename_i mm
       cases mxv with
       | none=>exact hmx.elim
       | some mv =>
        split at h
        ·rename_i m _ hm
         split at h<;>cases h
         rename_i hc
         have hb:=y4i (C:=C) (isSlice:=true) (len:=n) (cap:=c) hlo hhi hmx h1 h2 hm rfl hc.1 hc.2.1 (by omega)
         refine ⟨_,x2a hf hh (m:=m) (by omega) hc.1 hc.2.1 _ ?_,?_⟩
         ·by_cases hlm:l=m
          ·rw[if_pos hlm]
           exact ⟨by omega,by omega⟩
          ·rw[if_neg hlm];trivial
         ·simp[Instr.sliceAt,run_underlying ht,Instr.slice,hb,hsz]
        ·cases h
     ·cases h
   ·rename_i hh off n c
    cases hu with
    | row _ _ _ _ b hb hcn =>
     split at h
     ·cases mxv with
      | some v=>exact hmx.elim
      | none =>
       split at h
       ·rename_i l hh2 h1 h2
        split at h<;>cases h
        rename_i hc
        have hbd:=z5g (C:=C) (isSlice:=true) (len:=n) (cap:=c) hlo hhi h1 h2 hc.1 hc.2
        refine ⟨_,.row hh (if c=l then off else off+l*z) (hh2-l) (c-l) b hb (by omega),?_⟩
        simp[Instr.sliceAt,run_underlying ht,Instr.slice,hbd,hsz]
        split<;>simp[Addr.add_lit]
       ·cases h
     ·cases h
   ·cases h
  ·cases h
 ·rename_i n e ht
  split at h
  ·rename_i z hz
   have hsz:=run_sizeOf (show (C.P.info? e).map (·.size)=some z from hz) w
   split at h
   ·rename_i hh off
    cases hu with
    | ptr _ _ b hb =>
     split at h
     ·cases mxv with
      | some v=>exact hmx.elim
      | none =>
       split at h
       ·rename_i l hh2 h1 h2
        split at h<;>cases h
        rename_i hc
        have hbd:=z5g (C:=C) (isSlice:=false) (len:=n) (cap:=n) hlo hhi h1 h2 hc.1 hc.2
        refine ⟨_,.row hh (if n=l then off else off+l*z) (hh2-l) (n-l) b hb (by omega),?_⟩
        simp[Instr.sliceAt,run_underlying ht,Instr.sureAddr,hbd,hsz]
        split<;>simp[Addr.add_lit]
       ·cases h
     ·cases h
   ·cases h
  ·cases h
 ·cases h

theorem y1q:∀ {l:List AV} {bs:List UInt8},y0z l=some bs→∃ xs:List Int,l=xs.map (AV.int .u8)∧bs=xs.map fun n=>UInt8.ofNat n.toNat
 | [],bs,h=>by simp[y0z]at h;subst h;exact ⟨[],rfl,rfl⟩
 | a::l,bs,h=>by
  unfold y0z at h
  split at h<;>try cases h
  ·rename_i hq;cases hq
  ·rename_i n l' hq
   cases hq
   split at h<;>cases h
   rename_i r hr
   obtain ⟨xs,rfl,rfl⟩:=y1q hr
   exact ⟨n::xs,rfl,rfl⟩

theorem z52 {w:World}{b:Nat}{cs:Array Value}{t:TypeId}{fz:Nat×Nat}(h:w.heap[b]?=some (.cells cs t fz)):w.shape? b=some (t,cs.size):=by
 simp[World.shape?,h]
theorem y6q (hI:Inv G w S){src dst:TypeId}{x a:AV}(h:y1n C S src dst x=some a){u:Value}(hu:VR G w x u):∃ v,VR G w a v∧(convert src dst u).run C.P w=.ok v w:=by
 unfold y1n at h
 split at h
 ·rename_i k1 hs
  split at h
  ·rename_i k2 hd
   split at h<;>cases h
   cases hu.int_inv
   exact ⟨_,.int _ _,by simp[convert,run_underlying hs,run_underlying hd,Conv.intToInt]⟩
  ·cases h
 ·rename_i hs
  split at h
  ·rename_i hd
   split at h<;>cases h
   cases hu.str_inv
   exact ⟨_,.str _,by simp[convert,run_underlying hs,run_underlying hd]⟩
  ·cases h
 ·rename_i e hs
  split at h
  ·rename_i hd
   split at h
   ·rename_i he
    split at h
    ·rename_i l n tk
     split at h
     ·rename_i hl
      obtain ⟨bs,hb,rfl⟩:=Option.map_eq_some_iff.1 h
      obtain ⟨xs,rfl,rfl⟩:=y1q hb
      cases hu with
      | vs _ _ _ A c f hcap hf hh htk =>
       refine ⟨.string (strOfNums xs),.str _,?_⟩
       rcases hh with hnil | ⟨ad,rfl,hh⟩
       ·simp at hnil
        subst hnil
        simp at hl
        subst hl
        cases A with
        | none=>exact run_convert_bytes_nil w src e hs he 0 c dst hd
        | some ad =>
         have:=run_bytesToString (P:=C.P) w ad 0 c [] (by simp[loadCells,loadCellsFrom])
         rw[run_convert_bytes_string w src dst e _ 0 c hs he hd,this]
         simp[strOfNums,ByteArray.empty,ByteArray.emptyWithCapacity]
         rfl
       ·rw[z7s hh.1]
        refine run_convert_bytes_arg w src e hs he ad.block ad.off n c xs (by simpa using hl) (fun i hi=>?_) dst hd
        have hi':i < xs.length:=by simp at hl;omega
        rw[(hh.2 i (by simpa using hi')).2]
        have:=hf i (.int .u8 (xs[i])) (by simp[hi'])
        rw[this.int_inv]
        simp[List.getD,List.getElem?_eq_getElem hi']
     ·cases h
    ·rename_i hh off n c
     split at h
     ·rename_i l t' hblk
      split at h
      ·rename_i hle
       obtain ⟨bs,hb,rfl⟩:=Option.map_eq_some_iff.1 h
       obtain ⟨xs,hxs,rfl⟩:=y1q hb
       cases hu with
       | row _ _ _ _ b hσ hcn =>
        obtain ⟨b',cs,h1,h2,h3,h4,h5⟩:=hI.cellsAt hblk
        rw[hσ]at h1;cases h1
        refine ⟨.string (strOfNums xs),.str _,?_⟩
        have hlen:xs.length=n:=by
         have:=congrArg List.length hxs
         simp at this;omega
        refine run_convert_bytes_arg w src e hs he b off n c xs hlen (fun i hi=>?_) dst hd
        have hi':i < xs.length:=by omega
        have hget:l[off+i]?=some (.int .u8 xs[i]):=by
         have:=congrArg (fun q=>q[i]?) hxs
         simp only[List.getElem?_take,if_pos hi,List.getElem?_drop,List.getElem?_map,List.getElem?_eq_getElem hi',Option.map_some]at this
         exact this
        rw[h5 (off+i) (by omega),(h4 _ _ hget).int_inv]
        simp[List.getD,List.getElem?_eq_getElem hi']
      ·cases h
     ·cases h
    ·cases h
   ·cases h
  ·cases h
 ·rename_i t hs
  split at h<;>try cases h
  rename_i hd
  split at h<;>try cases h
  rename_i hh off
  split at h<;>try cases h
  rename_i l bt n hblk hsz
  split at h<;>cases h
  rename_i hlt
  cases hu with
  | ptr _ _ b hσ =>
   obtain ⟨b',cs,h1,h2,h3,h4,h5⟩:=hI.cellsAt hblk
   rw[hσ]at h1;cases h1
   obtain ⟨j,hj,hjs⟩:=Option.map_eq_some_iff.1 (show (C.P.info? t).map (·.size)=some (n+1) from hsz)
   exact ⟨_,.ptr _ _ b hσ,Lib.run_to_unsafe (P:=C.P) w ⟨b,off,none⟩ hs hd hj (by rw[hjs];omega) (z52 h2) (by rw[h3];exact hlt)⟩
 ·rename_i hs
  split at h<;>try cases h
  rename_i u' hd
  split at h<;>try cases h
  rename_i hh off
  split at h<;>try cases h
  rename_i l bt n hblk hsz
  split at h<;>cases h
  rename_i hlies
  cases hu with
  | ptr _ _ b hσ =>
   obtain ⟨b',cs,h1,h2,h3,h4,h5⟩:=hI.cellsAt hblk
   rw[hσ]at h1;cases h1
   obtain ⟨j,hj,hjs⟩:=Option.map_eq_some_iff.1 (show (C.P.info? u').map (·.size)=some n from hsz)
   exact ⟨_,.ptr _ _ b hσ,Lib.run_from_unsafe (P:=C.P) w ⟨b,off,none⟩ hs hd hj (z52 h2) (by rw[h3];exact hlies)⟩
 ·cases h
end
end Go.Ev
namespace Go.Ev
open Go.RowKit

section
variable {C:Cx}{G:Gh}{w:World}{S:St}

theorem x03 (hI:Inv G w S){t:TypeId}{x a:AV}(h:x04 C S t x=some a){u:Value}(hu:VR G w x u)(ty:TypeId):∃ v,VR G w a v∧(Builtin.len_ #[t] ty #[u]).run C.P w=.ok v w:=by
 unfold x04 at h
 split at h
 ·rename_i ht
  split at h<;>cases h
  cases hu.str_inv
  rename_i s
  have e1:(⟨s.toArray⟩:ByteArray).size=s.length:=by simp[ByteArray.size]
  exact ⟨_,.int _ _,by simp[Builtin.len_,run_underlying ht,goInt,e1]⟩
 ·rename_i n e ht
  cases h
  exact ⟨_,.int _ _,by simp[Builtin.len_,run_underlying ht,goInt]⟩
 ·rename_i e ht
  split at h<;>cases h
  ·cases hu with
   | vs _ n _ A c f _ _ _ _=>exact ⟨_,.int _ _,by simp[Builtin.len_,run_underlying ht,goInt]⟩
  ·cases hu with
   | row _ _ n c b _ _=>exact ⟨_,.int _ _,by simp[Builtin.len_,run_underlying ht,goInt]⟩
 ·rename_i k e ht
  split at h
  ·rename_i hh
   split at h<;>cases h
   rename_i es hs
   cases hu with
   | mp _ b hb =>
    obtain ⟨b',o,h1,h2,h3⟩:=hI.blk _ _ hs
    rw[hb]at h1;cases h1
    cases h3 with
    | map _ ms clock p hp hsz0 _ hm =>
     have hsz:ms.size=es.length:=by have:=hp.length_eq;simp at this;omega
     refine ⟨_,.int _ _,?_⟩
     simp[Builtin.len_,run_underlying ht,goInt,getObj,Sem.run,h2,hsz]
  ·cases h
 ·cases h

theorem x1r {t:TypeId}{x a:AV}(h:x4x C t x=some a){u:Value}(hu:VR G w x u)(ty:TypeId):∃ v,VR G w a v∧(Builtin.cap_ #[t] ty #[u]).run C.P w=.ok v w:=by
 unfold x4x at h
 split at h<;>try cases h
 rename_i e ht
 split at h<;>cases h
 ·cases hu with
  | vs _ n _ A c f _ _ _ hz =>
   obtain ⟨rfl,rfl⟩:=hz
   exact ⟨_,.int _ _,by simp[Builtin.cap_,run_underlying ht,goInt]⟩
 ·cases hu with
  | row _ _ n c b _ _=>exact ⟨_,.int _ _,by simp[Builtin.cap_,run_underlying ht,goInt]⟩

theorem x0z {xs:List AV}{a:AV}(h:x4h xs=some a){vs:List Value}(hv:VRs G w xs vs)(ts:Array TypeId)(ty:TypeId):∃ v,VR G w a v∧(Builtin.max_ ts ty vs.toArray).run C.P w=.ok v w:=by
 unfold x4h at h
 split at h
 ·rename_i k p k' q
  split at h<;>cases h
  rename_i hk;subst hk
  obtain ⟨hl,hg⟩:=hv
  obtain ⟨v0,h0,r0⟩:=hg 0 _ rfl
  obtain ⟨v1,h1,r1⟩:=hg 1 _ rfl
  cases r0.int_inv;cases r1.int_inv
  match vs,hl,h0,h1 with
  | [_,_],_,h0,h1 =>
   simp at h0 h1
   subst h0;subst h1
   refine ⟨_,.int _ _,?_⟩
   simp[Builtin.max_,Builtin.max2]
 ·cases h
theorem x0y {xs:List AV}{a:AV}(h:x4g xs=some a){vs:List Value}(hv:VRs G w xs vs)(ts:Array TypeId)(ty:TypeId):∃ v,VR G w a v∧(Builtin.min_ ts ty vs.toArray).run C.P w=.ok v w:=by
 unfold x4g at h
 split at h
 ·rename_i k p k' q
  split at h<;>cases h
  rename_i hk;subst hk
  obtain ⟨hl,hg⟩:=hv
  obtain ⟨v0,h0,r0⟩:=hg 0 _ rfl
  obtain ⟨v1,h1,r1⟩:=hg 1 _ rfl
  cases r0.int_inv;cases r1.int_inv
  match vs,hl,h0,h1 with
  | [_,_],_,h0,h1 =>
   simp at h0 h1
   subst h0;subst h1
   refine ⟨_,.int _ _,?_⟩
   simp[Builtin.min_,Builtin.min2]
 ·cases h

theorem y3u {at' xt:TypeId}{ok:Bool}{x a:AV}(h:z94 C at' ok x=some a){u:Value}(hu:VR G w x u):∃ v,VR G w a v∧(Instr.typeAssert u xt at' ok).run C.P w=.ok v w:=by
 unfold z94 at h
 split at h
 ·cases h
 ·cases h
 ·rename_i d n1 hd
  split at h
  ·rename_i t y
   split at h<;>cases h
   rename_i ht;subst ht
   cases hu with
   | ifc _ _ v hv =>
    have hm:(match d,(Value.iface t v) with
     | .interface _,.nilIface=>(none:Option Nat)
     | .interface _,.iface _ _=>none
     | _,_=>some 0)=some 0:=by cases d<;>first | rfl | exact absurd rfl (n1 _)
    cases ok with
    | true =>
     refine ⟨.tuple #[v,.bool true],.tup _ _ rfl (fun i z hz=>?_),?_⟩
     ·match i,hz with
      | 0,hz=>simp at hz;subst hz;exact hv
      | 1,hz=>simp at hz;subst hz;exact .bool _
     ·simp only[Instr.typeAssert,Sem.run_bind,run_underlying hd,Result.andThen]
      cases d<;>first | simp | exact absurd rfl (n1 _)
    | false =>
     refine ⟨v,hv,?_⟩
     simp only[Instr.typeAssert,Sem.run_bind,run_underlying hd,Result.andThen]
     cases d<;>first | simp | exact absurd rfl (n1 _)
  ·cases h

theorem y9k {t:TypeId}{z:AV}(h:zeroV C t=some z):∃ v,VR G w z v∧(zeroValue t).run C.P w=.ok v w:=by
 unfold zeroV at h
 split at h<;>try cases h
 rename_i i hi
 split at h<;>cases h
 ·rename_i cs hz
  refine ⟨.agg cs,.agg _ _ (by simp) (fun j x hx=>?_),by simp[zeroValue,typeInfo,hi,hz]⟩
  simp only[List.getElem?_map,Option.map_eq_some_iff]at hx
  obtain ⟨y,hy,rfl⟩:=hx
  have hlt:j < cs.size:=by
   rcases Nat.lt_or_ge j cs.size with h1 | h1
   ·exact h1
   ·simp[h1]at hy
  simp[hlt]at hy
  subst hy
  simp only[Array.getD,hlt,dif_pos]
  exact .ofVal _ _ _
 ·rename_i v n1 hz
  exact ⟨v,.ofVal _ _ _,by simp[zeroValue,typeInfo,hi,hz]⟩

theorem y0y {e:Bool}{t:TypeId}{d:TypeDesc}{k:AV}{kv:Value}(hd:C.P.underlying t=some d)(hk:z14 d k=true)(hr:VR G w k kv):(Instr.checkKey e 10000 t kv).run C.P w=.ok () w:=by
 obtain ⟨n,hn⟩:∃ n,10000=n+1:=⟨9999,rfl⟩
 rw[hn]
 unfold z14 at hk
 split at hk<;>simp at hk
 ·cases hr;simp[Instr.checkKey,run_underlying hd]
 ·cases hr;simp[Instr.checkKey,run_underlying hd]
 ·cases hr;simp[Instr.checkKey,run_underlying hd]

theorem x6n (s s':List UInt8):((⟨s.toArray⟩:ByteArray) == ⟨s'.toArray⟩)=(s == s'):=by
 have:((⟨s.toArray⟩:ByteArray) == ⟨s'.toArray⟩)=(s.toArray == s'.toArray):=rfl
 rw[this];simp

theorem VR.tup2 {a b:AV}{u v:Value}(h1:VR G w a u)(h2:VR G w b v):VR G w (.tup [a,b]) (.tuple #[u,v]):=by
 refine .tup _ _ rfl fun i z hz=>?_
 match i,hz with
 | 0,hz=>simp at hz;subst hz;exact h1
 | 1,hz=>simp at hz;subst hz;exact h2
 | i+2,hz=>simp at hz

theorem y7c {d:TypeDesc}{k k':AV}{kv kv':Value}(hk:z14 d k=true)(hkk:z09 k k'=true)(hr:VR G w k kv)(hr':VR G w k' kv'):Instr.sameNow d kv kv'=z2y k k':=by
 cases k<;>cases k'<;>simp[z09]at hkk
 ·subst hkk
  cases d<;>simp[z14]at hk
  cases hr;cases hr';simp[Instr.sameNow,z2y]
 ·cases d<;>simp[z14]at hk
  cases hr;cases hr';simp[Instr.sameNow,z2y]
 ·cases d<;>simp[z14]at hk
  cases hr;cases hr';simp[Instr.sameNow,z2y,x6n]

theorem y4c {k k':AV}(hkk:z09 k k'=true):∃ b,z2y k k'=some b:=by
 cases k<;>cases k'<;>simp[z09]at hkk<;>simp[z2y,hkk]

theorem y5q {k k':AV}{kv kv':Value}{b:Bool}(hkk:z09 k k'=true)(hc:z2y k k'=some b)(h:VR G w k kv)(h':VR G w k' kv'):(kv'=kv)=(b=true):=by
 cases k<;>cases k'<;>simp[z09]at hkk
 ·subst hkk
  cases h;cases h'
  simp[z2y]at hc
  subst hc
  simp
  exact eq_comm
 ·cases h;cases h'
  simp[z2y]at hc
  subst hc
  simp
  exact eq_comm
 ·cases h;cases h'
  simp[z2y]at hc
  subst hc
  simp
  exact eq_comm
theorem y0f {d:TypeDesc}{k:AV}{kv:Value}(hk:z14 d k=true)(hr:VR G w k kv):∀ (ms:List MapEntry) (n:Nat),(∀ x∈ms,∃ k',z09 k k'=true∧VR G w k' x.key) →
  (∃ i e,Instr.findNow d kv ms n=some (some (n+i,e.val))∧ms[i]?=some e∧e.key=kv)∨(Instr.findNow d kv ms n=some none∧∀ x∈ms,x.key≠kv)
 | [],n,_=>.inr ⟨rfl,by simp⟩
 | m::ms,n,h=>by
  obtain ⟨k',h1,h2⟩:=h m List.mem_cons_self
  have hs:=y7c hk h1 hr h2
  obtain ⟨b,hb⟩:=y4c h1
  have hkey:=y5q h1 hb hr h2
  simp only[Instr.findNow,hs,hb]
  cases b with
  | true=>exact .inl ⟨0,m,by simp,rfl,hkey.mpr rfl⟩
  | false =>
   simp only
   rcases y0f hk hr ms (n+1) (fun x hx=>h x (List.mem_cons_of_mem _ hx)) with ⟨i,e,g1,g2,g3⟩ | ⟨g1,g2⟩
   ·exact .inl ⟨i+1,e,by rw[g1];congr 3;omega,by simpa using g2,g3⟩
   ·refine .inr ⟨g1,fun x hx=>?_⟩
    rcases List.mem_cons.1 hx with rfl | hx
    ·intro e;rw[hkey]at e;cases e
    ·exact g2 x hx
theorem y4v {k:AV}{kv:Value}(hr:VR G w k kv):∀ (es:List (AV×AV)) (p:List MapEntry),p.length=es.length →
  (∀ (i:Nat) (k v:AV),es[i]?=some (k,v)→∃ m:MapEntry,p[i]?=some m∧VR G w k m.key∧VR G w v m.val)→es.all (fun x=>z09 k x.1)=true →
  match z4t k es with
  | some a=>∃ i m,p[i]?=some m∧m.key=kv∧VR G w a m.val∧i < es.length∧(∀ v,z08 k v es=es.set i (k,v))
  | none=>∀ x∈p,x.key≠kv
 | [],p,hl,_,_=>by
  have:p=[]:=by cases p with | nil=>rfl | cons m ms=>simp at hl
  subst this;simp[z4t]
 | (k',v')::es,p,hl,hm,hall=>by
  cases p with
  | nil=>simp at hl
  | cons m p =>
   obtain ⟨m',h1,h2,h3⟩:=hm 0 k' v' rfl
   simp at h1;subst h1
   simp only[List.all_cons,Bool.and_eq_true]at hall
   obtain ⟨b,hb⟩:=y4c hall.1
   have hkey:=y5q hall.1 hb hr h2
   have ih:=y4v hr es p (by simpa using hl) (fun i k v hi=>by simpa using hm (i+1) k v (by simpa using hi)) hall.2
   simp only[z4t,hb,z08]
   cases b with
   | true=>exact ⟨0,m,rfl,hkey.mpr rfl,h3,by simp,fun v=>by simp⟩
   | false =>
    simp only[Option.some.injEq,Bool.false_eq_true,if_false]
    split
    ·rename_i a ha
     rw[ha]at ih
     obtain ⟨i,m2,g1,g2,g3,g4,g5⟩:=ih
     exact ⟨i+1,m2,by simpa using g1,g2,g3,by simp;omega,fun v=>by rw[g5];rfl⟩
    ·rename_i ha
     rw[ha]at ih
     intro x hx
     rcases List.mem_cons.1 hx with rfl | hx
     ·intro e;rw[hkey]at e;cases e
     ·exact ih x hx
theorem y39 {k:AV}{es:List (AV×AV)}{p:List MapEntry}{ms:Array MapEntry}(hp:p.Perm ms.toList)(hl:p.length=es.length)
  (hm:∀ (i:Nat) (k v:AV),es[i]?=some (k,v)→∃ m:MapEntry,p[i]?=some m∧VR G w k m.key∧VR G w v m.val) (hall:es.all (fun x=>z09 k x.1)=true):∀ x∈ms.toList,∃ k',z09 k k'=true∧VR G w k' x.key:=by
 intro x hx
 obtain ⟨i,hi⟩:=List.getElem?_of_mem (hp.mem_iff.2 hx)
 have hlt:i < es.length:=by rw[← hl];exact (List.getElem?_eq_some_iff.1 hi).1
 obtain ⟨m,h1,h2,_⟩:=hm i es[i].1 es[i].2 (List.getElem?_eq_getElem hlt)
 rw[hi]at h1;cases h1
 exact ⟨_,List.all_eq_true.1 hall _ (List.getElem_mem hlt),h2⟩
theorem y2b {ms:Array MapEntry}{clock:Nat}(h:MapKept.Stamped ms clock){x y:MapEntry}(hx:x∈ms.toList)(hy:y∈ms.toList)(he:x.key=y.key):x=y:=by
 obtain ⟨i,hi⟩:=List.getElem?_of_mem hx
 obtain ⟨j,hj⟩:=List.getElem?_of_mem hy
 have hn:=h.2.2
 have h1:(ms.toList.map (·.key))[i]?=some x.key:=by rw[List.getElem?_map,hi];rfl
 have h2:(ms.toList.map (·.key))[j]?=some x.key:=by rw[List.getElem?_map,hj,he];rfl
 have hl:i < (ms.toList.map (·.key)).length:=(List.getElem?_eq_some_iff.1 h1).1
 have:i=j:=(List.getElem?_inj hl hn).1 (h1.trans h2.symm)
 subst this
 rw[hi]at hj;cases hj;rfl

theorem y7e (hI:Inv G w S){t:TypeId}{m k a:AV}{ok:Bool}(h:z8v C S t m k ok=some a){u kv:Value}(hu:VR G w m u)(hk:VR G w k kv):∃ v,VR G w a v∧(Instr.lookup t u kv ok).run C.P w=.ok v w:=by
 unfold z8v at h
 split at h
 ·rename_i kt e ht
  split at h
  ·rename_i hh
   split at h
   ·rename_i es kd hs hkd
    split at h
    ·rename_i hc
     cases hu with
     | mp _ b hb =>
      obtain ⟨b',o,h1,h2,h3⟩:=hI.blk _ _ hs
      rw[hb]at h1;cases h1
      cases h3 with
      | map _ ms clock p hp hsz hst hm =>
       have hget:(getObj b).run C.P w=.ok (.map ms clock) w:=by simp[getObj,Sem.run,h2]
       have hck:=y0y (C:=C) (e:=ms.isEmpty) hkd hc.1 hk
       have hfA:=y4v hk es p hsz hm hc.2
       have hfN:=y0f hc.1 hk ms.toList 0 (y39 hp hsz hm hc.2)
       split at h
       ·rename_i a' hfa
        cases h
        rw[hfa]at hfA
        obtain ⟨i,m,g1,g2,g3,_,_⟩:=hfA
        rcases hfN with ⟨j,e0,f1,f2,f3⟩ | ⟨f1,f2⟩
        ·have hme:m=e0:=y2b hst (hp.mem_iff.1 (List.mem_of_getElem? g1)) (List.mem_of_getElem? f2) (g2.trans f3.symm)
         subst hme
         refine ⟨if ok then .tuple #[m.val,.bool true] else m.val,?_,?_⟩
         ·cases ok with
          | true=>exact .tup2 g3 (.bool _)
          | false=>exact g3
         ·simp[Instr.lookup,run_underlying ht,hget,hck,Instr.findKey,run_underlying hkd,f1]
        ·exact absurd g2 (f2 m (hp.mem_iff.1 (List.mem_of_getElem? g1)))
       ·rename_i hfa
        rw[hfa]at hfA
        have hf:Instr.findNow kd kv ms.toList 0=some none:=by
         rcases hfN with ⟨j,e0,f1,f2,f3⟩ | ⟨f1,f2⟩
         ·exact absurd f3 (hfA e0 (hp.mem_iff.2 (List.mem_of_getElem? f2)))
         ·exact f1
        split at h<;>cases h
        rename_i z hz
        obtain ⟨v,hv,hzr⟩:=y9k (G:=G) (w:=w) hz
        refine ⟨if ok then .tuple #[v,.bool false] else v,?_,?_⟩
        ·cases ok with
         | true=>exact .tup2 hv (.bool _)
         | false=>exact hv
        ·simp[Instr.lookup,run_underlying ht,hget,hck,Instr.findKey,run_underlying hkd,hf,hzr]
    ·cases h
   ·cases h
  ·cases h
 ·cases h

theorem getElem?_map_VR {ev:Operand→AV}{ρ:Operand→Value}(hρ:∀ x,VR G w (ev x) (ρ x))(xs:Array Operand):VRs G w (xs.toList.map ev) (xs.toList.map ρ):=by
 refine ⟨by simp,fun i a ha=>?_⟩
 simp only[List.getElem?_map,Option.map_eq_some_iff]at ha
 obtain ⟨x,hx,rfl⟩:=ha
 exact ⟨ρ x,by simp[hx],hρ x⟩

theorem VRs.fn {l:List AV}{cs:List Value}(h:VRs G w l cs):cs.toArray.size=l.length∧∀ i a,l[i]?=some a→VR G w a (cs.toArray.getD i undef):=by
 refine ⟨by simpa using h.1,fun i a ha=>?_⟩
 obtain ⟨v,h1,h2⟩:=h.2 i a ha
 have:cs.toArray.getD i undef=v:=by simp[Array.getD_eq_getD_getElem?,h1]
 rw[this];exact h2

theorem y38 {s:TypeId}{f:Nat}{ft:TypeId}{off:Nat}(h:fieldAt C s f=some (ft,off)) :
  ∃ fs fd,C.P.underlying s=some (.struct fs)∧fs[f]?=some fd∧∃ n,szT C fd.type=some (n+1)∧ft=fd.type∧off=fd.offset:=by
 unfold fieldAt at h
 split at h<;>try cases h
 rename_i fs hu
 split at h<;>try cases h
 rename_i fd hfd
 split at h<;>cases h
 rename_i n hn
 exact ⟨fs,fd,hu,hfd,n,hn,rfl,rfl⟩

theorem y2h (he:EqtOk C)(hI:Inv G w S){ev:Operand→AV}{ρ:Operand→Value}(hρ:∀ x,VR G w (ev x) (ρ x))(o:Oper){a:AV}(h:z01 C S ev o.op=some a) :
  ∃ v,VR G w a v∧(execOp ρ o).run C.P w=.ok (.value v) w:=by
 unfold z01 at h
 split at h
 ·rename_i x ho;cases h;exact ⟨ρ x,hρ x,by simp[execOp,ho]⟩
 ·rename_i x ho;cases h;exact ⟨ρ x,hρ x,by simp[execOp,ho]⟩
 ·rename_i c x y ho
  split at h<;>cases h
  rename_i b hb
  have hc:=hρ c
  rw[hb]at hc
  refine ⟨if b then ρ x else ρ y,by (cases b;exact hρ y;exact hρ x),?_⟩
  simp[execOp,ho,hc.bool_inv,asBool]
 ·rename_i t parts ho
  obtain ⟨v,h1,h2⟩:=y9e (G:=G) (w:=w) h (parts.map fun (i,x)=>(i,ρ x)) (by simp) (fun i p hp=>by
   simp only[List.getElem?_map,Option.map_eq_some_iff]at hp
   obtain ⟨q,hq,rfl⟩:=hp
   exact ⟨ρ q.2,by simp at hq;simp[hq],hρ q.2⟩)
  exact ⟨v,h1,by simp[execOp,ho,h2]⟩
 ·rename_i t x ho
  obtain ⟨v,h1,h2⟩:=y34 hI h (hρ x)
  exact ⟨v,h1,by simp[execOp,ho,h2]⟩
 ·rename_i x ho
  have hx:=hρ x
  unfold y62 at h
  split at h<;>cases h
  ·rename_i hq;rw[hq]at hx
   generalize hv:ρ x=v at hx
   cases hx with
   | ptr _ _ b hb=>exact ⟨_,.ptr _ _ b hb,by simp[execOp,ho,hv]⟩
  ·rename_i hq;rw[hq]at hx
   generalize hv:ρ x=v at hx
   cases hx with
   | vp _ ad f hf hh=>exact ⟨_,.vp _ ad f hf hh,by simp[execOp,ho,hv]⟩
  ·rename_i hq;rw[hq]at hx
   generalize hv:ρ x=v at hx
   cases hx with
   | fn _ _ _ as bs h1 h2 h3 h4=>exact ⟨_,.fn _ _ _ as bs h1 h2 h3 h4,by simp[execOp,ho,hv]⟩
  ·rename_i hq;rw[hq]at hx
   generalize hv:ρ x=v at hx
   cases hx with
   | ifc _ _ v hvv=>exact ⟨_,.ifc _ _ v hvv,by simp[execOp,ho,hv]⟩
 ·rename_i op t x y yt ho
  obtain ⟨r,h1,h2⟩:=x1v he h (hρ x) (hρ y)
  exact ⟨r,h1,by
   simp only[execOp,ho,Sem.run_bind,h2,Result.andThen]
   rfl⟩
 ·rename_i op t x ho
  obtain ⟨v,h1,h2⟩:=x2c (C:=C) h (hρ x)
  exact ⟨v,h1,by simp[execOp,ho,h2]⟩
 ·rename_i src dst x ho
  obtain ⟨v,h1,h2⟩:=y6q hI h (hρ x)
  exact ⟨v,h1,by simp[execOp,ho,h2]⟩
 ·rename_i t x ho
  split at h<;>try cases h
  rename_i d n1 hd
  refine ⟨.iface t (ρ x),.ifc t _ _ (hρ x),?_⟩
  simp only[execOp,ho,Instr.makeInterface,Sem.run_bind,run_underlying hd,Result.andThen]
  cases d<;>first | rfl | exact absurd rfl (n1 _)
 ·rename_i f x y ho
  cases h
  obtain ⟨a1,a2⟩:=(getElem?_map_VR hρ x).fn
  obtain ⟨b1,b2⟩:=(getElem?_map_VR hρ y).fn
  refine ⟨_,.fn f _ _ _ _ a1 b1 a2 b2,?_⟩
  simp[execOp,ho,Instr.makeFunc]
  constructor<;>(apply Array.ext';simp)
 ·rename_i t x lo hi mx ho
  have hor:∀ q:Option Operand,OR G w (q.map ev) (q.map ρ):=by
   intro q;cases q with
   | none=>trivial
   | some q=>exact hρ q
  obtain ⟨v,h1,h2⟩:=y72 h (hρ x) (hor lo) (hor hi) (hor mx)
  exact ⟨v,h1,by simp[execOp,ho,h2]⟩
 ·rename_i s x f ho
  split at h<;>try cases h
  rename_i ft off hf
  obtain ⟨fs,fd,hu,hfd,n,hn,rfl,rfl⟩:=y38 hf
  have hsz:=run_sizeOf (show (C.P.info? fd.type).map (·.size)=some (n+1) from hn) w
  split at h<;>cases h
  ·rename_i hq
   have hx:=hρ x;rw[hq]at hx
   generalize hv:ρ x=v at hx
   cases hx with
   | ptr _ o' b hb =>
    refine ⟨_,.ptr _ _ b hb,?_⟩
    simp[execOp,ho,hv,Instr.fieldAt,run_underlying hu,hfd,Instr.sureAddr,fieldPlace,hsz,Addr.add_lit]
  ·rename_i l hq
   have hx:=hρ x;rw[hq]at hx
   generalize hv:ρ x=v at hx
   cases hx with
   | vp _ ad f' hf' hh =>
    have hadd:ad.add fd.offset=⟨ad.block,ad.off+fd.offset,none⟩:=by rw[z7s hh.1,Addr.add_lit]
    refine ⟨.pointer (some (ad.add fd.offset)),?_,?_⟩
    ·rw[hadd]
     rcases Nat.le_total fd.offset l.length with hle | hge
     ·refine .vp _ _ (fun i=>f' (fd.offset+i)) (fun i y hy=>hf' _ y (by simpa[List.getElem?_drop] using hy)) ?_
      have:=hh.drop (k:=fd.offset) hle
      simpa using this
     ·rw[List.drop_eq_nil_of_le hge]
      exact .vp [] _ (fun _=>undef) (by simp) ⟨rfl,by simp⟩
    ·simp[execOp,ho,hv,Instr.fieldAt,run_underlying hu,hfd,Instr.sureAddr,fieldPlace,hsz]
 ·rename_i s x f ho
  split at h<;>try cases h
  rename_i ft off hf
  obtain ⟨fs,fd,hu,hfd,n,hn,rfl,rfl⟩:=y38 hf
  split at h<;>try cases h
  rename_i l hq
  have hx:=hρ x;rw[hq]at hx
  generalize hv:ρ x=v at hx
  cases hx with
  | agg _ cs hs hl =>
   obtain ⟨r,hr,hrun⟩:=y30 h cs hs hl
   exact ⟨r,hr,by simp[execOp,ho,hv,Instr.field,run_underlying hu,hfd,asAgg,hrun]⟩
 ·rename_i t x i ho
  obtain ⟨v,h1,h2⟩:=y4t h (hρ x) (hρ i)
  exact ⟨v,h1,by simp[execOp,ho,h2]⟩
 ·rename_i t x i ho
  obtain ⟨v,h1,h2⟩:=y8x h (hρ x) (hρ i)
  exact ⟨v,h1,by simp[execOp,ho,h2]⟩
 ·rename_i t m k ok ho
  obtain ⟨v,h1,h2⟩:=y7e hI h (hρ m) (hρ k)
  exact ⟨v,h1,by simp[execOp,ho,h2]⟩
 ·rename_i x xt a' ok ho
  obtain ⟨v,h1,h2⟩:=y3u (xt:=xt) h (hρ x)
  exact ⟨v,h1,by simp[execOp,ho,h2]⟩
 ·rename_i t i ho
  split at h<;>try cases h
  rename_i l hl
  have ht:=hρ t
  rw[hl]at ht
  generalize hv:ρ t=v at ht
  cases ht with
  | tup _ cs hs hcs =>
   have hlt:i < l.length:=by
    rcases Nat.lt_or_ge i l.length with h1 | h1
    ·exact h1
    ·simp[h1]at h
   refine ⟨cs.getD i undef,hcs i a h,?_⟩
   have h2:i < cs.size:=by omega
   simp[execOp,ho,Instr.extract,hv,h2,Array.getD]
 ·rename_i c ho
  split at h
  ·rename_i hcal
   split at h
   ·rename_i x t hx ht
    obtain ⟨v,h1,h2⟩:=x03 hI h (hρ x) o.type
    have ha:c.args=#[x]:=by apply Array.ext';simpa using hx
    have hb:c.argTypes=#[t]:=by apply Array.ext';simpa using ht
    exact ⟨v,h1,by simp[execOp,ho,resolve,hcal,invoke,builtin,ha,hb,h2]⟩
   ·cases h
  ·rename_i hcal
   split at h
   ·rename_i x t hx ht
    obtain ⟨v,h1,h2⟩:=x1r (G:=G) (w:=w) h (hρ x) o.type
    have ha:c.args=#[x]:=by apply Array.ext';simpa using hx
    have hb:c.argTypes=#[t]:=by apply Array.ext';simpa using ht
    exact ⟨v,h1,by simp[execOp,ho,resolve,hcal,invoke,builtin,ha,hb,h2]⟩
   ·cases h
  ·rename_i hcal
   obtain ⟨v,h1,h2⟩:=x0z (C:=C) h (getElem?_map_VR hρ c.args) c.argTypes o.type
   exact ⟨v,h1,by
    have e:(c.args.toList.map ρ).toArray=c.args.map ρ:=by apply Array.ext';simp
    rw[e]at h2
    simp[execOp,ho,resolve,hcal,invoke,builtin,h2]⟩
  ·rename_i hcal
   obtain ⟨v,h1,h2⟩:=x0y (C:=C) h (getElem?_map_VR hρ c.args) c.argTypes o.type
   exact ⟨v,h1,by
    have e:(c.args.toList.map ρ).toArray=c.args.map ρ:=by apply Array.ext';simp
    rw[e]at h2
    simp[execOp,ho,resolve,hcal,invoke,builtin,h2]⟩
  ·cases h
 ·cases h
end
end Go.Ev
namespace Go.Ev
open Go.RowKit

def upd {α:Type}(f:Nat→Option α)(k:Nat)(v:α):Nat→Option α:=fun i=>if i=k then some v else f i
theorem upd_same {α:Type}(f:Nat→Option α)(k:Nat)(v:α):upd f k v k=some v:=by simp[upd]
theorem upd_ne {α:Type}(f:Nat→Option α){k i:Nat}(v:α)(h:i≠k):upd f k v i=f i:=by simp[upd,h]

section
variable {C:Cx}{G:Gh}{w:World}{S:St}

structure Adds (w w':World) (o:Obj):Prop where
 heap:w'.heap=w.heap.push o
 os:w'.os=w.os
 tape:w'.tape=w.tape
 output:w'.output=w.output
theorem Adds.alloc (w:World)(o:Obj):Adds w (w.alloc o) o:=⟨rfl,rfl,rfl,rfl⟩
theorem Adds.drewAlloc (w:World)(o:Obj):Adds w (w.drew.alloc o) o:=⟨rfl,rfl,rfl,rfl⟩
theorem Adds.old {w w':World}{o:Obj}(h:Adds w w' o){k:Nat}(hk:k < w.heap.size):w'.heap[k]?=w.heap[k]?:=by
 rw[h.heap,Array.getElem?_push];simp[Nat.ne_of_lt hk]
theorem Adds.new {w w':World}{o:Obj}(h:Adds w w' o):w'.heap[w.heap.size]?=some o:=by rw[h.heap];simp
theorem Adds.size {w w':World}{o:Obj}(h:Adds w w' o):w'.heap.size=w.heap.size+1:=by rw[h.heap];simp
theorem Adds.cell {w w':World}{o:Obj}(h:Adds w w' o){b i:Nat}(hk:b < w.heap.size):w'.cell? ⟨b,i,none⟩=w.cell? ⟨b,i,none⟩:=by simp[World.cell?,h.old hk]

theorem Inv.blk_lt (hI:Inv G w S){h b:Nat}(hb:G.σ h=some b):b < w.heap.size:=by
 obtain ⟨hb',h1⟩:=hI.dom _ _ hb
 obtain ⟨b',o,h2,h3,h4⟩:=hI.blk _ _ h1
 rw[hb]at h2;cases h2
 exact (Array.getElem?_eq_some_iff.1 h3).1
theorem Inv.tk_lt (hI:Inv G w S){k b c m:Nat}{z:Nat×Nat}(hk:G.tk k=some (b,c,m,z)):b < w.heap.size:=by
 obtain ⟨h1,h2,h3,h4,h5,⟨cs,e,⟨fz,h6,_⟩,h7⟩,h8⟩:=hI.tdom _ _ _ _ _ hk
 exact (Array.getElem?_eq_some_iff.1 h6).1
theorem Inv.fresh (hI:Inv G w S)(h:Nat):G.σ h≠some w.heap.size:=fun e=>absurd (hI.blk_lt e) (Nat.lt_irrefl _)
theorem Inv.freshT (hI:Inv G w S)(k c m:Nat)(z:Nat×Nat):G.tk k≠some (w.heap.size,c,m,z):=fun e=>absurd (hI.tk_lt e) (Nat.lt_irrefl _)
theorem Inv.freshK (hI:Inv G w S)(o:Nat):¬ G.K w.heap.size o:=fun e=>absurd (hI.kin _ _ e) (Nat.lt_irrefl _)
theorem Inv.σ_len (hI:Inv G w S):G.σ S.hs.length=none:=by
 cases h:G.σ S.hs.length with
 | none=>rfl
 | some b=>obtain ⟨hb,h1⟩:=hI.dom _ _ h;simp at h1
theorem Inv.σ_lt (hI:Inv G w S){h b:Nat}(hb:G.σ h=some b):h < S.hs.length:=by
 obtain ⟨hb',h1⟩:=hI.dom _ _ hb
 exact (List.getElem?_eq_some_iff.1 h1).1
theorem Inv.tk_len (hI:Inv G w S):G.tk S.ts.length=none:=by
 cases h:G.tk S.ts.length with
 | none=>rfl
 | some x=>obtain ⟨b,c,m,z⟩:=x;obtain ⟨h1,_⟩:=hI.tdom _ _ _ _ _ h;simp at h1

def Gh.bind (G:Gh)(h b:Nat):Gh:={ G with σ:=upd G.σ h b }

theorem Evo.bind {w':World}{o:Obj}(ha:Adds w w' o)(hI:Inv G w S){h:Nat}(hn:G.σ h=none):Evo G w (G.bind h w.heap.size) w' where
 k:=fun _ _ h=>h
 cell:=fun b i hk=>ha.cell (hI.kin _ _ hk)
 σ:=fun x b hx=>by
  by_cases e:x=h
  ·subst e;rw[hn]at hx;cases hx
  ·simpa[Gh.bind,upd_ne _ _ e] using hx
 σn:=fun x b hx=>by
  by_cases e:x=h
  ·subst e;simp[Gh.bind,upd_same]at hx;subst hx;exact .inr (Nat.le_refl _)
  ·rw[show (G.bind h w.heap.size).σ x=G.σ x from upd_ne _ _ e]at hx;exact .inl hx
 tk:=fun k b c m z hk=>⟨b,c,m,hk,.inl ⟨rfl,rfl,rfl⟩⟩
 tkn:=fun k b c m z hk=>.inl ⟨c,m,z,hk⟩
 kn:=fun _ _ h=>.inl h
 B:=rfl
 size:=by rw[ha.size];omega
 os:=ha.os
 tape:=ha.tape
 output:=ha.output
 frame:=fun b hb _ _=>ha.old hb

theorem Evo.adds {w':World}{o:Obj}(ha:Adds w w' o)(hI:Inv G w S):Evo G w G w' where
 k:=fun _ _ h=>h
 cell:=fun b i hk=>ha.cell (hI.kin _ _ hk)
 σ:=fun _ _ h=>h
 σn:=fun _ _ h=>.inl h
 tk:=fun k b c m z hk=>⟨b,c,m,hk,.inl ⟨rfl,rfl,rfl⟩⟩
 tkn:=fun k b c m z hk=>.inl ⟨c,m,z,hk⟩
 kn:=fun _ _ h=>.inl h
 B:=rfl
 size:=by rw[ha.size];omega
 os:=ha.os
 tape:=ha.tape
 output:=ha.output
 frame:=fun b hb _ _=>ha.old hb

theorem Inv.adds {w':World}{o:Obj}(ha:Adds w w' o)(hI:Inv G w S):Inv G w' S where
 blk:=fun h hb hh=>by
  obtain ⟨b,o',h1,h2,h3⟩:=hI.blk _ _ hh
  exact ⟨b,o',h1,by rw[ha.old (hI.blk_lt h1)];exact h2,h3.mono (Evo.adds ha hI)⟩
 dom:=hI.dom
 inj:=hI.inj
 fr:=hI.fr
 base:=hI.base
 tok:=hI.tok
 tdom:=fun k b c m z hk=>by
  obtain ⟨h1,h2,h3,h4,h5,⟨cs,e,h6,h7⟩,h8⟩:=hI.tdom _ _ _ _ _ hk
  exact ⟨h1,h2,h3,h4,h5,⟨cs,e,by rw[ha.old (hI.tk_lt hk)];exact h6,h7⟩,h8⟩
 tinj:=hI.tinj
 tσ:=hI.tσ
 kin:=fun b o hk=>by rw[ha.size];exact Nat.lt_succ_of_lt (hI.kin _ _ hk)
 bin:=by rw[ha.size];exact Nat.le_succ_of_le hI.bin

theorem Inv.bind {w':World}{o:Obj}(ha:Adds w w' o)(hI:Inv G w S){S':St}{h:Nat}{hb:HB}(hn:G.σ h=none)(hr:HR G w hb o)
  (hs1:S'.hs[h]?=some (some hb)) (hs2:∀ k x,k≠h→(S'.hs[k]?=some (some x)↔S.hs[k]?=some (some x))) (hts:S'.ts=S.ts):Inv (G.bind h w.heap.size) w' S' where
 blk:=fun k x hk=>by
  by_cases e:k=h
  ·subst e
   rw[hs1]at hk;cases hk
   exact ⟨w.heap.size,o,upd_same _ _ _,ha.new,hr.mono (Evo.bind ha hI hn)⟩
  ·obtain ⟨b,o',h1,h2,h3⟩:=hI.blk _ _ ((hs2 k x e).1 hk)
   exact ⟨b,o',by rw[show (G.bind h w.heap.size).σ k=G.σ k from upd_ne _ _ e];exact h1,by rw[ha.old (hI.blk_lt h1)];exact h2,h3.mono (Evo.bind ha hI hn)⟩
 dom:=fun k b hk=>by
  by_cases e:k=h
  ·subst e;exact ⟨hb,hs1⟩
  ·rw[show (G.bind h w.heap.size).σ k=G.σ k from upd_ne _ _ e]at hk
   obtain ⟨x,hx⟩:=hI.dom _ _ hk
   exact ⟨x,(hs2 k x e).2 hx⟩
 inj:=fun k k' b h1 h2=>by
  by_cases e:k=h<;>by_cases e':k'=h
  ·rw[e,e']
  ·subst e
   rw[show (G.bind k w.heap.size).σ k'=G.σ k' from upd_ne _ _ e']at h2
   rw[show (G.bind k w.heap.size).σ k=some w.heap.size from upd_same _ _ _]at h1
   cases h1;exact absurd h2 (hI.fresh _)
  ·subst e'
   rw[show (G.bind k' w.heap.size).σ k=G.σ k from upd_ne _ _ e]at h1
   rw[show (G.bind k' w.heap.size).σ k'=some w.heap.size from upd_same _ _ _]at h2
   cases h2;exact absurd h1 (hI.fresh _)
  ·rw[show (G.bind h w.heap.size).σ k=G.σ k from upd_ne _ _ e]at h1
   rw[show (G.bind h w.heap.size).σ k'=G.σ k' from upd_ne _ _ e']at h2
   exact hI.inj _ _ _ h1 h2
 fr:=fun k b i hk=>by
  by_cases e:k=h
  ·subst e
   rw[show (G.bind k w.heap.size).σ k=some w.heap.size from upd_same _ _ _]at hk
   cases hk;exact hI.freshK _
  ·rw[show (G.bind h w.heap.size).σ k=G.σ k from upd_ne _ _ e]at hk
   exact hI.fr _ _ _ hk
 base:=fun k b hk=>by
  by_cases e:k=h
  ·subst e
   rw[show (G.bind k w.heap.size).σ k=some w.heap.size from upd_same _ _ _]at hk
   cases hk;exact hI.bin
  ·rw[show (G.bind h w.heap.size).σ k=G.σ k from upd_ne _ _ e]at hk
   exact hI.base _ _ hk
 tok:=by rw[hts];exact hI.tok
 tdom:=fun k b c m z hk=>by
  obtain ⟨h1,h2,h3,h4,h5,⟨cs,e,h6,h7⟩,h8⟩:=hI.tdom _ _ _ _ _ hk
  exact ⟨by rw[hts];exact h1,h2,h3,h4,h5,⟨cs,e,by rw[ha.old (hI.tk_lt hk)];exact h6,h7⟩,h8⟩
 tinj:=hI.tinj
 tσ:=fun k b c m z k' hk hk'=>by
  by_cases e:k'=h
  ·subst e
   rw[show (G.bind k' w.heap.size).σ k'=some w.heap.size from upd_same _ _ _]at hk'
   cases hk';exact hI.freshT _ _ _ _ hk
  ·rw[show (G.bind h w.heap.size).σ k'=G.σ k' from upd_ne _ _ e]at hk'
   exact hI.tσ _ _ _ _ _ _ hk hk'
 kin:=fun b o hk=>by rw[ha.size];exact Nat.lt_succ_of_lt (hI.kin _ _ hk)
 bin:=by rw[ha.size];exact Nat.le_succ_of_le hI.bin

theorem Inv.push {w':World}{o:Obj}(ha:Adds w w' o)(hI:Inv G w S){hb:HB}(hr:HR G w hb o):Inv (G.bind S.hs.length w.heap.size) w' (S.push hb) :=
 Inv.bind ha hI hI.σ_len hr (by simp[St.push]) (fun k x hk=>by
  simp only[St.push]
  rcases Nat.lt_or_ge k S.hs.length with h | h
  ·rw[List.getElem?_append_left h]
  ·rw[List.getElem?_append_right h]
   have:1≤k-S.hs.length:=by omega
   simp[List.getElem?_eq_none h]
   intro e
   have:=(List.getElem?_eq_some_iff.1 e).1
   simp at this;omega) rfl

structure Mods (w w':World) (b:Nat) (o:Obj):Prop where
 at_:w'.heap[b]?=some o
 other:∀ k,k≠b→w'.heap[k]?=w.heap[k]?
 size:w'.heap.size=w.heap.size
 os:w'.os=w.os
 tape:w'.tape=w.tape
 output:w'.output=w.output

theorem Evo.mods {w':World}{o:Obj}{h b:Nat}(hm:Mods w w' b o)(hI:Inv G w S)(hb:G.σ h=some b):Evo G w G w' where
 k:=fun _ _ h=>h
 cell:=fun b' i hk=>by
  have:b'≠b:=fun e=>hI.fr _ _ i hb (e ▸ hk)
  simp[World.cell?,hm.other _ this]
 σ:=fun _ _ h=>h
 σn:=fun _ _ h=>.inl h
 tk:=fun k b c m z hk=>⟨b,c,m,hk,.inl ⟨rfl,rfl,rfl⟩⟩
 tkn:=fun k b c m z hk=>.inl ⟨c,m,z,hk⟩
 kn:=fun _ _ h=>.inl h
 B:=rfl
 size:=by rw[hm.size];exact Nat.le_refl _
 os:=hm.os
 tape:=hm.tape
 output:=hm.output
 frame:=fun b' hb' h1 _=>hm.other _ (fun e=>h1 h (e ▸ hb))

theorem Inv.put {w':World}{o:Obj}{h b:Nat}(hm:Mods w w' b o)(hI:Inv G w S)(hb:G.σ h=some b){x:HB}(hr:HR G w x o):Inv G w' (S.put h x) where
 blk:=fun k y hk=>by
  have hlt:=hI.σ_lt hb
  by_cases e:k=h
  ·subst e
   simp[St.put,hlt]at hk
   subst hk
   exact ⟨b,o,hb,hm.at_,hr.mono (Evo.mods hm hI hb)⟩
  ·simp only[St.put]at hk
   rw[List.getElem?_set_ne (Ne.symm e)]at hk
   obtain ⟨b',o',h1,h2,h3⟩:=hI.blk _ _ hk
   have:b'≠b:=fun e'=>e (hI.inj _ _ _ h1 (e' ▸ hb))
   exact ⟨b',o',h1,by rw[hm.other _ this];exact h2,h3.mono (Evo.mods hm hI hb)⟩
 dom:=fun k b' hk=>by
  have hlt:=hI.σ_lt hb
  by_cases e:k=h
  ·subst e;exact ⟨x,by simp[St.put,hlt]⟩
  ·obtain ⟨y,hy⟩:=hI.dom _ _ hk
   exact ⟨y,by simp only[St.put];rw[List.getElem?_set_ne (Ne.symm e)];exact hy⟩
 inj:=hI.inj
 fr:=hI.fr
 base:=hI.base
 tok:=hI.tok
 tdom:=fun k b' c m z hk=>by
  obtain ⟨h1,h2,h3,h4,h5,⟨cs,e,h6,h7⟩,h8⟩:=hI.tdom _ _ _ _ _ hk
  have:b'≠b:=fun e'=>hI.tσ _ _ _ _ _ h hk (e' ▸ hb)
  exact ⟨h1,h2,h3,h4,h5,⟨cs,e,by rw[hm.other _ this];exact h6,h7⟩,h8⟩
 tinj:=hI.tinj
 tσ:=hI.tσ
 kin:=fun b' o' hk=>by rw[hm.size];exact hI.kin _ _ hk
 bin:=by rw[hm.size];exact hI.bin

theorem Mods.setRow {w:World}{b:Nat}{cs cs':Array Value}{t:TypeId}(h:w.heap[b]?=some (.cells cs t (0,0))):Mods w (w.setRow b cs') b (.cells cs' t (0,0)) where
 at_:=setRow_heap w b cs cs' t _ h
 other:=fun k hk=>by simp[World.setRow,Array.getElem?_modify,Ne.symm hk]
 size:=by simp[World.setRow]
 os:=rfl
 tape:=rfl
 output:=rfl

theorem Mods.setObj {w:World}{b:Nat}(o:Obj)(h:b < w.heap.size):Mods w { w with heap:=w.heap.setIfInBounds b o } b o where
 at_:=by simp[h]
 other:=fun k hk=>by simp[Array.getElem?_setIfInBounds_ne (Ne.symm hk)]
 size:=by simp
 os:=rfl
 tape:=rfl
 output:=rfl

def Gh.tnew (G:Gh)(k b c m:Nat)(z:Nat×Nat):Gh:={ G with tk:=upd G.tk k (b,c,m,z),K:=fun b' o=>G.K b' o∨b'=b∧o < m*z.1 }

theorem Evo.tnew {w':World}{o:Obj}(ha:Adds w w' o)(hI:Inv G w S){k c m:Nat}{z:Nat×Nat}(hk:G.tk k=none∨∃ b' c' m',G.tk k=some (b',c',m',z)∧m' < m):Evo G w (G.tnew k w.heap.size c m z) w' where
 k:=fun _ _ h=>.inl h
 cell:=fun b i hk=>ha.cell (hI.kin _ _ hk)
 σ:=fun _ _ h=>h
 σn:=fun _ _ h=>.inl h
 tk:=fun i b' c' m' z' hi=>by
  by_cases e:i=k
  ·subst e
   rcases hk with hk | ⟨b2,c2,m2,hk,hlt⟩
   ·rw[hk]at hi;cases hi
   ·rw[hk]at hi;cases hi
    exact ⟨_,_,_,upd_same _ _ _,.inr hlt⟩
  ·exact ⟨b',c',m',by rw[show (G.tnew k w.heap.size c m z).tk i=G.tk i from upd_ne _ _ e];exact hi,.inl ⟨rfl,rfl,rfl⟩⟩
 tkn:=fun i b' c' m' z' hi=>by
  by_cases e:i=k
  ·subst e
   rw[show (G.tnew i w.heap.size c m z).tk i=_ from upd_same _ _ _]at hi
   cases hi;exact .inr (Nat.le_refl _)
  ·rw[show (G.tnew k w.heap.size c m z).tk i=G.tk i from upd_ne _ _ e]at hi
   exact .inl ⟨c',m',z',hi⟩
 kn:=fun b' o hK=>by
  rcases hK with hK | ⟨rfl,_⟩
  ·exact .inl hK
  ·exact .inr (.inl (Nat.le_refl _))
 B:=rfl
 size:=by rw[ha.size];omega
 os:=ha.os
 tape:=ha.tape
 output:=ha.output
 frame:=fun b hb _ _=>ha.old hb

theorem Inv.tnew {w':World}{cs:Array Value}{e:TypeId}(ha:Adds w w' (.cells cs e (0,0)))(hI:Inv G w S){S':St}{k c m:Nat}{z:Nat×Nat}(hk:G.tk k=none∨∃ b' c' m',G.tk k=some (b',c',m',z)∧m' < m)
  (hz:0 < z.1) (hmc:m≤c) (hc:c≤maxLen) (hcs:cs.size=c*z.1) (he:e=z.2) (hs:S'.hs=S.hs) (ht1:S'.ts[k]?=some (m,z)) (ht2:∀ i,i≠k→S'.ts[i]?=S.ts[i]?):Inv (G.tnew k w.heap.size c m z) w' S' where
 blk:=fun h x hh=>by
  rw[hs]at hh
  obtain ⟨b,o,h1,h2,h3⟩:=hI.blk _ _ hh
  exact ⟨b,o,h1,by rw[ha.old (hI.blk_lt h1)];exact h2,h3.mono (Evo.tnew ha hI hk)⟩
 dom:=by rw[hs];exact hI.dom
 inj:=hI.inj
 fr:=fun h b o hb=>by
  rintro (hK | ⟨rfl,_⟩)
  ·exact hI.fr _ _ _ hb hK
  ·exact hI.fresh _ hb
 base:=hI.base
 tok:=fun i m' z' hi=>by
  by_cases e:i=k
  ·subst e;rw[ht1]at hi;cases hi;exact ⟨_,_,upd_same _ _ _⟩
  ·rw[ht2 i e]at hi
   obtain ⟨b,c',h1⟩:=hI.tok _ _ _ hi
   exact ⟨b,c',by rw[show (G.tnew k w.heap.size c m z).tk i=G.tk i from upd_ne _ _ e];exact h1⟩
 tdom:=fun i b c' m' z' hi=>by
  by_cases e:i=k
  ·subst e
   rw[show (G.tnew i w.heap.size c m z).tk i=_ from upd_same _ _ _]at hi
   cases hi
   exact ⟨ht1,hI.bin,hz,hmc,hc,⟨cs,_,⟨(0,0),ha.new,Nat.zero_le _⟩,hcs,he⟩,fun o ho=>by
    rcases ho with ho | ⟨_,ho⟩
    ·exact absurd ho (hI.freshK _)
    ·exact ho⟩
  ·rw[show (G.tnew k w.heap.size c m z).tk i=G.tk i from upd_ne _ _ e]at hi
   obtain ⟨h1,h2,h3,h4,h5,⟨cs',e',h6,h7⟩,h8⟩:=hI.tdom _ _ _ _ _ hi
   exact ⟨by rw[ht2 i e];exact h1,h2,h3,h4,h5,⟨cs',e',by rw[ha.old (hI.tk_lt hi)];exact h6,h7⟩,fun o ho=>by
    rcases ho with ho | ⟨rfl,_⟩
    ·exact h8 _ ho
    ·exact absurd hi (hI.freshT _ _ _ _)⟩
 tinj:=fun i i' b c1 m1 z1 c2 m2 z2 h1 h2=>by
  by_cases e:i=k<;>by_cases e':i'=k
  ·rw[e,e']
  ·subst e
   rw[show (G.tnew i w.heap.size c m z).tk i=_ from upd_same _ _ _]at h1
   rw[show (G.tnew i w.heap.size c m z).tk i'=G.tk i' from upd_ne _ _ e']at h2
   cases h1;exact absurd h2 (hI.freshT _ _ _ _)
  ·subst e'
   rw[show (G.tnew i' w.heap.size c m z).tk i'=_ from upd_same _ _ _]at h2
   rw[show (G.tnew i' w.heap.size c m z).tk i=G.tk i from upd_ne _ _ e]at h1
   cases h2;exact absurd h1 (hI.freshT _ _ _ _)
  ·rw[show (G.tnew k w.heap.size c m z).tk i=G.tk i from upd_ne _ _ e]at h1
   rw[show (G.tnew k w.heap.size c m z).tk i'=G.tk i' from upd_ne _ _ e']at h2
   exact hI.tinj _ _ _ _ _ _ _ _ _ h1 h2
 tσ:=fun i b c' m' z' h hi hh=>by
  by_cases e:i=k
  ·subst e
   rw[show (G.tnew i w.heap.size c m z).tk i=_ from upd_same _ _ _]at hi
   cases hi;exact hI.fresh _ hh
  ·rw[show (G.tnew k w.heap.size c m z).tk i=G.tk i from upd_ne _ _ e]at hi
   exact hI.tσ _ _ _ _ _ _ hi hh
 kin:=fun b o hK=>by
  rw[ha.size]
  rcases hK with hK | ⟨rfl,_⟩
  ·exact Nat.lt_succ_of_lt (hI.kin _ _ hK)
  ·exact Nat.lt_succ_self _
 bin:=by rw[ha.size];exact Nat.le_succ_of_le hI.bin

theorem Evo.tgrow {w':World}{cs':Array Value}{e:TypeId}{fz:Nat×Nat}{k b c m:Nat}{z:Nat×Nat}{m':Nat}(hm:Mods w w' b (.cells cs' e fz))(hI:Inv G w S)(hk:G.tk k=some (b,c,m,z))(hlt:m < m')
  (hold:∀ o,o < m*z.1→w'.cell? ⟨b,o,none⟩=w.cell? ⟨b,o,none⟩):Evo G w (G.tnew k b c m' z) w' where
 k:=fun _ _ h=>.inl h
 cell:=fun b' i hK=>by
  by_cases e:b'=b
  ·subst e;exact hold _ ((hI.tdom _ _ _ _ _ hk).2.2.2.2.2.2 _ hK)
  ·simp[World.cell?,hm.other _ e]
 σ:=fun _ _ h=>h
 σn:=fun _ _ h=>.inl h
 tk:=fun i b' c' m1 z' hi=>by
  by_cases e:i=k
  ·subst e;rw[hk]at hi;cases hi;exact ⟨_,_,_,upd_same _ _ _,.inr hlt⟩
  ·exact ⟨b',c',m1,by rw[show (G.tnew k b c m' z).tk i=G.tk i from upd_ne _ _ e];exact hi,.inl ⟨rfl,rfl,rfl⟩⟩
 tkn:=fun i b' c' m1 z' hi=>by
  by_cases e:i=k
  ·subst e
   rw[show (G.tnew i b c m' z).tk i=_ from upd_same _ _ _]at hi
   cases hi;exact .inl ⟨_,_,_,hk⟩
  ·rw[show (G.tnew k b c m' z).tk i=G.tk i from upd_ne _ _ e]at hi
   exact .inl ⟨c',m1,z',hi⟩
 kn:=fun b' o hK=>by
  rcases hK with hK | ⟨rfl,_⟩
  ·exact .inl hK
  ·exact .inr (.inr ⟨_,_,_,_,hk⟩)
 B:=rfl
 size:=by rw[hm.size];exact Nat.le_refl _
 os:=hm.os
 tape:=hm.tape
 output:=hm.output
 frame:=fun b' hb' _ h2=>hm.other _ (fun e=>h2 k c m z (e ▸ hk))

theorem Inv.tgrow {w':World}{cs':Array Value}{e:TypeId}{fz:Nat×Nat}{S':St}{k b c m:Nat}{z:Nat×Nat}{m':Nat}(hm:Mods w w' b (.cells cs' e fz))(hfz:fz.2≤m' * z.1)(hI:Inv G w S)(hk:G.tk k=some (b,c,m,z))(hlt:m < m')
  (hold:∀ o,o < m*z.1→w'.cell? ⟨b,o,none⟩=w.cell? ⟨b,o,none⟩) (hmc:m'≤c) (hcs:cs'.size=c*z.1) (he:e=z.2) (hs:S'.hs=S.hs) (ht1:S'.ts[k]?=some (m',z)) (ht2:∀ i,i≠k→S'.ts[i]?=S.ts[i]?):Inv (G.tnew k b c m' z) w' S' where
 blk:=fun h x hh=>by
  rw[hs]at hh
  obtain ⟨b',o,h1,h2,h3⟩:=hI.blk _ _ hh
  have:b'≠b:=fun e'=>hI.tσ _ _ _ _ _ h hk (e' ▸ h1)
  exact ⟨b',o,h1,by rw[hm.other _ this];exact h2,h3.mono (Evo.tgrow hm hI hk hlt hold)⟩
 dom:=by rw[hs];exact hI.dom
 inj:=hI.inj
 fr:=fun h b' o hb=>by
  rintro (hK | ⟨rfl,_⟩)
  ·exact hI.fr _ _ _ hb hK
  ·exact hI.tσ _ _ _ _ _ _ hk hb
 base:=hI.base
 tok:=fun i m1 z' hi=>by
  by_cases e:i=k
  ·subst e;rw[ht1]at hi;cases hi;exact ⟨_,_,upd_same _ _ _⟩
  ·rw[ht2 i e]at hi
   obtain ⟨b',c',h1⟩:=hI.tok _ _ _ hi
   exact ⟨b',c',by rw[show (G.tnew k b c m' z).tk i=G.tk i from upd_ne _ _ e];exact h1⟩
 tdom:=fun i b' c' m1 z' hi=>by
  by_cases e:i=k
  ·subst e
   rw[show (G.tnew i b c m' z).tk i=_ from upd_same _ _ _]at hi
   cases hi
   obtain ⟨h1,h2,h3,h4,h5,⟨cs,e,h6,h7⟩,h8⟩:=hI.tdom _ _ _ _ _ hk
   exact ⟨ht1,h2,h3,hmc,h5,⟨cs',_,⟨fz,hm.at_,hfz⟩,hcs,he⟩,fun o ho=>by
    rcases ho with ho | ⟨_,ho⟩
    ·exact Nat.lt_of_lt_of_le (h8 _ ho) (Nat.mul_le_mul_right _ (Nat.le_of_lt hlt))
    ·exact ho⟩
  ·rw[show (G.tnew k b c m' z).tk i=G.tk i from upd_ne _ _ e]at hi
   obtain ⟨h1,h2,h3,h4,h5,⟨cs2,e',h6,h7⟩,h8⟩:=hI.tdom _ _ _ _ _ hi
   have hne:b'≠b:=fun e'=>e (hI.tinj _ _ _ _ _ _ _ _ _ hi (e' ▸ hk))
   exact ⟨by rw[ht2 i e];exact h1,h2,h3,h4,h5,⟨cs2,e',by rw[hm.other _ hne];exact h6,h7⟩,fun o ho=>by
    rcases ho with ho | ⟨rfl,_⟩
    ·exact h8 _ ho
    ·exact absurd rfl hne⟩
 tinj:=fun i i' b' c1 m1 z1 c2 m2 z2 h1 h2=>by
  by_cases e:i=k<;>by_cases e':i'=k
  ·rw[e,e']
  ·subst e
   rw[show (G.tnew i b c m' z).tk i=_ from upd_same _ _ _]at h1
   rw[show (G.tnew i b c m' z).tk i'=G.tk i' from upd_ne _ _ e']at h2
   cases h1;exact hI.tinj _ _ _ _ _ _ _ _ _ hk h2
  ·subst e'
   rw[show (G.tnew i' b c m' z).tk i'=_ from upd_same _ _ _]at h2
   rw[show (G.tnew i' b c m' z).tk i=G.tk i from upd_ne _ _ e]at h1
   cases h2;exact hI.tinj _ _ _ _ _ _ _ _ _ h1 hk
  ·rw[show (G.tnew k b c m' z).tk i=G.tk i from upd_ne _ _ e]at h1
   rw[show (G.tnew k b c m' z).tk i'=G.tk i' from upd_ne _ _ e']at h2
   exact hI.tinj _ _ _ _ _ _ _ _ _ h1 h2
 tσ:=fun i b' c' m1 z' h hi hh=>by
  by_cases e:i=k
  ·subst e
   rw[show (G.tnew i b c m' z).tk i=_ from upd_same _ _ _]at hi
   cases hi;exact hI.tσ _ _ _ _ _ _ hk hh
  ·rw[show (G.tnew k b c m' z).tk i=G.tk i from upd_ne _ _ e]at hi
   exact hI.tσ _ _ _ _ _ _ hi hh
 kin:=fun b' o hK=>by
  rw[hm.size]
  rcases hK with hK | ⟨rfl,_⟩
  ·exact hI.kin _ _ hK
  ·exact hI.tk_lt hk
 bin:=by rw[hm.size];exact hI.bin

def Gh.keep (G:Gh)(b n:Nat):Gh:={ G with K:=fun b' o=>G.K b' o∨b'=b∧o < n }
theorem Evo.keep {w':World}{o:Obj}(ha:Adds w w' o)(hI:Inv G w S)(n:Nat):Evo G w (G.keep w.heap.size n) w' where
 k:=fun _ _ h=>.inl h
 cell:=fun b i hk=>ha.cell (hI.kin _ _ hk)
 σ:=fun _ _ h=>h
 σn:=fun _ _ h=>.inl h
 tk:=fun i b' c' m' z' hi=>⟨b',c',m',hi,.inl ⟨rfl,rfl,rfl⟩⟩
 tkn:=fun i b' c' m' z' hi=>.inl ⟨c',m',z',hi⟩
 kn:=fun b' o hK=>by
  rcases hK with hK | ⟨rfl,_⟩
  ·exact .inl hK
  ·exact .inr (.inl (Nat.le_refl _))
 B:=rfl
 size:=by rw[ha.size];omega
 os:=ha.os
 tape:=ha.tape
 output:=ha.output
 frame:=fun b hb _ _=>ha.old hb
theorem Inv.keep {w':World}{o:Obj}(ha:Adds w w' o)(hI:Inv G w S)(n:Nat):Inv (G.keep w.heap.size n) w' S where
 blk:=fun h x hh=>by
  obtain ⟨b,o,h1,h2,h3⟩:=hI.blk _ _ hh
  exact ⟨b,o,h1,by rw[ha.old (hI.blk_lt h1)];exact h2,h3.mono (Evo.keep ha hI n)⟩
 dom:=hI.dom
 inj:=hI.inj
 fr:=fun h b o hb=>by
  rintro (hK | ⟨rfl,_⟩)
  ·exact hI.fr _ _ _ hb hK
  ·exact hI.fresh _ hb
 base:=hI.base
 tok:=hI.tok
 tdom:=fun i b c' m' z' hi=>by
  obtain ⟨h1,h2,h3,h4,h5,⟨cs',e',h6,h7⟩,h8⟩:=hI.tdom _ _ _ _ _ hi
  exact ⟨h1,h2,h3,h4,h5,⟨cs',e',by rw[ha.old (hI.tk_lt hi)];exact h6,h7⟩,fun o ho=>by
   rcases ho with ho | ⟨rfl,_⟩
   ·exact h8 _ ho
   ·exact absurd hi (hI.freshT _ _ _ _)⟩
 tinj:=hI.tinj
 tσ:=hI.tσ
 kin:=fun b o hK=>by
  rw[ha.size]
  rcases hK with hK | ⟨rfl,_⟩
  ·exact Nat.lt_succ_of_lt (hI.kin _ _ hK)
  ·exact Nat.lt_succ_self _
 bin:=by rw[ha.size];exact Nat.le_succ_of_le hI.bin
end
end Go.Ev
