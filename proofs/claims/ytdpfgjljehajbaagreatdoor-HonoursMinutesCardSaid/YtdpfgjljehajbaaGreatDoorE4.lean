/- An evaluator of the model, part 4: runs by the kernel, builders, deferred calls. -/
import Derived.Test.YtdpfgjljehajbaaGreatDoorE3
import Derived.Shelf.Strings.Builder1
import Derived.Lib.Bytealg
import Derived.Laws.Externs
import Derived.Laws.StructEq
import Derived.RecoverIn
set_option linter.unusedVariables false
set_option linter.unusedSimpArgs false
noncomputable section
namespace Go.Ev

inductive Tri where
 | nil
 | node (v:AV) (l r:Tri)

def Tri.get (t:Tri):Nat→AV :=
 Tri.rec (motive:=fun _=>Nat→AV) (fun _=>.bad) (fun v _ _ gl gr n=>@Bool.rec (fun _=>AV) (@Bool.rec (fun _=>AV) (gr (Nat.sub (Nat.div n 2) 1)) (gl (Nat.div n 2)) (Nat.beq (Nat.mod n 2) 1)) v (Nat.beq n 0)) t
def Tri.setK {α:Type}(t:Tri)(v:AV):Nat→(Tri→α)→α :=
 Tri.rec (motive:=fun _=>Nat→(Tri→α)→α) (fun _ k=>k .nil) (fun x l r sl sr n k=>@Bool.rec (fun _=>α) (@Bool.rec (fun _=>α) (sr (Nat.sub (Nat.div n 2) 1) (fun r'=>k (.node x l r'))) (sl (Nat.div n 2) (fun l'=>k (.node x l' r))) (Nat.beq (Nat.mod n 2) 1)) (k (.node v l r)) (Nat.beq n 0)) t

theorem Tri.get_node (v:AV)(l r:Tri)(n:Nat):Tri.get (.node v l r) n=bif Nat.beq n 0 then v else bif Nat.beq (n % 2) 1 then l.get (n / 2) else r.get (n / 2-1):=by
 show @Bool.rec (fun _=>AV) (@Bool.rec (fun _=>AV) (r.get (n / 2-1)) (l.get (n / 2)) (Nat.beq (n % 2) 1)) v (Nat.beq n 0)=_
 cases Nat.beq n 0<;>cases Nat.beq (n % 2) 1<;>rfl
theorem Tri.setK_node {α:Type}(x:AV)(l r:Tri)(v:AV)(n:Nat)(k:Tri→α):Tri.setK (.node x l r) v n k=bif Nat.beq n 0 then k (.node v l r) else bif Nat.beq (n % 2) 1 then l.setK v (n / 2) (fun l'=>k (.node x l' r)) else r.setK v (n / 2-1) (fun r'=>k (.node x l r')):=by
 show @Bool.rec (fun _=>α) (@Bool.rec (fun _=>α) (r.setK v (n / 2-1) (fun r'=>k (.node x l r'))) (l.setK v (n / 2) (fun l'=>k (.node x l' r))) (Nat.beq (n % 2) 1)) (k (.node v l r)) (Nat.beq n 0)=_
 cases Nat.beq n 0<;>cases Nat.beq (n % 2) 1<;>rfl

def Tri.full:Nat→Tri
 | 0=>.nil
 | d+1=>.node .bad (Tri.full d) (Tri.full d)

def Tri.has (t:Tri):Nat→Bool :=
 Tri.rec (motive:=fun _=>Nat→Bool) (fun _=>false) (fun _ _ _ hl hr n=>bif Nat.beq n 0 then true else bif Nat.beq (n % 2) 1 then hl (n / 2) else hr (n / 2-1)) t

theorem z7i {n m:Nat}(h:n≠m):Nat.beq n m=false:=by
 cases e:Nat.beq n m with
 | false=>rfl
 | true=>exact absurd (Nat.eq_of_beq_eq_true e) h
theorem y3r {n m:Nat}(h:n=m):Nat.beq n m=true:=by subst h;exact Nat.beq_refl n

theorem Tri.setK_spec {α:Type}:∀ (t:Tri) (v:AV) (n:Nat) (k:Tri→α),∃ t':Tri,t.setK v n k=k t'∧(∀ m,m≠n→t'.get m=t.get m)∧(t.has n=true→t'.get n=v)∧(∀ m,t'.has m=t.has m)
 | .nil,v,n,k=>⟨.nil,rfl,fun _ _=>rfl,fun h=>by simp[Tri.has]at h,fun _=>rfl⟩
 | .node x l r,v,n,k=>by
  rw[Tri.setK_node]
  by_cases h0:n=0
  ·subst h0
   refine ⟨.node v l r,rfl,fun m hm=>?_,fun _=>rfl,fun _=>rfl⟩
   rw[Tri.get_node,Tri.get_node]
   have:Nat.beq m 0=false:=z7i hm
   simp[this]
  ·have hb:Nat.beq n 0=false:=z7i h0
   by_cases h1:n % 2=1
   ·obtain ⟨l',q1,q2,q3,q4⟩:=Tri.setK_spec l v (n / 2) (fun l'=>k (.node x l' r))
    have hb1:Nat.beq (n % 2) 1=true:=y3r h1
    refine ⟨.node x l' r,by simp only[hb,hb1,cond_false,cond_true];exact q1,fun m hm=>?_,fun hh=>?_,fun m=>?_⟩
    ·rw[Tri.get_node,Tri.get_node]
     by_cases g0:m=0
     ·subst g0;rfl
     ·have gb:Nat.beq m 0=false:=z7i g0
      by_cases g1:m % 2=1
      ·have gb1:Nat.beq (m % 2) 1=true:=y3r g1
       simp only[gb,gb1,cond_false,cond_true]
       exact q2 _ (by omega)
      ·have gb1:Nat.beq (m % 2) 1=false:=z7i g1
       simp only[gb,gb1,cond_false]
    ·rw[Tri.get_node]
     simp only[hb,hb1,cond_false,cond_true]
     refine q3 ?_
     have:Tri.has (.node x l r) n=bif Nat.beq n 0 then true else bif Nat.beq (n % 2) 1 then l.has (n / 2) else r.has (n / 2-1):=rfl
     rw[this,hb,hb1]at hh
     exact hh
    ·show (bif Nat.beq m 0 then true else bif Nat.beq (m % 2) 1 then l'.has (m / 2) else r.has (m / 2-1))=bif Nat.beq m 0 then true else bif Nat.beq (m % 2) 1 then l.has (m / 2) else r.has (m / 2-1)
     rw[q4]
   ·obtain ⟨r',q1,q2,q3,q4⟩:=Tri.setK_spec r v (n / 2-1) (fun r'=>k (.node x l r'))
    have hb1:Nat.beq (n % 2) 1=false:=z7i h1
    refine ⟨.node x l r',by simp only[hb,hb1,cond_false];exact q1,fun m hm=>?_,fun hh=>?_,fun m=>?_⟩
    ·rw[Tri.get_node,Tri.get_node]
     by_cases g0:m=0
     ·subst g0;rfl
     ·have gb:Nat.beq m 0=false:=z7i g0
      by_cases g1:m % 2=1
      ·have gb1:Nat.beq (m % 2) 1=true:=y3r g1
       simp only[gb,gb1,cond_false,cond_true]
      ·have gb1:Nat.beq (m % 2) 1=false:=z7i g1
       simp only[gb,gb1,cond_false]
       exact q2 _ (by omega)
    ·rw[Tri.get_node]
     simp only[hb,hb1,cond_false]
     refine q3 ?_
     have:Tri.has (.node x l r) n=bif Nat.beq n 0 then true else bif Nat.beq (n % 2) 1 then l.has (n / 2) else r.has (n / 2-1):=rfl
     rw[this,hb,hb1]at hh
     exact hh
    ·show (bif Nat.beq m 0 then true else bif Nat.beq (m % 2) 1 then l.has (m / 2) else r'.has (m / 2-1))=bif Nat.beq m 0 then true else bif Nat.beq (m % 2) 1 then l.has (m / 2) else r.has (m / 2-1)
     rw[q4]

structure RelT (t:Tri) (env:Env):Prop where
 get:∀ i,t.get i=env.getD i .bad
 has:∀ i,i < env.length→t.has i=true

structure SelfT where
 call:FuncId→List AV→St→Option (CR×St)
 loop:Code→Nat→Tri→St→Option (EX×Tri×St)

def x1c (C:Cx)(t:Tri):Operand→AV
 | .tmp i=>t.get i
 | x=>z1l C [] x
def x00 (C:Cx)(l:List Tmp)(t:Tri):Operand→AV
 | .tmp i=>if l.contains i then t.get i else .bad
 | x=>z1l C [] x
def y6d {α:Type}(n:Nat)(t:Tri)(dst:Option Tmp)(v:AV)(k:Tri→α):α :=
 match dst with
 | some d=>@Bool.rec (fun _=>α) (k t) (t.setK v d k) (Nat.blt d n)
 | none=>k t
def y27 (ops:Array Oper)(n:Nat)(t:Tri)(o:Oper):Option Bool :=
 match o.guard with
 | none=>some true
 | some (j,want)=>match (ops[j]?).bind (·.dst) with
  | some d=>match t.get d with
   | .bool b=>if d < n then some (b == want) else none
   | .tup []=>if d < n then some false else none
   | _=>none
  | none=>none

variable (C:Cx)

def z7d (call:FuncId→List AV→St→Option (CR×St))(ops:Array Oper)(n:Nat):List Oper→Tri→St→Option (EX×Tri×St)
 | [],t,S=>some (.normal,t,S)
 | o::rest,t,S=>match y27 ops n t o with
  | some true=>match opA C ⟨call,fun _ _ _=>none⟩ S (x1c C t) o.op with
   | some (.ret v,S')=>y6d n t o.dst v fun t'=>z7d call ops n rest t' S'
   | some (.pan v,S')=>some (.pan v,t,S')
   | none=>none
  | some false=>y6d n t o.dst (.tup []) fun t'=>z7d call ops n rest t' S
  | none=>none

def z5u (call:FuncId→List AV→St→Option (CR×St))(ops:Array Oper)(n:Nat)(S0:St):List Oper→Nat→Tri→St→DN→Option (Tri×St)
 | [],_,t,S,_=>some (t,S)
 | o::rest,j,t,S,D=>match y27 ops n t o with
  | some true=>match z1n C ⟨call,fun _ _ _=>none⟩ ops S0 S D j (x00 C (o.looksAt ops) t) o.op with
   | some (v,S',D')=>y6d n t o.dst v fun t'=>z5u call ops n S0 rest (j+1) t' S' D'
   | none=>none
  | some false=>y6d n t o.dst (.tup []) fun t'=>z5u call ops n S0 rest (j+1) t' S D
  | none=>none

def evT (self:SelfT)(n:Nat):Code→Tri→St→Option (EX×Tri×St)
 | .skip,t,S=>some (.normal,t,S)
 | .region _ ops false,t,S=>z7d C self.call ops n ops.toList t S
 | .region _ ops true,t,S=>if y3j ops=true then
   match z5u C self.call ops n S (ops.toList.take (ops.size-1)) 0 t S ⟨[],[]⟩ with
   | some (t',S')=>z7d C self.call ops n (ops.toList.drop (ops.size-1)) t' S'
   | none=>none
  else match z5u C self.call ops n S (ops.toList.take ops.size) 0 t S ⟨[],[]⟩ with
   | some (t',S')=>some (.normal,t',S')
   | none=>none
 | .seq a b,t,S=>match evT self n a t S with
  | some (.normal,t',S')=>evT self n b t' S'
  | r=>r
 | .cond c a b,t,S=>match x1c C t c with
  | .bool x=>if x then evT self n a t S else evT self n b t S
  | _=>none
 | .block id c,t,S=>match evT self n c t S with
  | some (.exit i,t',S')=>if i=id then some (.normal,t',S') else some (.exit i,t',S')
  | r=>r
 | .loop c,t,S=>self.loop c n t S
 | .exit id,t,S=>some (.exit id,t,S)
 | .ret,t,S=>some (.ret,t,S)
 | _,_,_=>none

def y6a (t:Tri)(S:St):List ResultVar→Option (List AV)
 | []=>some []
 | .tmp i::l=>match y6a t S l with
  | some r=>some (t.get i::r)
  | none=>none
 | .cell a ty::l=>match t.get a with
  | .ptr h off=>match z4k C S ty (.ptr h off),y6a t S l with
   | some v,some r=>some (v::r)
   | _,_=>none
  | _=>none
def z7m (fn:Func)(t:Tri)(S:St):Option AV :=
 match y6a C t S fn.results.toList with
 | some [v]=>some v
 | some l=>some (.tup l)
 | none=>none

def y5y {α:Type}:List AV→Nat→Tri→(Tri→α)→α
 | [],_,t,k=>k t
 | a::l,i,t,k=>t.setK a i fun t'=>y5y l (i+1) t' k

def y3l:Nat→Nat→Nat
 | 0,_=>0
 | f+1,n=>bif Nat.beq n 0 then 0 else y3l f (n / 2)+1

def x1s (self:SelfT)(g:FuncId)(args:List AV)(S:St):Option (CR×St) :=
 match C.P.funcs[g]? with
 | some fn=>match fn.body with
  | some c=>if max fn.ntmps args.length < 2 ^ y3l 64 (max fn.ntmps args.length) then y5y args 0 (Tri.full (y3l 64 (max fn.ntmps args.length))) fun t=>match evT C self (max fn.ntmps args.length) c t { S with wl:=[] } with
   | some (.normal,t',S')=>match z7m C fn t' S' with
    | some r=>some (.ret (finish C S S' r).1,(finish C S S' r).2)
    | none=>none
   | some (.ret,t',S')=>match z7m C fn t' S' with
    | some r=>some (.ret (finish C S S' r).1,(finish C S S' r).2)
    | none=>none
   | some (.pan v,_,S')=>some (.pan (finish C S S' v).1,(finish C S S' v).2)
   | _=>none
   else none
  | none=>none
 | none=>none
def x01 (self:SelfT)(c:Code)(n:Nat)(t:Tri)(S:St):Option (EX×Tri×St) :=
 match evT C self n c t S with
 | some (.normal,t',S')=>self.loop c n t' S'
 | r=>r
def z3y:Nat→SelfT
 | 0=>{ call:=fun _ _ _=>none,loop:=fun _ _ _ _=>none }
 | n+1=>{ call:=x1s C (z3y n),loop:=x01 C (z3y n) }
end Go.Ev
namespace Go.Ev

variable {C:Cx}

theorem y80 {t:Tri}{env:Env}(h:RelT t env):x1c C t=z1l C env:=by
 funext x
 cases x with
 | tmp i=>exact h.get i
 | const v=>rfl
 | global g=>rfl
 | func f=>rfl
theorem x4i {t:Tri}{env:Env}(h:RelT t env)(l:List Tmp):x00 C l t=z5i C l env:=by
 funext x
 cases x with
 | tmp i=>simp only[x00,z5i];split;exact h.get i;rfl
 | const v=>rfl
 | global g=>rfl
 | func f=>rfl
theorem y43 {t:Tri}{env:Env}(h:RelT t env)(ops:Array Oper)(o:Oper):y27 ops env.length t o=z1o ops env o:=by
 rcases o with ⟨_,_,_,_,_,g⟩
 cases g with
 | none=>rfl
 | some p =>
  obtain ⟨j,w⟩:=p
  simp only[y27,z1o]
  cases (ops[j]?).bind (·.dst) with
  | none=>rfl
  | some d =>
   simp only[h.get]
   generalize env.getD d .bad=x
   cases x<;>(first | rfl | (rename_i l;cases l<;>rfl))

theorem y3a {α:Type}{t:Tri}{env:Env}(h:RelT t env)(dst:Option Tmp)(v:AV)(k:Tri→α):∃ t',y6d env.length t dst v k=k t'∧RelT t' (z1u env dst v):=by
 unfold y6d z1u
 cases dst with
 | none=>exact ⟨t,rfl,h⟩
 | some d =>
  simp only
  by_cases hd:d < env.length
  ·obtain ⟨t',q1,q2,q3,q4⟩:=Tri.setK_spec t v d k
   have:Nat.blt d env.length=true:=by simpa using hd
   refine ⟨t',by rw[this];exact q1,fun i=>?_,fun i hi=>?_⟩
   ·by_cases e:i=d
    ·subst e
     rw[q3 (h.has i hd),List.getD_eq_getElem?_getD,List.getElem?_set_self hd];rfl
    ·rw[q2 i e,h.get,List.getD_eq_getElem?_getD,List.getD_eq_getElem?_getD,List.getElem?_set_ne (Ne.symm e)]
   ·rw[q4];exact h.has i (by simpa using hi)
  ·have:Nat.blt d env.length=false:=by
    cases e:Nat.blt d env.length with
    | false=>rfl
    | true=>exact absurd (by simpa using e) hd
   refine ⟨t,by rw[this],?_⟩
   rw[List.set_eq_of_length_le (Nat.le_of_not_lt hd)];exact h

theorem z3j (env:Env)(dst:Option Tmp)(v:AV):(z1u env dst v).length=env.length:=by unfold z1u;split<;>simp

def call (s:Self):=s.call
variable {cl:FuncId→List AV→St→Option (CR×St)}{s:Self}{ops:Array Oper}

theorem z90 (hc:∀ (g:FuncId) args S r,cl g args S=some r→s.call g args S=some r):∀ (rest:List Oper) (t:Tri) (env:Env) (S:St) (x:EX) (t':Tri) (S':St),RelT t env →
  z7d C cl ops env.length rest t S=some (x,t',S')→∃ env',z2g C s ops rest env S=some (x,env',S')∧RelT t' env'∧env'.length=env.length
 | [],t,env,S,x,t',S',hr,h=>by
  simp only[z7d,Option.some.injEq,Prod.mk.injEq]at h
  obtain ⟨rfl,rfl,rfl⟩:=h
  exact ⟨env,rfl,hr,rfl⟩
 | o::rest,t,env,S,x,t',S',hr,h=>by
  simp only[z7d,y43 hr,y80 hr]at h
  simp only[z2g]
  split at h
  ·rename_i hw
   split at h
   ·rename_i v S1 hop
    rw[hw];simp only
    rw[x2t (s:=⟨cl,fun _ _ _=>none⟩) hc hop]
    obtain ⟨t1,q1,q2⟩:=y3a hr o.dst v (fun t'=>z7d C cl ops env.length rest t' S1)
    rw[q1]at h
    obtain ⟨env',p1,p2,p3⟩:=z90 hc rest t1 _ _ _ _ _ q2 (by rw[z3j];exact h)
    exact ⟨env',p1,p2,by rw[p3,z3j]⟩
   ·rename_i v S1 hop
    rw[hw];simp only
    rw[x2t (s:=⟨cl,fun _ _ _=>none⟩) hc hop]
    cases h
    exact ⟨env,rfl,hr,rfl⟩
   ·cases h
  ·rename_i hw
   rw[hw];simp only
   obtain ⟨t1,q1,q2⟩:=y3a hr o.dst (.tup []) (fun t'=>z7d C cl ops env.length rest t' S)
   rw[q1]at h
   obtain ⟨env',p1,p2,p3⟩:=z90 hc rest t1 _ _ _ _ _ q2 (by rw[z3j];exact h)
   exact ⟨env',p1,p2,by rw[p3,z3j]⟩
  ·cases h

theorem z8q (hc:∀ (g:FuncId) args S r,cl g args S=some r→s.call g args S=some r){S0:St}:∀ (rest:List Oper) (j:Nat) (t:Tri) (env:Env) (S:St) (D:DN) (t':Tri) (S':St),RelT t env →
  z5u C cl ops env.length S0 rest j t S D=some (t',S')→∃ env',z11 C s ops S0 rest j env S D=some (env',S')∧RelT t' env'∧env'.length=env.length
 | [],j,t,env,S,D,t',S',hr,h=>by
  simp only[z5u,Option.some.injEq,Prod.mk.injEq]at h
  obtain ⟨rfl,rfl⟩:=h
  exact ⟨env,rfl,hr,rfl⟩
 | o::rest,j,t,env,S,D,t',S',hr,h=>by
  simp only[z5u,y43 hr,x4i hr]at h
  simp only[z11]
  split at h
  ·rename_i hw
   split at h
   ·rename_i v S1 D1 hop
    rw[hw];simp only
    rw[x3b (s:=⟨cl,fun _ _ _=>none⟩) hc hop]
    obtain ⟨t1,q1,q2⟩:=y3a hr o.dst v (fun t'=>z5u C cl ops env.length S0 rest (j+1) t' S1 D1)
    rw[q1]at h
    obtain ⟨env',p1,p2,p3⟩:=z8q hc rest _ t1 _ _ _ _ _ q2 (by rw[z3j];exact h)
    exact ⟨env',p1,p2,by rw[p3,z3j]⟩
   ·cases h
  ·rename_i hw
   rw[hw];simp only
   obtain ⟨t1,q1,q2⟩:=y3a hr o.dst (.tup []) (fun t'=>z5u C cl ops env.length S0 rest (j+1) t' S D)
   rw[q1]at h
   obtain ⟨env',p1,p2,p3⟩:=z8q hc rest _ t1 _ _ _ _ _ q2 (by rw[z3j];exact h)
   exact ⟨env',p1,p2,by rw[p3,z3j]⟩
  ·cases h

structure SelfRel (st:SelfT) (s:Self):Prop where
 call:∀ (g:FuncId) args S r,st.call g args S=some r→s.call g args S=some r
 loop:∀ c t env S x t' S',RelT t env→st.loop c env.length t S=some (x,t',S')→∃ env',s.loop c env S=some (x,env',S')∧RelT t' env'∧env'.length=env.length

theorem y2t {st:SelfT}(hs:SelfRel st s):∀ (c:Code) (t:Tri) (env:Env) (S:St) (x:EX) (t':Tri) (S':St),RelT t env→evT C st env.length c t S=some (x,t',S') →
  ∃ env',evC C s c env S=some (x,env',S')∧RelT t' env'∧env'.length=env.length:=by
 intro c
 induction c<;>intro t env S x t' S' hr h
 case skip =>
  simp only[evT,Option.some.injEq,Prod.mk.injEq]at h
  obtain ⟨rfl,rfl,rfl⟩:=h
  exact ⟨env,rfl,hr,rfl⟩
 case region id ops d =>
  cases d
  ·simp only[evT]at h;simp only[evC];exact z90 hs.call _ _ _ _ _ _ _ hr h
  ·simp only[evT]at h
   simp only[evC]
   split at h
   ·rename_i hf
    rw[if_pos hf]
    split at h<;>try cases h
    rename_i t1 S1 h1
    obtain ⟨env1,p1,p2,p3⟩:=z8q hs.call _ _ _ _ _ _ _ _ hr h1
    rw[p1]
    obtain ⟨env2,q1,q2,q3⟩:=z90 hs.call _ _ _ _ _ _ _ p2 (by rw[p3];exact h)
    exact ⟨env2,q1,q2,by rw[q3,p3]⟩
   ·rename_i hf
    rw[if_neg hf]
    split at h<;>cases h
    rename_i h1
    obtain ⟨env1,p1,p2,p3⟩:=z8q hs.call _ _ _ _ _ _ _ _ hr h1
    rw[p1]
    exact ⟨env1,rfl,p2,p3⟩
 case seq a b iha ihb =>
  simp only[evT]at h
  simp only[evC]
  split at h
  ·rename_i t1 S1 h1
   obtain ⟨env1,p1,p2,p3⟩:=iha _ _ _ _ _ _ hr h1
   rw[p1]
   obtain ⟨env2,q1,q2,q3⟩:=ihb _ _ _ _ _ _ p2 (by rw[p3];exact h)
   exact ⟨env2,q1,q2,by rw[q3,p3]⟩
  ·rename_i hne
   obtain ⟨env1,p1,p2,p3⟩:=iha _ _ _ _ _ _ hr h
   rw[p1]
   cases x with
   | normal=>exact absurd h (hne _ _)
   | exit i=>exact ⟨env1,rfl,p2,p3⟩
   | ret=>exact ⟨env1,rfl,p2,p3⟩
   | pan v=>exact ⟨env1,rfl,p2,p3⟩
 case cond c a b iha ihb =>
  simp only[evT,y80 hr]at h
  simp only[evC]
  split at h<;>try cases h
  rename_i hcv
  rw[hcv];simp only
  split at h
  ·rename_i hb;rw[if_pos hb];exact iha _ _ _ _ _ _ hr h
  ·rename_i hb;rw[if_neg hb];exact ihb _ _ _ _ _ _ hr h
 case block id c ih =>
  simp only[evT]at h
  simp only[evC]
  split at h
  ·rename_i i t1 S1 h1
   obtain ⟨env1,p1,p2,p3⟩:=ih _ _ _ _ _ _ hr h1
   rw[p1]
   simp only
   split at h
   ·rename_i hi;rw[if_pos hi];cases h;exact ⟨env1,rfl,p2,p3⟩
   ·rename_i hi;rw[if_neg hi];cases h;exact ⟨env1,rfl,p2,p3⟩
  ·rename_i hne
   obtain ⟨env1,p1,p2,p3⟩:=ih _ _ _ _ _ _ hr h
   rw[p1]
   cases x with
   | normal=>exact ⟨env1,rfl,p2,p3⟩
   | exit i=>exact absurd h (hne _ _ _)
   | ret=>exact ⟨env1,rfl,p2,p3⟩
   | pan v=>exact ⟨env1,rfl,p2,p3⟩
 case loop c ih=>simp only[evT]at h;simp only[evC];exact hs.loop _ _ _ _ _ _ _ hr h
 case exit id =>
  simp only[evT,Option.some.injEq,Prod.mk.injEq]at h
  obtain ⟨rfl,rfl,rfl⟩:=h
  exact ⟨env,rfl,hr,rfl⟩
 case ret =>
  simp only[evT,Option.some.injEq,Prod.mk.injEq]at h
  obtain ⟨rfl,rfl,rfl⟩:=h
  exact ⟨env,rfl,hr,rfl⟩
 all_goals (simp only[evT]at h;cases h)

theorem y59 {t:Tri}{env:Env}(hr:RelT t env)(S:St):∀ l,y6a C t S l=z6d C env S l
 | []=>rfl
 | .tmp i::l=>by simp only[y6a,z6d,y59 hr S l,hr.get];rfl
 | .cell a ty::l=>by simp only[y6a,z6d,y59 hr S l,hr.get];rfl
theorem y3z {t:Tri}{env:Env}(hr:RelT t env)(fn:Func)(S:St):z7m C fn t S=z0v C fn env S:=by
 unfold z7m z0v
 rw[y59 hr]
 rfl

theorem y4u:∀ (d i:Nat),(Tri.full d).get i=.bad
 | 0,i=>rfl
 | d+1,i=>by
  show Tri.get (.node .bad (Tri.full d) (Tri.full d)) i=_
  rw[Tri.get_node,y4u d,y4u d]
  cases Nat.beq i 0<;>cases Nat.beq (i % 2) 1<;>rfl
theorem y1g:∀ (d i:Nat),i+1 < 2 ^ d→(Tri.full d).has i=true
 | 0,i,h=>by simp at h
 | d+1,i,h=>by
  show (bif Nat.beq i 0 then true else bif Nat.beq (i % 2) 1 then (Tri.full d).has (i / 2) else (Tri.full d).has (i / 2-1))=true
  have hp:2 ^ (d+1)=2*2 ^ d:=by rw[Nat.pow_succ];omega
  by_cases h0:i=0
  ·subst h0;rfl
  ·rw[z7i h0]
   by_cases h1:i % 2=1
   ·rw[y3r h1];exact y1g d _ (by omega)
   ·rw[z7i h1];exact y1g d _ (by omega)

theorem y5x {α:Type}:∀ (l:List AV) (i:Nat) (t:Tri) (k:Tri→α),(∀ j,j < l.length→t.has (i+j)=true)→∃ t',y5y l i t k=k t'∧(∀ m,t'.get m=if i≤m∧m < i+l.length then l.getD (m-i) .bad else t.get m)∧∀ m,t'.has m=t.has m
 | [],i,t,k,h=>⟨t,rfl,fun m=>by rw[if_neg (by intro hh;have:=hh.2;simp at this;omega)],fun _=>rfl⟩
 | a::l,i,t,k,h=>by
  obtain ⟨t1,q1,q2,q3,q4⟩:=Tri.setK_spec t a i (fun t'=>y5y l (i+1) t' k)
  obtain ⟨t2,p1,p2,p3⟩:=y5x l (i+1) t1 k fun j hj=>by rw[q4,show i+1+j=i+(j+1) by omega];exact h (j+1) (by simp;omega)
  refine ⟨t2,by simp only[y5y];rw[q1,p1],fun m=>?_,fun m=>by rw[p3,q4]⟩
  rw[p2]
  have hh:=h 0 (by simp)
  simp only[Nat.add_zero]at hh
  simp only[List.length_cons]
  by_cases h1:i+1≤m∧m < i+1+l.length
  ·rw[if_pos h1,if_pos (by omega),show m-i=(m-(i+1))+1 by omega]
   simp[List.getD_eq_getElem?_getD]
  ·rw[if_neg h1]
   by_cases h2:m=i
   ·subst h2
    rw[q3 hh,if_pos (by omega)];simp
   ·rw[q2 m h2,if_neg (by omega)]

theorem x4y {st:SelfT}(hs:SelfRel st s){g:FuncId}{args:List AV}{S:St}{r:CR×St}(h:x1s C st g args S=some r):y1p C s g args S=some r:=by
 unfold x1s at h
 unfold y1p
 split at h<;>try cases h
 rename_i fn hfn
 split at h<;>try cases h
 rename_i c hc
 split at h<;>try cases h
 rename_i hdep
 obtain ⟨t,q1,q2,q3⟩:=y5x args 0 (Tri.full (y3l 64 (max fn.ntmps args.length))) (fun t=>match evT C st (max fn.ntmps args.length) c t { S with wl:=[] } with
   | some (EX.normal,t',S')=>match z7m C fn t' S' with
    | some r=>some (CR.ret (finish C S S' r).1,(finish C S S' r).2)
    | none=>none
   | some (EX.ret,t',S')=>match z7m C fn t' S' with
    | some r=>some (CR.ret (finish C S S' r).1,(finish C S S' r).2)
    | none=>none
   | some (EX.pan v,_,S')=>some (CR.pan (finish C S S' v).1,(finish C S S' v).2)
   | _=>none) (fun j hj=>y1g _ _ (by have:args.length≤max fn.ntmps args.length:=Nat.le_max_right _ _;omega))
 replace h:=q1.symm.trans h
 have hlen:(args++List.replicate (fn.ntmps-args.length) AV.bad).length=max fn.ntmps args.length:=by
  simp only[List.length_append,List.length_replicate];omega
 have hrel:RelT t (args++List.replicate (fn.ntmps-args.length) .bad):=by
  refine ⟨fun i=>?_,fun i hi=>?_⟩
  ·rw[q2]
   simp only[List.getD_eq_getElem?_getD]
   by_cases hi:i < args.length
   ·rw[if_pos (by omega),List.getElem?_append_left hi];simp
   ·rw[if_neg (by omega),y4u,List.getElem?_append_right (by omega)]
    cases e:(List.replicate (fn.ntmps-args.length) AV.bad)[i-args.length]? with
    | none=>rfl
    | some y =>
     have:=List.mem_of_getElem? e
     simp at this
     simp[this.2]
  ·rw[q3];rw[hlen]at hi;exact y1g _ _ (by omega)
 simp only[hfn,hc]
 split at h
 ·rename_i t' S' hev
  rw[← hlen]at hev
  obtain ⟨env',p1,p2,p3⟩:=y2t hs c t _ _ _ _ _ hrel hev
  rw[p1]
  simp only[y3z p2]at h
  exact h
 ·rename_i t' S' hev
  rw[← hlen]at hev
  obtain ⟨env',p1,p2,p3⟩:=y2t hs c t _ _ _ _ _ hrel hev
  rw[p1]
  simp only[y3z p2]at h
  exact h
 ·rename_i v t' S' hev
  rw[← hlen]at hev
  obtain ⟨env',p1,p2,p3⟩:=y2t hs c t _ _ _ _ _ hrel hev
  rw[p1]
  exact h
 ·cases h

theorem x4j {st:SelfT}(hs:SelfRel st s){c:Code}{t t':Tri}{env:Env}{S S':St}{x:EX}(hr:RelT t env)(h:x01 C st c env.length t S=some (x,t',S')):∃ env',y1c C s c env S=some (x,env',S')∧RelT t' env'∧env'.length=env.length:=by
 unfold x01 at h
 unfold y1c
 split at h
 ·rename_i t1 S1 h1
  obtain ⟨env1,p1,p2,p3⟩:=y2t hs c t env _ _ _ _ hr h1
  rw[p1]
  obtain ⟨env2,q1,q2,q3⟩:=hs.loop _ _ _ _ _ _ _ p2 (by rw[p3];exact h)
  exact ⟨env2,q1,q2,by rw[q3,p3]⟩
 ·rename_i hne
  obtain ⟨env1,p1,p2,p3⟩:=y2t hs c t env _ _ _ _ hr h
  rw[p1]
  cases x with
  | normal=>exact absurd h (hne _ _)
  | exit i=>exact ⟨env1,rfl,p2,p3⟩
  | ret=>exact ⟨env1,rfl,p2,p3⟩
  | pan v=>exact ⟨env1,rfl,p2,p3⟩

theorem y3f:∀ n,SelfRel (z3y C n) (lev C n)
 | 0=>⟨fun _ _ _ _ h=>by simp[z3y]at h,fun _ _ _ _ _ _ _ _ h=>by simp[z3y]at h⟩
 | n+1=>⟨fun _ _ _ _ h=>x4y (y3f n) h,fun _ _ _ _ _ _ _ hr h=>x4j (y3f n) hr h⟩
end Go.Ev
namespace Go.Ev
open Go.RowKit Go.Shelf Go.Proofs

set_option maxHeartbeats 1000000 in
set_option maxRecDepth 100000 in
theorem x1u {P:Program}{ρ:Ren}(L:Lays.n169 P ρ)(X:Builder.Extra P ρ)(b g cap cells:Nat)(l:List UInt8)(w:World)(h0:l≠[])(c0:w.cell? ⟨b,1,none⟩=some (.slice (some ⟨g,0,none⟩) l.length cap))(hcap:l.length≤cap)
  (hsh:w.shape? g=some (ρ.t 5,cells)) (hn:l.length≤cells) (h63:l.length≤9223372036854775807) (hcell:∀ j x,l[j]?=some x→w.cell? ⟨g,j,none⟩=some (.int .u8 x.toNat)) :
  Calls P (ρ.f 169) #[.pointer (some ⟨b,0,none⟩)] w fun e w'=>e=.returned (.string ⟨l.toArray⟩)∧w'=w.drew.freeze ⟨g,0,none⟩ l.length:=by
 have hl0:l.length≠0:=by simpa using h0
 have c1:w.drew.cell? ⟨b,1,none⟩=some (.slice (some ⟨g,0,none⟩) l.length cap):=c0
 have hSD:(Builtin.unsafeSliceData_ #[(ρ.t 37)] (ρ.t 127) #[.slice (some ⟨g,0,none⟩) l.length cap]).run P w.drew=.ok (.pointer (some ⟨g,0,none⟩)) w.drew :=
  Lib.run_unsafeSliceData_row _ _ _ _ _ _ (by omega)
 have hUS:(Builtin.unsafeString_ #[(ρ.t 127),(ρ.t 3)] (ρ.t 9) #[.pointer (some ⟨g,0,none⟩),.int .i64 l.length]).run P w.drew=.ok (.string ⟨l.toArray⟩) (w.drew.freeze ⟨g,0,none⟩ l.length):=by
  refine Lib.run_unsafeString_row w.drew (ρ.t 127) (ρ.t 3) (ρ.t 9) (ρ.t 5) L.t127 X.cellsByte g cells hsh l h0 hn h63 ?_
  intro j x hx
  rw[Addr.add_lit,Nat.zero_add]
  exact hcell j x hx
 have mixed:=L.mixed
 have t72:=L.t72;have a72:=L.a72;have z72:=L.z72;have v72:=L.v72;have u72:=run_underlying L.t72
 have t70:=L.t70;have a70:=L.a70;have z70:=L.z70;have v70:=L.v70;have u70:=run_underlying L.t70
 have t37:=L.t37;have a37:=L.a37;have z37:=L.z37;have v37:=L.v37;have u37:=run_underlying L.t37
 have t127:=L.t127;have a127:=L.a127;have z127:=L.z127;have v127:=L.v127;have u127:=run_underlying L.t127
 have t3:=L.t3;have a3:=L.a3;have z3:=L.z3;have v3:=L.v3;have u3:=run_underlying L.t3
 have t9:=L.t9;have a9:=L.a9;have z9:=L.z9;have v9:=L.v9;have u9:=run_underlying L.t9
 have t5:=X.t5;have a5:=X.a5;have z5:=X.z5;have v5:=X.v5;have u5:=run_underlying X.t5
 go_enter L.f169,Body.n169_ntmps ρ
 go_wp2
 go_region_o
 all_goals (go_wp2;go_ret;exact ⟨rfl,rfl⟩)
end Go.Ev
namespace Go.Ev
open Go.RowKit Go.Shelf Go.Proofs

def y2y:List AV→Option (List UInt8)
 | []=>some []
 | .int .u8 n::l=>if 0≤n∧n < 256 then match y2y l with | some r=>some (UInt8.ofNat n.toNat::r) | none=>none else none
 | _=>none
theorem y5s:∀ {l:List AV} {bs:List UInt8},y2y l=some bs→l=bs.map fun b=>.int .u8 (b.toNat:Int)
 | [],bs,h=>by simp[y2y]at h;subst h;rfl
 | a::l,bs,h=>by
  unfold y2y at h
  split at h<;>try cases h
  ·contradiction
  ·rename_i n l' he
   cases he
   split at h<;>try cases h
   rename_i hn
   split at h<;>cases h
   rename_i r hr
   have:=y5s hr
   rw[List.map_cons,← this]
   congr 1
   have h1:(UInt8.ofNat n.toNat).toNat=n.toNat:=by
    simp[UInt8.toNat_ofNat']
    omega
   rw[h1]
   congr 1
   omega

section
variable {C:Cx}{G:Gh}{w:World}{S:St}
theorem Inv.refreeze {w':World}{k b c m:Nat}{z:Nat×Nat}{cs:Array Value}{e:TypeId}{fz fz':Nat×Nat}(hI:Inv G w S)(hk:G.tk k=some (b,c,m,z))(hb:w.heap[b]?=some (.cells cs e fz))(hm:Mods w w' b (.cells cs e fz'))
  (hf:fz'.2≤m*z.1):Inv G w' S∧Evo G w G w':=by
 have hE:Evo G w G w':={
  k:=fun _ _ h=>h
  cell:=fun b' i hK=>by
   by_cases hbb:b'=b
   ·subst hbb;simp[World.cell?,hb,hm.at_]
   ·simp[World.cell?,hm.other _ hbb]
  σ:=fun _ _ h=>h
  σn:=fun _ _ h=>.inl h
  tk:=fun i b' c' m' z' hi=>⟨b',c',m',hi,.inl ⟨rfl,rfl,rfl⟩⟩
  tkn:=fun i b' c' m' z' hi=>.inl ⟨c',m',z',hi⟩
  kn:=fun _ _ h=>.inl h
  B:=rfl
  size:=by rw[hm.size];exact Nat.le_refl _
  os:=hm.os
  tape:=hm.tape
  output:=hm.output
  frame:=fun b' hb' _ h2=>hm.other _ (fun e=>h2 k c m z (e ▸ hk)) }
 refine ⟨?_,hE⟩
 exact {
  blk:=fun h x hh=>by
   obtain ⟨b',o,h1,h2,h3⟩:=hI.blk _ _ hh
   have:b'≠b:=fun e'=>hI.tσ _ _ _ _ _ h hk (e' ▸ h1)
   exact ⟨b',o,h1,by rw[hm.other _ this];exact h2,h3.mono hE⟩
  dom:=hI.dom
  inj:=hI.inj
  fr:=hI.fr
  base:=hI.base
  tok:=hI.tok
  tdom:=fun i b' c' m' z' hi=>by
   obtain ⟨h1,h2,h3,h4,h5,⟨cs2,e2,h6,h7⟩,h8⟩:=hI.tdom _ _ _ _ _ hi
   by_cases hbb:b'=b
   ·subst hbb
    have:=hI.tinj _ _ _ _ _ _ _ _ _ hi hk
    subst this
    rw[hk]at hi
    cases hi
    obtain ⟨fz2,h6,_⟩:=h6
    rw[hb]at h6
    cases h6
    exact ⟨h1,h2,h3,h4,h5,⟨cs,e,⟨fz',hm.at_,hf⟩,h7⟩,h8⟩
   ·exact ⟨h1,h2,h3,h4,h5,⟨cs2,e2,by rw[hm.other _ hbb];exact h6,h7⟩,h8⟩
  tinj:=hI.tinj
  tσ:=hI.tσ
  kin:=fun b' o hK=>by rw[hm.size];exact hI.kin _ _ hK
  bin:=by rw[hm.size];exact hI.bin }

theorem Mods.freeze {b n:Nat}{cs:Array Value}{e:TypeId}{fz:Nat×Nat}(hb:w.heap[b]?=some (.cells cs e fz))(hn:n≠0):Mods w (w.drew.freeze ⟨b,0,none⟩ n) b (.cells cs e (if fz.1 == fz.2 then (0,0+n) else (min fz.1 0,max fz.2 (0+n)))) where
 at_:=by
  have:w.drew.heap[b]?=some (.cells cs e fz):=hb
  simp[World.freeze,hn,Array.getElem?_modify,this]
 other:=fun k hk=>by
  have:w.drew.heap[k]?=w.heap[k]?:=rfl
  simp[World.freeze,hn,Array.getElem?_modify,Ne.symm hk,this]
 size:=by
  have:w.drew.heap.size=w.heap.size:=rfl
  simp[World.freeze,hn,this]
 os:=by simp[World.freeze,hn]<;>rfl
 tape:=by simp[World.freeze,hn]<;>rfl
 output:=by simp[World.freeze,hn]<;>rfl

def y44 (bt be:TypeId)(args:List AV)(S:St):Option (CR×St) :=
 match args with
 | [.ptr h 0]=>match z1e S h with
  | some ([_,.vs l n (.own k)],t)=>if t=bt∧S.ts[k]?=some (n,(1,be))∧l.length=n∧0 < n∧n≤140737488355328 then (y2y l).map fun s=>(.ret (.str s),S) else none
  | _=>none
 | _=>none

theorem x3y {ρ:Ren}(L:Lays.n169 C.P ρ)(X:Builder.Extra C.P ρ){args:List AV}{S S':St}{r:CR}(h:y44 (ρ.t 72) (ρ.t 5) args S=some (r,S')):CallOk C (ρ.f 169) args S r S':=by
 unfold y44 at h
 split at h<;>try cases h
 rename_i hh
 split at h<;>try cases h
 rename_i p l n k t hb
 split at h<;>try cases h
 rename_i hc
 obtain ⟨rfl,hts,hln,hn0,hn⟩:=hc
 obtain ⟨s,hs,hq⟩:=Option.map_eq_some_iff.1 h
 cases hq
 have hl:=y5s hs
 have hsl:s.length=n:=by rw[← hln,hl];simp
 intro G w us hI hg has
 obtain ⟨v,hv1,hv2⟩:=has.2 0 _ rfl
 have has1:us=[v]:=by
  match us,has.1,hv1 with
  | [u],_,hv1=>simp at hv1;rw[hv1]
 subst has1
 cases hv2 with
 | ptr _ _ b hσ =>
  obtain ⟨b',cs,h1,h2,h3,h4,h5⟩:=hI.cellsAt hb
  rw[hσ]at h1;cases h1
  have hvs:=h4 1 (.vs l n (.own k)) rfl
  generalize hcv:cs.getD 1 undef=cv at hvs
  cases hvs with
  | vs _ _ _ A c f hcc hf hheld ht =>
   obtain ⟨g,c',m,z,hk1,hk2,hk3⟩:=ht
   obtain ⟨q1,q2,q3,q4,q5,⟨cs2,e,⟨fz,q6,hfz⟩,q7,qe⟩,q8⟩:=hI.tdom _ _ _ _ _ hk1
   rw[hts]at q1
   cases q1
   obtain ⟨rfl,rfl⟩:=hk3 rfl
   have qe:e=ρ.t 5:=qe
   subst qe
   have q7:cs2.size=c*1:=q7
   have hcell1:w.cell? ⟨b,1,none⟩=some (.slice (some ⟨g,0,none⟩) s.length c):=by
    rw[h5 1 (by simp),hcv,hsl]
   have hcells:∀ (j:Nat) (x:UInt8),s[j]?=some x→w.cell? ⟨g,j,none⟩=some (.int .u8 x.toNat):=by
    intro j x hx
    have hlt:j < s.length:=(List.getElem?_eq_some_iff.1 hx).1
    have hget:l[j]?=some (.int .u8 (x.toNat:Int)):=by rw[hl,List.getElem?_map,hx];rfl
    rcases hheld with rfl | ⟨ad,had,hh⟩
    ·simp at hget
    ·cases had
     have:=(hh.2 j (by omega)).2
     simp only[Nat.zero_add]at this
     rw[this,(hf j _ hget).int_inv]
   refine (x1u L X b g c cs2.size s w (by intro e;simp[e]at hsl;omega) hcell1 (by omega) (z52 q6) (by omega) (by omega) hcells).mono ?_
   rintro e w' ⟨rfl,rfl⟩
   have hmods:=Mods.freeze (n:=s.length) q6 (by omega)
   obtain ⟨g1,g2⟩:=hI.refreeze hk1 q6 hmods (by
    have hfz:fz.2≤n*1:=hfz
    show _≤n*1
    split<;>simp<;>omega)
   exact ⟨G,g1,g2,_,rfl,.str s⟩
end
end Go.Ev
namespace Go.Ev

def y3t (P:Program)(g:FuncId)(e:Array Value→Sem Value):Prop :=
 ∃ fn, P.funcs[g]? = some fn ∧ (fn.name == "runtime.NumGoroutine") = false ∧ fn.body.isNone = true ∧ Extern.findNext fn = none ∧ Extern.find fn = some e

def z9x (cs is ne:FuncId)(g:FuncId)(args:List AV):Option AV :=
 if g=cs then match args with
  | [.str s,.int .u8 c]=>some (.int .i64 (Lib.countByte s c.toNat.toUInt8))
  | _=>none
 else if g=is then match args with
  | [.str s,.int .u8 c]=>some (.int .i64 (Lib.indexByte s c.toNat.toUInt8))
  | _=>none
 else if g=ne then match args with
  | [x]=>some x
  | _=>none
 else none

theorem x4f {P:Program}{cs is ne:FuncId}(h1:y3t P cs Extern.BytealgCount.count)(h2:y3t P is Extern.BytealgIndexByte.indexByte)(h3:y3t P ne Extern.AbiNoEscape.same)(g:FuncId)(args:List AV)(v:AV)(h:z9x cs is ne g args=some v)
  (G:Gh) (w:World) (us:List Value) (hu:VRs G w args us):∃ u,(callFunc g us.toArray).run P w=.ok (.value u) w∧VR G w v u:=by
 have two:∀ x y,args=[x,y]→∃ a b,us=[a,b]∧VR G w x a∧VR G w y b:=by
  rintro x y rfl
  obtain ⟨a,ha1,ha2⟩:=hu.2 0 x rfl
  obtain ⟨b,hb1,hb2⟩:=hu.2 1 y rfl
  match us,hu.1,ha1,hb1 with
  | [a',b'],_,ha1,hb1=>simp at ha1 hb1;subst ha1;subst hb1;exact ⟨_,_,rfl,ha2,hb2⟩
 unfold z9x at h
 split at h
 ·rename_i hg
  subst hg
  split at h<;>cases h
  rename_i s c
  obtain ⟨a,b,rfl,ha,hb⟩:=two _ _ rfl
  cases ha.str_inv;cases hb.int_inv
  obtain ⟨fn,q1,q2,q3,q4,q5⟩:=h1
  refine ⟨_,?_,.int _ _⟩
  rw[run_callFunc_extern q1 q2 q3 q4 q5,Lib.run_countString]
  rfl
 ·split at h
  ·rename_i hg
   subst hg
   split at h<;>cases h
   rename_i s c
   obtain ⟨a,b,rfl,ha,hb⟩:=two _ _ rfl
   cases ha.str_inv;cases hb.int_inv
   obtain ⟨fn,q1,q2,q3,q4,q5⟩:=h2
   refine ⟨_,?_,.int _ _⟩
   rw[run_callFunc_extern q1 q2 q3 q4 q5,Lib.run_indexByteString]
   rfl
  ·split at h
   ·rename_i hg
    subst hg
    split at h<;>cases h
    obtain ⟨a,ha1,ha2⟩:=hu.2 0 _ rfl
    match us,hu.1,ha1 with
    | [a'],_,ha1 =>
     simp at ha1;subst ha1
     obtain ⟨fn,q1,q2,q3,q4,q5⟩:=h3
     refine ⟨a',?_,ha2⟩
     rw[run_callFunc_extern q1 q2 q3 q4 q5]
     rfl
   ·cases h
end Go.Ev
namespace Go.Ev

def z7q (P:Program):Nat→List Field→Bool
 | _,[]=>true
 | i, f :: fs => f.name != "_" && f.offset == i && (match P.underlying f.type with | some (.int _) => true | some .string => true | some .bool => true | _ => false) && z7q P (i + 1) fs
def z4o (P:Program):Nat→List Field→Bool
 | _,[]=>true
 | i, f :: fs => f.name != "_" && f.offset == i && (match P.underlying f.type with
  | some (.struct gs)=>P.stoodInHeld f.type == false && z7q P 0 gs.toList && (P.info? f.type).map (·.size) == some gs.size && z4o P (i+gs.size) fs
  | some (.int _)=>z4o P (i+1) fs
  | some .string=>z4o P (i+1) fs
  | some .bool=>z4o P (i+1) fs
  | _=>false)
def y2u (P:Program)(t:TypeId):Bool :=
 P.eqGuardType P.depth t == false && P.stoodInHeld t == false && match P.underlying t with
  | some (.struct fs)=>z4o P 0 fs.toList
  | _=>false

theorem y0x {C:Cx}(G:Gh)(w:World)(xs ys:Array Value)(d:Nat):∀ (fs:List Field) (i:Nat) (l m:List AV) (b:Bool),z7q C.P i fs=true→i+l.length=xs.size→i+m.length=ys.size →
  (∀ (j:Nat) (a:AV),l[j]?=some a→VR G w a (xs.getD (i+j) undef))→(∀ (j:Nat) (a:AV),m[j]?=some a→VR G w a (ys.getD (i+j) undef))→z07 C fs l m=some b→(Op.eqFields (d+1) xs ys fs).run C.P w=.ok b w
 | [],i,l,m,b,hf,hx,hy,hl,hm,h=>by
  unfold z07 at h
  split at h
  ·cases h;simp[Op.eqFields]
  ·contradiction
  ·cases h
 | f::fs,i,l,m,b,hf,hx,hy,hl,hm,h=>by
  unfold z07 at h
  split at h<;>try cases h
  ·contradiction
  ·rename_i f' fs' a l' b' m' he
   cases he
   split at h<;>cases h
   rename_i r1 r2 h1 h2
   simp only[z7q,Bool.and_eq_true,bne_iff_ne,ne_eq,beq_iff_eq]at hf
   obtain ⟨⟨⟨hn,ho⟩,hk⟩,hfs⟩:=hf
   have ih:=y0x G w xs ys d fs (i+1) l' m' r2 hfs (by simp at hx;omega) (by simp at hy;omega) (fun j x hj=>by have:=hl (j+1) x (by simpa using hj);rwa[show i+(j+1)=i+1+j by omega]at this)
    (fun j x hj=>by have:=hm (j+1) x (by simpa using hj);rwa[show i+(j+1)=i+1+j by omega]at this) h2
   have ha:=hl 0 a rfl
   have hb:=hm 0 b' rfl
   rw[Nat.add_zero]at ha hb
   have hagg:z9o C f.type=some false:=by
    unfold z9o
    revert hk
    cases C.P.underlying f.type with
    | none=>simp
    | some x=>cases x<;>simp
   have hix:i < xs.size:=by simp at hx;omega
   have hiy:i < ys.size:=by simp at hy;omega
   have p1:(part f.type xs f.offset).run C.P w=.ok (xs.getD i undef) w:=by
    rw[ho];simp[part,z3i hagg,Array.getD,hix]
   have p2:(part f.type ys f.offset).run C.P w=.ok (ys.getD i undef) w:=by
    rw[ho];simp[part,z3i hagg,Array.getD,hiy]
   have p3:(Op.equalIn (d+1) f.type (xs.getD i undef) (ys.getD i undef)).run C.P w=.ok r1 w:=by
    unfold y8r at h1
    split at h1
    ·rename_i hu
     split at h1<;>cases h1
     rename_i hkk
     subst hkk
     rw[ha.int_inv,hb.int_inv]
     exact run_equalIn_int w d _ _ _ _ _ hu
    ·rename_i hu
     cases h1
     rw[ha.bool_inv,hb.bool_inv]
     exact run_equalIn_bool' w d _ _ _ hu
    ·rename_i hu
     cases h1
     rw[ha.str_inv,hb.str_inv,run_equalIn_string w d _ _ _ hu]
     simp[ByteArray.toList_eq]
    ·cases h1
   simp only[Op.eqFields,if_pos hn,Sem.run_bind,p1,p2,p3,Result.andThen]
   cases r1
   ·simp
   ·simpa using ih

theorem y2s {C:Cx}:∀ (fs:List Field) (l m:List AV) (b:Bool),z07 C fs l m=some b→l.length=fs.length∧m.length=fs.length:=by
 intro fs
 induction fs with
 | nil=>intro l m b h;unfold z07 at h;split at h<;>first | exact ⟨rfl,rfl⟩ | cases h | contradiction
 | cons f fs ih =>
  intro l m b h
  unfold z07 at h
  split at h
  ·contradiction
  ·rename_i he
   cases he
   split at h<;>cases h
   rename_i h2
   obtain ⟨q1,q2⟩:=ih _ _ _ h2
   exact ⟨by simp[q1],by simp[q2]⟩
  ·cases h
theorem y0w {C:Cx}:∀ (gs rest:List Field) (l m:List AV) (b:Bool),z07 C (gs++rest) l m=some b →
  ∃ b1 b2,z07 C gs (l.take gs.length) (m.take gs.length)=some b1∧z07 C rest (l.drop gs.length) (m.drop gs.length)=some b2∧b=(b1 && b2)
 | [],rest,l,m,b,h=>⟨true,b,rfl,h,rfl⟩
 | g::gs,rest,l,m,b,h=>by
  rw[List.cons_append]at h
  unfold z07 at h
  split at h
  ·contradiction
  ·rename_i he
   cases he
   split at h<;>cases h
   rename_i x y h1 h2
   obtain ⟨b1,b2,q1,q2,rfl⟩:=y0w gs rest _ _ _ h2
   refine ⟨x && b1,b2,?_,q2,by rw[Bool.and_assoc]⟩
   simp only[List.length_cons,List.take_succ_cons,z07,h1,q1]
  ·cases h

theorem z7c {C:Cx}(G:Gh)(w:World)(xs ys:Array Value)(d:Nat):∀ (fs:List Field) (i:Nat) (l m:List AV) (b:Bool),z4o C.P i fs=true→i+l.length=xs.size→i+m.length=ys.size →
  (∀ (j:Nat) (a:AV),l[j]?=some a→VR G w a (xs.getD (i+j) undef))→(∀ (j:Nat) (a:AV),m[j]?=some a→VR G w a (ys.getD (i+j) undef))→z07 C (z3g C fs) l m=some b→(Op.eqFields (d+1+1) xs ys fs).run C.P w=.ok b w
 | [],i,l,m,b,hf,hx,hy,hl,hm,h=>by
  unfold z3g z07 at h
  split at h
  ·cases h;simp[Op.eqFields]
  ·contradiction
  ·cases h
 | f::fs,i,l,m,b,hf,hx,hy,hl,hm,h=>by
  simp only[z4o,Bool.and_eq_true,bne_iff_ne,ne_eq,beq_iff_eq]at hf
  obtain ⟨⟨hn,ho⟩,hk⟩:=hf
  -- one cell
  have one:z3g C (f::fs)=f::z3g C fs→(match C.P.underlying f.type with | some (.int _)=>true | some .string=>true | some .bool=>true | _=>false)=true→z4o C.P (i+1) fs=true→(Op.eqFields (d+1+1) xs ys (f::fs)).run C.P w=.ok b w:=by
   intro e hk2 hfs
   rw[e]at h
   unfold z07 at h
   split at h<;>try cases h
   ·contradiction
   ·rename_i f' fs' a l' b' m' he
    cases he
    split at h<;>cases h
    rename_i r1 r2 h1 h2
    have ih:=z7c G w xs ys d fs (i+1) l' m' r2 hfs (by simp at hx;omega) (by simp at hy;omega) (fun j x hj=>by have:=hl (j+1) x (by simpa using hj);rwa[show i+(j+1)=i+1+j by omega]at this)
     (fun j x hj=>by have:=hm (j+1) x (by simpa using hj);rwa[show i+(j+1)=i+1+j by omega]at this) h2
    -- the field alone
    have h3:z07 C [f] [a] [b']=some r1:=by simp[z07,h1]
    have hok1:z7q C.P i [f]=true:=by simp[z7q,hn,ho,hk2]
    have hx1:i < xs.size:=by simp at hx;omega
    have hy1:i < ys.size:=by simp at hy;omega
    have ha:=hl 0 a rfl
    have hb:=hm 0 b' rfl
    rw[Nat.add_zero]at ha hb
    have hagg:z9o C f.type=some false:=by
     unfold z9o
     revert hk2
     cases C.P.underlying f.type with
     | none=>simp
     | some x=>cases x<;>simp
    have p1:(part f.type xs f.offset).run C.P w=.ok (xs.getD i undef) w:=by
     rw[ho];simp[part,z3i hagg,Array.getD,hx1]
    have p2:(part f.type ys f.offset).run C.P w=.ok (ys.getD i undef) w:=by
     rw[ho];simp[part,z3i hagg,Array.getD,hy1]
    have p3:(Op.equalIn (d+1+1) f.type (xs.getD i undef) (ys.getD i undef)).run C.P w=.ok r1 w:=by
     unfold y8r at h1
     split at h1
     ·rename_i hu
      split at h1<;>cases h1
      rename_i hkk
      subst hkk
      rw[ha.int_inv,hb.int_inv]
      exact run_equalIn_int w (d+1) _ _ _ _ _ hu
     ·rename_i hu
      cases h1
      rw[ha.bool_inv,hb.bool_inv]
      exact run_equalIn_bool' w (d+1) _ _ _ hu
     ·rename_i hu
      cases h1
      rw[ha.str_inv,hb.str_inv,run_equalIn_string w (d+1) _ _ _ hu]
      simp[ByteArray.toList_eq]
     ·cases h1
    simp only[Op.eqFields,if_pos hn,Sem.run_bind,p1,p2,p3,Result.andThen]
    cases r1
    ·simp
    ·simpa using ih
  split at hk
  ·-- a struct
   rename_i gs hu
   simp only[Bool.and_eq_true,beq_iff_eq]at hk
   obtain ⟨⟨⟨k1,k2⟩,k3⟩,k4⟩:=hk
   have e:z3g C (f::fs)=gs.toList++z3g C fs:=by simp only[z3g,hu]
   rw[e]at h
   have hlen:=y2s _ _ _ _ h
   obtain ⟨b1,b2,q1,q2,rfl⟩:=y0w _ _ _ _ _ h
   simp only[Array.length_toList]at q1 q2
   simp only[List.length_append,Array.length_toList]at hlen
   have ih:=z7c G w xs ys d fs (i+gs.size) _ _ b2 k4 (by rw[List.length_drop];omega) (by rw[List.length_drop];omega)
    (fun j x hj=>by rw[List.getElem?_drop]at hj;have:=hl _ x hj;rwa[show i+(gs.size+j)=i+gs.size+j by omega]at this)
    (fun j x hj=>by rw[List.getElem?_drop]at hj;have:=hm _ x hj;rwa[show i+(gs.size+j)=i+gs.size+j by omega]at this) q2
   have hagg:z9o C f.type=some true:=by unfold z9o;rw[hu]
   have hsz:szT C f.type=some gs.size:=k3
   have p1:(part f.type xs f.offset).run C.P w=.ok (.agg (xs.extract i (i+gs.size))) w:=by
    rw[ho];simp[part,z3i hagg,run_sizeOf hsz,Result.andThen]
   have p2:(part f.type ys f.offset).run C.P w=.ok (.agg (ys.extract i (i+gs.size))) w:=by
    rw[ho];simp[part,z3i hagg,run_sizeOf hsz,Result.andThen]
   have hfo:C.P.fieldsOf f.type=gs:=by simp[Program.fieldsOf,hu]
   have getX:∀ (zs:Array Value) (j:Nat),i+gs.size≤zs.size→j < gs.size→(zs.extract i (i+gs.size)).getD j undef=zs.getD (i+j) undef:=fun zs j hz hj=>by
    have h1:(zs.extract i (i+gs.size))[j]?=zs[i+j]?:=by rw[Array.getElem?_extract,if_pos (by omega)]
    rw[Array.getD_eq_getD_getElem?,Array.getD_eq_getD_getElem?,h1]
   have p3:(Op.equalIn (d+1+1) f.type (.agg (xs.extract i (i+gs.size))) (.agg (ys.extract i (i+gs.size)))).run C.P w=.ok b1 w:=by
    rw[run_equalIn_struct w (d+1) f.type _ _ (by rw[hfo];exact hu) k1,hfo]
    refine y0x G w _ _ d gs.toList 0 _ _ b1 k2 (by simp;omega) (by simp;omega) (fun j a hj=>?_) (fun j a hj=>?_) q1
    ·have hlt:=(List.getElem?_eq_some_iff.1 hj).1
     rw[List.length_take]at hlt
     rw[List.getElem?_take_of_lt (by omega)]at hj
     rw[Nat.zero_add,getX xs j (by omega) (by omega)]
     exact hl j a hj
    ·have hlt:=(List.getElem?_eq_some_iff.1 hj).1
     rw[List.length_take]at hlt
     rw[List.getElem?_take_of_lt (by omega)]at hj
     rw[Nat.zero_add,getX ys j (by omega) (by omega)]
     exact hm j a hj
   simp only[Op.eqFields,if_pos hn,Sem.run_bind,p1,p2,p3,Result.andThen]
   cases b1
   ·simp
   ·simpa using ih
  ·rename_i hu;exact one (by simp only[z3g,hu];rfl) (by rw[hu]) hk
  ·rename_i hu;exact one (by simp only[z3g,hu];rfl) (by rw[hu]) hk
  ·rename_i hu;exact one (by simp only[z3g,hu];rfl) (by rw[hu]) hk
  ·cases hk

theorem z8x {C:Cx}(h:∀ t,C.eqt t=true→y2u C.P t=true):EqtOk C:=by
 intro t ht
 have hb:=h t ht
 simp only[y2u,Bool.and_eq_true,beq_iff_eq]at hb
 obtain ⟨⟨h1,h2⟩,h3⟩:=hb
 refine ⟨h1,fun fs G w l m b xs ys hu hx hy hs he=>?_⟩
 rw[hu]at h3
 simp only at h3
 have hf:C.P.fieldsOf t=fs:=by simp[Program.fieldsOf,hu]
 have hd2:Op.equal t (.agg xs) (.agg ys)=Op.equalIn (9997+1+1+1) t (.agg xs) (.agg ys):=rfl
 rw[hd2,run_equalIn_struct w (9997+1+1) t xs ys (by rw[hf];exact hu) h2,hf]
 have hlen:=y2s _ _ _ _ he
 exact z7c G w xs ys 9997 fs.toList 0 l m b h3 (by rw[hx.1];omega) (by rw[hy.1];omega) (fun j a hj=>by rw[Nat.zero_add];exact hx.2 j a hj) (fun j a hj=>by rw[Nat.zero_add];exact hy.2 j a hj) he
end Go.Ev
namespace Go.Ev

end Go.Ev
namespace Go.Ev

theorem CallsDIn.mono {F:Fence}{n:Nat}{P:Program}{f:FuncId}{args:Array Value}{u:FrameMode}{w:World}{R R':Ending→FrameMode→World→Prop}(h:CallsDIn F n P f args u w R)(hr:∀ e u' w',R e u' w'→R' e u' w'):CallsDIn F n P f args u w R' :=
 ⟨h.1,fun c cs hu hroom=>let ⟨e,u',w',fr,h1,h2⟩:=h.2 c cs hu hroom; ⟨e,u',w',fr,hr _ _ _ h1,h2⟩⟩

end Go.Ev
