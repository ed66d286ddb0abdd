/- Contracts of functions of the program and of the reference. -/
import Derived.Test.YtdpfgjljehajbaaGreatDoorK9
import Derived.Test.YtdpfgjljehajbaaGreatDoorE11
set_option linter.unusedVariables false
set_option linter.unusedSimpArgs false
set_option linter.unusedSectionVars false
set_option maxRecDepth 100000
open Go.Ev.AV (vs ptr agg tup vp mp ofVal raw)
open Go.Ev.HB (cells map)
open Go.Ev.CR (ret)
open Go.IntKind (i64)
open List (drop replicate)
noncomputable section
namespace Go.Ev
def x7s (z:Int):Bool:=decide (-720≤z) && decide (z≤840)
def w0s (m:Mst):Bool:=idB m.id && x7s m.zo
def x1f (x:Dcr):Bool:=idB x.id && (decide (1≤x.ki) && decide (x.ki≤4)) && (decide (x.ma=0) || idB x.ma) && (if x.ki=1 then idB x.st else decide (x.st=0)) && (decide (1≤x.ra) && decide (x.ra≤99)) && (decide (0≤x.fr) && decide (x.fr≤100000)) && (decide (x.un=0) || decide (x.fr < x.un) && decide (x.un≤100000)) && (decide (0≤x.op) && decide (x.op < x.cl) && decide (x.cl≤1440))
structure DecOk (x:Dcr):Prop where
 id1:1≤x.id
 id2:x.id≤1000000
 k1:1≤x.ki
 k2:x.ki≤4
 ma:x.ma=0∨1≤x.ma∧x.ma≤1000000
 st:(x.ki=1∧1≤x.st∧x.st≤1000000)∨(x.ki≠1∧x.st=0)
 r1:1≤x.ra
 r2:x.ra≤99
 f1:0≤x.fr
 f2:x.fr≤100000
 un:x.un=0∨x.fr < x.un∧x.un≤100000
 o1:0≤x.op
 o2:x.op < x.cl
 o3:x.cl≤1440
theorem x4t (x:Dcr):x1f x=true↔DecOk x:=by
 constructor
 ·intro h
  simp only[x1f,idB,Bool.and_eq_true,Bool.or_eq_true,decide_eq_true_eq]at h
  obtain ⟨⟨⟨⟨⟨⟨⟨h1,h2⟩,h3⟩,h4⟩,h5⟩,h6⟩,h7⟩,h8⟩:=h
  refine ⟨h1.1,h1.2,h2.1,h2.2,h3,?_,h5.1,h5.2,h6.1,h6.2,h7,h8.1.1,h8.1.2,h8.2⟩
  split at h4
  ·rename_i hk
   simp only[Bool.and_eq_true,decide_eq_true_eq]at h4
   exact .inl ⟨hk,h4⟩
  ·rename_i hk
   exact .inr ⟨hk,of_decide_eq_true h4⟩
 ·rintro ⟨a1,a2,a3,a4,a5,a6,a7,a8,a9,a10,a11,a12,a13,a14⟩
  simp only[x1f,idB,Bool.and_eq_true,Bool.or_eq_true,decide_eq_true_eq]
  refine ⟨⟨⟨⟨⟨⟨⟨⟨a1,a2⟩,⟨a3,a4⟩⟩,a5⟩,?_⟩,⟨a7,a8⟩⟩,⟨a9,a10⟩⟩,a11⟩,⟨⟨a12,a13⟩,a14⟩⟩
  rcases a6 with ⟨h,h1⟩ | ⟨h,h1⟩
  ·rw[if_pos h];simpa using h1
  ·rw[if_neg h];simpa using h1
structure HonOk (ms:List Mst) (ds:List Dcr):Prop where
 lm:ms.length≤40
 ld:ds.length≤100
 mok:∀ m∈ms,w0s m=true
 inc:ms.Pairwise (fun a b=>a.id < b.id)
 dok:∀ x∈ds,DecOk x
 dif:ds.Pairwise (fun a b=>a.id≠b.id)
def z2a (x:Dcr)(m:Mst)(day:Int):Bool:=(decide (x.ma=0) || decide (x.ma=m.id)) && decide (x.fr≤day) && (decide (x.un=0) || decide (day < x.un))
def z8a (x:Dcr)(of:Int):Bool:=decide (x.op≤of) && decide (of < x.cl)
def z10:Dcr:=⟨0,0,0,0,0,0,0,0,0⟩
def z5w (all:List Dcr)(p:Dcr→Bool):List Dcr→Nat→Int→Int
 | [],i,b=>b
 | x::l,i,b=>z5w all p l (i+1) (if p x && (decide (b < 0) || decide (x.ra≥(all.getD b.toNat z10).ra)) then i else b)
def z5j (k1 k2:Int)(x:Dcr):Bool:=decide (x.ki=k1) || decide (x.ki=k2)
def z0m (ds:List Dcr)(m:Mst)(day of k1 k2:Int):Int:=z5w ds (fun x=>z5j k1 k2 x && z2a x m day && z8a x of) ds 0 (-1)
def z4q (ds:List Dcr)(f g:Int):Sho :=
 let fl:=if 0≤f then (ds.getD f.toNat z10).st else 0
 ⟨fl,decide (fl≠0) && decide (0≤g) && decide ((ds.getD g.toNat z10).ki=3)⟩
def z3a (ds:List Dcr)(m:Mst)(day of:Int):Sho:=z4q ds (z0m ds m day of 1 2) (z0m ds m day of 3 4)
def z9r (ds:List Dcr)(f g:Int):Sho:=if f < 0 then ⟨0,false⟩ else if (ds.getD f.toNat z10).ki≠1 then ⟨0,false⟩ else ⟨(ds.getD f.toNat z10).st,decide (0≤g) && decide ((ds.getD g.toNat z10).ki=3)⟩

def IdxOf (all:List Dcr)(p:Dcr→Bool)(b:Int):Prop:=b=-1∨∃ (k:Nat) (x:Dcr),b=k∧all[k]?=some x∧p x=true
theorem y5u (all:List Dcr)(p:Dcr→Bool):∀ (l:List Dcr) (i:Nat) (b:Int),all.drop i=l→IdxOf all p b→IdxOf all p (z5w all p l i b)
 | [],i,b,_,h=>h
 | x::l,i,b,hl,h=>by
  have hi:i < all.length:=by
   rcases Nat.lt_or_ge i all.length with h1 | h1
   ·exact h1
   ·rw[List.drop_eq_nil_of_le h1]at hl;cases hl
  have hx:all[i]?=some x:=by
   rw[List.drop_eq_getElem_cons hi]at hl
   rw[List.getElem?_eq_getElem hi,(List.cons.inj hl).1]
  unfold z5w
  refine y5u all p l (i+1) _ (by have:=congrArg (drop 1) hl;rw[List.drop_drop]at this;exact this) ?_
  split
  ·rename_i hc
   simp only[Bool.and_eq_true]at hc
   exact .inr ⟨i,x,rfl,hx,hc.1⟩
  ·exact h
theorem z71 (all:List Dcr){p q:Dcr→Bool}:∀ (l:List Dcr) (i:Nat) (b:Int),(∀ x∈l,p x=q x)→z5w all p l i b=z5w all q l i b
 | [],i,b,_=>rfl
 | x::l,i,b,h=>by
  unfold z5w
  rw[h x (by simp),z71 all l _ _ fun y hy=>h y (List.mem_cons_of_mem _ hy)]
theorem z2x (ds:List Dcr)(m:Mst)(day of k1 k2:Int):IdxOf ds (fun x=>z5j k1 k2 x && z2a x m day && z8a x of) (z0m ds m day of k1 k2) :=
 y5u _ _ _ _ _ rfl (.inl rfl)
theorem IdxOf.imp {all:List Dcr}{p q:Dcr→Bool}{b:Int}(h:IdxOf all p b)(hpq:∀ x,p x=true→q x=true):IdxOf all q b:=by
 rcases h with h | ⟨k,x,h1,h2,h3⟩
 ·exact .inl h
 ·exact .inr ⟨k,x,h1,h2,hpq x h3⟩
theorem y9r {ds:List Dcr}(hd:∀ x∈ds,DecOk x){f g:Int}(hf:IdxOf ds (z5j 1 2) f):z4q ds f g=z9r ds f g:=by
 unfold z4q z9r
 rcases hf with rfl | ⟨k,x,rfl,hx,hk⟩
 ·simp
 ·have hgd:ds.getD k z10=x:=by rw[List.getD_eq_getElem?_getD,hx];rfl
  have hok:=hd x (List.mem_of_getElem? hx)
  simp only[Int.toNat_natCast,hgd]
  rw[if_pos (Int.natCast_nonneg k),if_neg (by omega)]
  simp only[z5j,Bool.or_eq_true,decide_eq_true_eq]at hk
  rcases hok.st with ⟨h1,h2,h3⟩ | ⟨h1,h2⟩
  ·rw[if_neg (by simpa using h1)]
   have:x.st≠0:=by omega
   simp[this]
  ·rw[if_pos (by simpa using h1),h2]
   simp
structure Prt where
 of:Int
 fl:Int
 ho:Bool
 pf:Int
 ph:Int
def z5s (ds:List Dcr)(m:Mst)(day of:Int):Prt:=⟨of,(z3a ds m day of).fl,(z3a ds m day of).ho,z0m ds m day of 1 2,z0m ds m day of 3 4⟩
def x3r:Prt:=⟨0,0,false,0,0⟩
def z1p (m:Mst)(day:Int):List Dcr→List Int→List Int
 | [],ks=>ks
 | x::l,ks=>z1p m day l (if z2a x m day then z1k x.cl (z1k x.op ks) else ks)
def z0o (ds:List Dcr)(m:Mst)(day:Int):List Prt:=((z1h (z1p m day ds [0])).filter fun t=>decide (t < 1440)).map (z5s ds m day)
def z8o (of:Int):List Prt→Prt→Prt
 | [],o=>o
 | p::l,o=>z8o of l (if p.of≤of then p else o)
theorem z3x {m:Mst}{day:Int}:∀ {l:List Dcr} {ks:List Int} {t:Int},t∈z1p m day l ks↔t∈ks∨∃ x∈l,z2a x m day=true∧(t=x.op∨t=x.cl)
 | [],ks,t=>by simp[z1p]
 | x::l,ks,t=>by
  unfold z1p
  rw[z3x]
  split
  ·rename_i hx
   rw[z3d,z3d]
   constructor
   ·rintro (((h | h) | h) | ⟨y,hy,h1,h2⟩)
    ·exact .inl h
    ·exact .inr ⟨x,by simp,hx,.inl h⟩
    ·exact .inr ⟨x,by simp,hx,.inr h⟩
    ·exact .inr ⟨y,List.mem_cons_of_mem _ hy,h1,h2⟩
   ·rintro (h | ⟨y,hy,h1,h2⟩)
    ·exact .inl (.inl (.inl h))
    ·rcases List.mem_cons.1 hy with rfl | hy
     ·rcases h2 with h2 | h2
      ·exact .inl (.inl (.inr h2))
      ·exact .inl (.inr h2)
     ·exact .inr ⟨y,hy,h1,h2⟩
  ·rename_i hx
   constructor
   ·rintro (h | ⟨y,hy,h1,h2⟩)
    ·exact .inl h
    ·exact .inr ⟨y,List.mem_cons_of_mem _ hy,h1,h2⟩
   ·rintro (h | ⟨y,hy,h1,h2⟩)
    ·exact .inl h
    ·rcases List.mem_cons.1 hy with rfl | hy
     ·exact (hx h1).elim
     ·exact .inr ⟨y,hy,h1,h2⟩
theorem y2n {f:Int→Prt}(hf:∀ t,(f t).of=t)(of:Int):∀ (ts:List Int) (t0:Int),t0≤of→(∀ u∈ts,t0≤u)→ts.Pairwise (fun a b:Int=>a≤b) →
  ∃ t,(t=t0∨t∈ts)∧t≤of∧t0≤t∧(∀ u∈ts,u≤of→u≤t)∧z8o of (ts.map f) (f t0)=f t
 | [],t0,h0,_,_=>⟨t0,.inl rfl,h0,Int.le_refl _,by simp,rfl⟩
 | u::ts,t0,h0,hge,hp=>by
  rw[List.pairwise_cons]at hp
  simp only[List.map_cons,z8o,hf]
  split
  ·rename_i hu
   obtain ⟨t,h1,h2,h3,h4,h5⟩:=y2n hf of ts u hu hp.1 hp.2
   refine ⟨t,.inr ?_,h2,?_,fun v hv hvo=>?_,h5⟩
   ·rcases h1 with rfl | h1
    ·simp
    ·exact List.mem_cons_of_mem _ h1
   ·have:=hge u (by simp);omega
   ·rcases List.mem_cons.1 hv with rfl | hv
    ·exact h3
    ·exact h4 v hv hvo
  ·rename_i hu
   obtain ⟨t,h1,h2,h3,h4,h5⟩:=y2n hf of ts t0 h0 (fun v hv=>hge v (List.mem_cons_of_mem _ hv)) hp.2
   refine ⟨t,h1.imp id (List.mem_cons_of_mem _),h2,h3,fun v hv hvo=>?_,h5⟩
   rcases List.mem_cons.1 hv with rfl | hv
   ·exact (hu hvo).elim
   ·exact h4 v hv hvo
theorem y2m {f:Int→Prt}(hf:∀ t,(f t).of=t)(of:Int):∀ (ts:List Int) (z:Prt),(∃ u∈ts,u≤of)→ts.Pairwise (fun a b:Int=>a≤b) →
  ∃ t∈ts,t≤of∧(∀ u∈ts,u≤of→u≤t)∧z8o of (ts.map f) z=f t
 | [],z,h,_=>by simp at h
 | u::ts,z,h,hp=>by
  rw[List.pairwise_cons]at hp
  have hu:u≤of:=by
   obtain ⟨v,hv,hvo⟩:=h
   rcases List.mem_cons.1 hv with rfl | hv
   ·exact hvo
   ·exact Int.le_trans (hp.1 v hv) hvo
  simp only[List.map_cons,z8o,hf,if_pos hu]
  obtain ⟨t,h1,h2,h3,h4,h5⟩:=y2n hf of ts u hu hp.1 hp.2
  refine ⟨t,by rcases h1 with rfl | h1<;>simp[*],h2,fun v hv hvo=>?_,h5⟩
  rcases List.mem_cons.1 hv with rfl | hv
  ·exact h3
  ·exact h4 v hv hvo
theorem x4s {ds:List Dcr}(hd:∀ x∈ds,DecOk x){m:Mst}{day t of:Int}(h1:t≤of)(h2:of < 1440)(hmax:∀ x∈ds,z2a x m day=true→(x.op≤of→x.op≤t)∧(x.cl≤of→x.cl≤t))(k1 k2:Int):z0m ds m day t k1 k2=z0m ds m day of k1 k2:=by
 refine z71 _ _ _ _ fun x hx=>?_
 cases hdt:z2a x m day with
 | false=>simp
 | true =>
  have:=hmax x hx hdt
  have e:z8a x t=z8a x of:=by
   unfold z8a
   rw[Bool.eq_iff_iff]
   simp only[Bool.and_eq_true,decide_eq_true_eq]
   constructor
   ·rintro ⟨q1,q2⟩
    refine ⟨by omega,?_⟩
    rcases Int.lt_or_le of x.cl with q | q
    ·exact q
    ·have:=this.2 q;omega
   ·rintro ⟨q1,q2⟩
    have:=this.1 q1
    exact ⟨this,by omega⟩
  rw[e]
def z15:List Dcr→List Int→List Int
 | [],ks=>ks
 | x::l,ks=>z15 l (if x.un≠0 then z1k x.un (z1k x.fr ks) else z1k x.fr ks)
def brk (ds:List Dcr):List Int:=z1h (z15 ds [])
theorem y0a:∀ {l:List Dcr} {ks:List Int} {t:Int},t∈z15 l ks↔t∈ks∨∃ x∈l,t=x.fr∨(x.un≠0∧t=x.un)
 | [],ks,t=>by simp[z15]
 | x::l,ks,t=>by
  unfold z15
  rw[y0a]
  split
  ·rename_i hx
   rw[z3d,z3d]
   constructor
   ·rintro (((h | h) | h) | ⟨y,hy,h2⟩)
    ·exact .inl h
    ·exact .inr ⟨x,by simp,.inl h⟩
    ·exact .inr ⟨x,by simp,.inr ⟨hx,h⟩⟩
    ·exact .inr ⟨y,List.mem_cons_of_mem _ hy,h2⟩
   ·rintro (h | ⟨y,hy,h2⟩)
    ·exact .inl (.inl (.inl h))
    ·rcases List.mem_cons.1 hy with rfl | hy
     ·rcases h2 with h2 | ⟨_,h2⟩
      ·exact .inl (.inl (.inr h2))
      ·exact .inl (.inr h2)
     ·exact .inr ⟨y,hy,h2⟩
  ·rename_i hx
   rw[z3d]
   constructor
   ·rintro ((h | h) | ⟨y,hy,h2⟩)
    ·exact .inl h
    ·exact .inr ⟨x,by simp,.inl h⟩
    ·exact .inr ⟨y,List.mem_cons_of_mem _ hy,h2⟩
   ·rintro (h | ⟨y,hy,h2⟩)
    ·exact .inl (.inl h)
    ·rcases List.mem_cons.1 hy with rfl | hy
     ·rcases h2 with h2 | ⟨h3,h2⟩
      ·exact .inl (.inr h2)
      ·exact (hx h3).elim
     ·exact .inr ⟨y,hy,h2⟩
theorem y0u {ds:List Dcr}{t:Int}:t∈brk ds↔∃ x∈ds,t=x.fr∨(x.un≠0∧t=x.un):=by
 unfold brk
 rw[(z03 _).mem_iff,y0a]
 simp
theorem x1t (ds:List Dcr):(brk ds).Pairwise (fun a b:Int=>a≤b):=z4z _
def z2u (day:Int):List Int→Int→Int
 | [],f=>f
 | b::l,f=>z2u day l (if b≤day then b else f)
def z0z (ds:List Dcr)(day:Int):Int:=z2u day (brk ds) (-1)
theorem z95 (day:Int):∀ (l:List Int) (f:Int),l.Pairwise (fun a b:Int=>a≤b)→(∀ b∈l,f≤b)→(z2u day l f=f∨z2u day l f∈l)∧(f≤day→z2u day l f≤day)∧(∀ b∈l,b≤day→b≤z2u day l f)∧f≤z2u day l f∧(z2u day l f≠f→z2u day l f≤day)
 | [],f,_,_=>by simp[z2u]
 | b::l,f,hp,hf=>by
  rw[List.pairwise_cons]at hp
  have hfb:=hf b (by simp)
  unfold z2u
  split
  ·rename_i hb
   obtain ⟨h1,h2,h3,h4,h5⟩:=z95 day l b hp.2 hp.1
   refine ⟨.inr ?_,fun _=>h2 hb,fun c hc hcd=>?_,by omega,fun _=>h2 hb⟩
   ·rcases h1 with h1 | h1
    ·rw[h1];simp
    ·exact List.mem_cons_of_mem _ h1
   ·rcases List.mem_cons.1 hc with rfl | hc
    ·exact h4
    ·exact h3 c hc hcd
  ·rename_i hb
   obtain ⟨h1,h2,h3,h4,h5⟩:=z95 day l f hp.2 (fun c hc=>hf c (List.mem_cons_of_mem _ hc))
   refine ⟨h1.imp id (List.mem_cons_of_mem _),h2,fun c hc hcd=>?_,h4,h5⟩
   rcases List.mem_cons.1 hc with rfl | hc
   ·exact (hb hcd).elim
   ·exact h3 c hc hcd
theorem x7m {ds:List Dcr}(hd:∀ x∈ds,DecOk x){b:Int}(hb:b∈brk ds):0≤b∧b≤100000:=by
 obtain ⟨x,hx,h⟩:=y0u.1 hb
 have:=hd x hx
 have h1:=this.f1
 have h2:=this.f2
 have h3:=this.un
 rcases h with rfl | ⟨h4,rfl⟩<;>omega
theorem z9b {ds:List Dcr}(hd:∀ x∈ds,DecOk x){b:Int}(hb:b∈brk ds)(day:Int):b≤day↔b≤z0z ds day:=by
 have hp:=fun c hc=>(x7m hd (b:=c) hc).1
 obtain ⟨h1,h2,h3,h4,h5⟩:=z95 day (brk ds) (-1) (x1t ds) (fun c hc=>by have:=hp c hc;omega)
 constructor
 ·exact h3 b hb
 ·intro h
  have h0:=hp b hb
  have:z0z ds day≠-1:=by omega
  have:=h5 this
  unfold z0z at h
  omega
theorem y4b {ds:List Dcr}(hd:∀ x∈ds,DecOk x){d1 d2:Int}(h:z0z ds d1=z0z ds d2){x:Dcr}(hx:x∈ds)(m:Mst):z2a x m d1=z2a x m d2:=by
 have e1:x.fr≤d1↔x.fr≤d2:=by
  have hb:x.fr∈brk ds:=y0u.2 ⟨x,hx,.inl rfl⟩
  rw[z9b hd hb d1,z9b hd hb d2,h]
 have e2:x.un=0∨(d1 < x.un↔d2 < x.un):=by
  by_cases hu:x.un=0
  ·exact .inl hu
  ·have hb:x.un∈brk ds:=y0u.2 ⟨x,hx,.inr ⟨hu,rfl⟩⟩
   have:=z9b hd hb d1
   have h2:=z9b hd hb d2
   rw[h]at this
   exact .inr (by omega)
 unfold z2a
 have e3:decide (x.fr≤d1)=decide (x.fr≤d2):=decide_eq_decide.2 e1
 rw[e3]
 rcases e2 with e2 | e2
 ·simp[e2]
 ·rw[decide_eq_decide.2 e2]
theorem y17 {m:Mst}{d1 d2:Int}:∀ (l:List Dcr) (ks:List Int),(∀ x∈l,z2a x m d1=z2a x m d2)→z1p m d1 l ks=z1p m d2 l ks
 | [],ks,_=>rfl
 | x::l,ks,h=>by
  unfold z1p
  rw[h x (by simp),y17 l _ fun y hy=>h y (List.mem_cons_of_mem _ hy)]
theorem y5m {ds:List Dcr}(hd:∀ x∈ds,DecOk x){d1 d2:Int}(h:z0z ds d1=z0z ds d2)(m:Mst)(of k1 k2:Int):z0m ds m d1 of k1 k2=z0m ds m d2 of k1 k2 :=
 z71 _ _ _ _ fun x hx=>by rw[y4b hd h hx m]
theorem y8d {ds:List Dcr}(hd:∀ x∈ds,DecOk x){d1 d2:Int}(h:z0z ds d1=z0z ds d2)(m:Mst):z0o ds m d1=z0o ds m d2:=by
 unfold z0o
 rw[y17 ds [0] fun x hx=>y4b hd h hx m]
 refine List.map_congr_left fun t _=>?_
 unfold z5s z3a
 rw[y5m hd h,y5m hd h]
end Go.Ev
namespace Go.Ev
def z0w (id:Int):List Mst→Mst×Bool
 | []=>(⟨0,0⟩,false)
 | m::l=>if m.id=id then (m,true) else z0w id l
end Go.Ev
namespace Go.Proofs
open Go Go.Ev
def x9d:List (Nat×List Nat):=[]
def X25:WCx:=qB.wcx [] x9d [] [] []
theorem v25 (l c:List AV)(n k:Nat)(Q:CR→Prop):wpF X25 25 [.agg [.vs l n .none,.vs c k .none]] Q =
 (cIf (decide ((↑n:Int)≤4)) (Q (ret (Bo (decide ((↑k:Int)≤8))))) (Q (ret (Bo false)))):=by kernel_rfl
end Go.Proofs
namespace Go.Proofs
open Go Go.Ev
attribute [local irreducible] wpF wpC cd
section
variable {ms:List Mst}{ds:List Dcr}{id:Int}(hm:ms.length≤10000000)
include hm
end
section
variable {ms:List Mst}{ds:List Dcr}{mi zo m one two:Int}(hd1:ds.length≤10000000)(h1:0≤m)(h2:m≤144001439)(h3:-720≤zo)(h4:zo≤840)
include hd1 h1 h2 h3 h4
end
end Go.Proofs
namespace Go.Ev
def z96 (ds:List Dcr)(m:Mst)(n:Int):Sho:=z9r ds (z0m ds m ((n+m.zo) / 1440) ((n+m.zo) % 1440) 1 2) (z0m ds m ((n+m.zo) / 1440) ((n+m.zo) % 1440) 3 4)
end Go.Ev
namespace Go.Proofs
open Go Go.Ev
def R81:Spc:=fun args=>match args with
 | [.agg [.vs l n .none,.vs c k .none],.agg [.int .i64 mi,.int .i64 zo],.int .i64 m]=>some ((∃ ms ds,l=z0a z0d ms∧n=ms.length∧c=z0a z0b ds∧k=ds.length∧ms.length≤10000000∧ds.length≤10000000)∧0≤m∧m≤144001439∧-720≤zo∧zo≤840,.ret (.agg [I (z0c (z0a z0b) (fun ds=>(z96 ds ⟨mi,zo⟩ m).fl) 0 c),Bo (z0c (z0a z0b) (fun ds=>(z96 ds ⟨mi,zo⟩ m).ho) false c)]))
 | _=>none
end Go.Proofs
namespace Go.Ev
def z0f (ms:List Mst)(ds:List Dcr)(a m:Int):Mst×Int:=if z1x ms ds≠0 then (⟨0,0⟩,z1x ms ds) else if (z0w a ms).2=false then (⟨0,0⟩,5) else if (decide (0≤m) && decide (m≤144001439))=false then (⟨0,0⟩,1) else ((z0w a ms).1,0)
end Go.Ev
namespace Go.Proofs
open Go Go.Ev
attribute [local irreducible] wpF wpC cd
def R80:Spc:=fun args=>match args with
 | [.agg [.vs l n .none,.vs c k .none],.int .i64 a,.int .i64 m]=>some (∃ ms ds,l=z0a z0d ms∧n=ms.length∧c=z0a z0b ds∧k=ds.length∧ms.length≤10000000∧ds.length≤10000000,.ret (.tup [.agg [I (z0c (z0a z0d) (fun ms=>z0c (z0a z0b) (fun ds=>(z0f ms ds a m).1.id) 0 c) 0 l),I (z0c (z0a z0d) (fun ms=>z0c (z0a z0b) (fun ds=>(z0f ms ds a m).1.zo) 0 c) 0 l)],I (z0c (z0a z0d) (fun ms=>z0c (z0a z0b) (fun ds=>(z0f ms ds a m).2) 0 c) 0 l)]))
 | _=>none
end Go.Proofs
namespace Go.Ev
def atV (ms:List Mst)(ds:List Dcr)(a m:Int):Sho×Int:=if (z0f ms ds a m).2≠0 then (⟨0,false⟩,(z0f ms ds a m).2) else (z96 ds (z0f ms ds a m).1 m,0)
end Go.Ev
namespace Go.Proofs
open Go Go.Ev
def R28:Spc:=fun args=>match args with
 | [.agg [.vs l n .none,.vs c k .none],.int .i64 a,.int .i64 m]=>some (∃ ms ds,l=z0a z0d ms∧n=ms.length∧c=z0a z0b ds∧k=ds.length∧ms.length≤10000000∧ds.length≤10000000,.ret (.tup [.agg [I (z0c (z0a z0d) (fun ms=>z0c (z0a z0b) (fun ds=>(atV ms ds a m).1.fl) 0 c) 0 l),Bo (z0c (z0a z0d) (fun ms=>z0c (z0a z0b) (fun ds=>(atV ms ds a m).1.ho) false c) false l)],I (z0c (z0a z0d) (fun ms=>z0c (z0a z0b) (fun ds=>(atV ms ds a m).2) 0 c) 0 l)]))
 | _=>none
def x9b:List (Nat×List Nat):=[]
def X28:WCx:=qB.wcx [(80,R80),(81,R81)] x9b [] [] []
theorem v28 (l c:List AV)(n k:Nat)(a m:Int)(Q:CR→Prop):wpF X28 28 [.agg [.vs l n .none,.vs c k .none],I a,I m] Q =
 ((∃ ms,∃ ds,l=z0a z0d ms∧n=ms.length∧c=z0a z0b ds∧k=ds.length∧ms.length≤10000000∧ds.length≤10000000)∧cIf (z0c (z0a z0d) (fun ms=>z0c (z0a z0b) (fun ds=>(z0f ms ds a m).snd) 0 c) 0 l != 0) (Q (ret (tup [agg [I 0,Bo false],I (z0c (z0a z0d) (fun ms=>z0c (z0a z0b) (fun ds=>(z0f ms ds a m).snd) 0 c) 0 l)]))) (((∃ ms,∃ ds,l=z0a z0d ms∧n=ms.length∧c=z0a z0b ds∧k=ds.length∧ms.length≤10000000∧ds.length≤10000000)∧(0:Int)≤m∧m≤144001439∧(-720:Int)≤z0c (z0a z0d) (fun ms=>z0c (z0a z0b) (fun ds=>(z0f ms ds a m).fst.zo) 0 c) 0 l∧z0c (z0a z0d) (fun ms=>z0c (z0a z0b) (fun ds=>(z0f ms ds a m).fst.zo) 0 c) 0 l≤840)∧Q (ret (tup [agg [AV.int IntKind.i64 (z0c (z0a z0b) (fun ds=>(z96 ds (Mst.mk (z0c (z0a z0d) (fun ms=>z0c (z0a z0b) (fun ds=>(z0f ms ds a m).fst.id) 0 c) 0 l) (z0c (z0a z0d) (fun ms=>z0c (z0a z0b) (fun ds=>(z0f ms ds a m).fst.zo) 0 c) 0 l)) m).fl) 0 c),AV.bool (z0c (z0a z0b) (fun ds=>(z96 ds (Mst.mk (z0c (z0a z0d) (fun ms=>z0c (z0a z0b) (fun ds=>(z0f ms ds a m).fst.id) 0 c) 0 l) (z0c (z0a z0d) (fun ms=>z0c (z0a z0b) (fun ds=>(z0f ms ds a m).fst.zo) 0 c) 0 l)) m).ho) false c)],I 0])))):=by kernel_rfl
end Go.Proofs
namespace Go.Ev
theorem y6k:∀ (l:List Mst) (p:Int),z13 p l=0→∀ x∈l,z4r x=true
 | [],_,_,x,hx=>by cases hx
 | m::l,p,h,x,hx=>by
  unfold z13 at h
  split at h
  ·cases h
  ·rename_i h1
   split at h
   ·cases h
   ·split at h
    ·cases h
    ·rcases List.mem_cons.1 hx with rfl | hx
     ·simpa using h1
     ·exact y6k l m.id h x hx
theorem y2k (a:Int):∀ (l:List Mst),(z0w a l).2≠false→(z0w a l).1∈l
 | [],h=>absurd rfl h
 | m::l,h=>by
  unfold z0w at h ⊢
  split
  ·exact List.mem_cons_self
  ·rename_i hc
   rw[if_neg hc]at h
   exact List.mem_cons_of_mem _ (y2k a l h)
theorem y6s {ms:List Mst}{ds:List Dcr}{a m:Int}(h:(z0f ms ds a m).2=0):0≤m∧m≤144001439∧-720≤(z0f ms ds a m).1.zo∧(z0f ms ds a m).1.zo≤840:=by
 by_cases h1:z1x ms ds≠0
 ·have e:z0f ms ds a m=(⟨0,0⟩,z1x ms ds):=by unfold z0f;rw[if_pos h1]
  rw[e]at h
  exact (h1 h).elim
 ·by_cases h2:(z0w a ms).2=false
  ·have e:z0f ms ds a m=(⟨0,0⟩,5):=by unfold z0f;rw[if_neg h1,if_pos h2]
   rw[e]at h;cases h
  ·by_cases h3:(decide (0≤m) && decide (m≤144001439))=false
   ·have e:z0f ms ds a m=(⟨0,0⟩,1):=by unfold z0f;rw[if_neg h1,if_neg h2,if_pos h3]
    rw[e]at h;cases h
   ·have e:z0f ms ds a m=((z0w a ms).1,0):=by unfold z0f;rw[if_neg h1,if_neg h2,if_neg h3]
    rw[e]
    have h4:z13 0 ms=0:=by
     have h1:z1x ms ds=0:=Decidable.not_not.1 h1
     unfold z1x at h1
     split at h1
     ·cases h1
     ·split at h1
      ·rename_i q;exact (q h1).elim
      ·rename_i q;exact Decidable.not_not.1 q
    have h5:=y6k ms 0 h4 _ (y2k a ms h2)
    have h6:(decide (0≤m) && decide (m≤144001439))=true:=by simpa using h3
    simp at h6
    simp[z4r,idB]at h5
    exact ⟨h6.1,h6.2,h5.2.1,h5.2.2⟩
end Go.Ev
namespace Go.Proofs
open Go Go.Ev
attribute [local irreducible] wpF wpC cd
end Go.Proofs
namespace Go.Ev
def y3i {α:Type}[DecidableEq α](f:Int→α)(v:α):Nat→Int→Option Int
 | 0,_=>none
 | k+1,s=>if f s=v then y3i f v k (s+1) else some s
section
variable {α:Type}[DecidableEq α]{f:Int→α}{v:α}
theorem y5j:∀ {k:Nat} {s:Int},(∀ u,s≤u→u < s+k→f u=v)→y3i f v k s=none
 | 0,s,h=>rfl
 | k+1,s,h=>by
  unfold y3i
  rw[if_pos (h s (Int.le_refl _) (by omega))]
  exact y5j fun u h1 h2=>h u (by omega) (by omega)
theorem y5i:∀ {k:Nat} {s t:Int},s≤t→t < s+k→f t≠v→(∀ u,s≤u→u < t→f u=v)→y3i f v k s=some t
 | 0,s,t,h1,h2,_,_=>by omega
 | k+1,s,t,h1,h2,h3,h4=>by
  unfold y3i
  by_cases e:s=t
  ·subst e;rw[if_neg h3]
  ·rw[if_pos (h4 s (Int.le_refl _) (by omega))]
   exact y5i (by omega) (by omega) h3 fun u h5 h6=>h4 u (by omega) h6
theorem w3k:∀ {k:Nat} {s:Int},y3i f v k s=none→∀ u,s≤u→u < s+k→f u=v
 | 0,s,h,u,h1,h2=>by omega
 | k+1,s,h,u,h1,h2=>by
  unfold y3i at h
  split at h
  ·rename_i hs
   by_cases e:s=u
   ·rw[← e];exact hs
   ·exact w3k h u (by omega) (by omega)
  ·cases h
theorem w3e:∀ {k:Nat} {s t:Int},y3i f v k s=some t→s≤t∧t < s+k∧f t≠v∧∀ u,s≤u→u < t→f u=v
 | 0,s,t,h=>by cases h
 | k+1,s,t,h=>by
  unfold y3i at h
  split at h
  ·rename_i hs
   obtain ⟨h1,h2,h3,h4⟩:=w3e h
   refine ⟨by omega,by omega,h3,fun u h5 h6=>?_⟩
   by_cases e:s=u
   ·rw[← e];exact hs
   ·exact h4 u (by omega) h6
  ·rename_i hs
   cases h
   exact ⟨Int.le_refl _,by omega,hs,fun u h1 h2=>by omega⟩
end
theorem y16 {m:Mst}{day:Int}:∀ {l:List Dcr} {ks:List Int},ks.Nodup→(z1p m day l ks).Nodup
 | [],ks,h=>h
 | x::l,ks,h=>by
  unfold z1p
  refine y16 ?_
  split
  ·exact z3f (z3f h)
  ·exact h
theorem y11:∀ {l:List Dcr} {ks:List Int},ks.Nodup→(z15 l ks).Nodup
 | [],ks,h=>h
 | x::l,ks,h=>by
  unfold z15
  refine y11 ?_
  split
  ·exact z3f (z3f h)
  ·exact z3f h
theorem x2j {l:List Int}(h:l.Pairwise (fun a b:Int=>a≤b))(hn:l.Nodup):l.Pairwise (fun a b:Int=>a < b) :=
 (h.and hn).imp fun ⟨h1,h2⟩=>by omega
theorem y66 {l:List Int}(hn:l.Nodup):(z1h l).Pairwise (fun a b:Int=>a < b):=x2j (z4z l) ((z03 l).nodup_iff.2 hn)
theorem w0d (ds:List Dcr):(brk ds).Pairwise (fun a b:Int=>a < b):=y66 (y11 List.nodup_nil)
def y0i (ds:List Dcr)(m:Mst)(day:Int):List Int:=(z1h (z1p m day ds [0])).filter fun t=>decide (t < 1440)
theorem y6p (ds:List Dcr)(m:Mst)(day:Int):(y0i ds m day).Pairwise (fun a b:Int=>a < b):=(y66 (y16 (by simp))).filter _
theorem y1b {ds:List Dcr}{m:Mst}{day u:Int}:u∈y0i ds m day↔u∈z1p m day ds [0]∧u < 1440:=by
 unfold y0i
 rw[List.mem_filter,(z03 _).mem_iff];simp
theorem x3d {ds:List Dcr}{m:Mst}{day:Int}:0∈y0i ds m day:=y1b.2 ⟨z3x.2 (.inl (by simp)),by omega⟩
theorem y1l {ds:List Dcr}(hd:∀ x∈ds,DecOk x){m:Mst}{day u:Int}(h:u∈y0i ds m day):0≤u∧u < 1440:=by
 obtain ⟨h1,h2⟩:=y1b.1 h
 refine ⟨?_,h2⟩
 rcases z3x.1 h1 with h1 | ⟨x,hx,_,h1⟩
 ·simp at h1;omega
 ·have:=(hd x hx).o1
  have:=(hd x hx).o2
  rcases h1 with rfl | rfl<;>omega
theorem z8c (ds:List Dcr)(m:Mst)(day:Int):z0o ds m day=(y0i ds m day).map (z5s ds m day):=rfl
theorem gov {ds:List Dcr}(hd:∀ x∈ds,DecOk x)(m:Mst)(day of:Int)(h0:0≤of)(h1:of < 1440) :
  ∃ t∈y0i ds m day,t≤of∧(∀ u∈y0i ds m day,u≤of→u≤t)∧(∀ k1 k2,z0m ds m day t k1 k2=z0m ds m day of k1 k2)∧∀ z,z8o of (z0o ds m day) z=z5s ds m day t:=by
 obtain ⟨t,ht,h2,h3,h4⟩:=y2m (f:=z5s ds m day) (fun _=>rfl) of (y0i ds m day) x3r ⟨0,x3d,h0⟩ ((y6p ds m day).imp fun h=>Int.le_of_lt h)
 have hmax:∀ x∈ds,z2a x m day=true→(x.op≤of→x.op≤t)∧(x.cl≤of→x.cl≤t):=fun x hx hdt =>
  ⟨fun q=>h3 _ (y1b.2 ⟨z3x.2 (.inr ⟨x,hx,hdt,.inl rfl⟩),by omega⟩) q,fun q=>h3 _ (y1b.2 ⟨z3x.2 (.inr ⟨x,hx,hdt,.inr rfl⟩),by omega⟩) q⟩
 refine ⟨t,ht,h2,h3,fun k1 k2=>x4s hd h2 h1 hmax k1 k2,fun z=>?_⟩
 obtain ⟨t',ht',h2',h3',h4'⟩:=y2m (f:=z5s ds m day) (fun _=>rfl) of (y0i ds m day) z ⟨0,x3d,h0⟩ ((y6p ds m day).imp fun h=>Int.le_of_lt h)
 have:t'=t:=Int.le_antisymm (h3 _ ht' h2') (h3' _ ht h2)
 subst this
 exact h4'
theorem z8b {ds:List Dcr}{m:Mst}{day t of:Int}(h:∀ k1 k2,z0m ds m day t k1 k2=z0m ds m day of k1 k2):z3a ds m day t=z3a ds m day of:=by
 unfold z3a;rw[h,h]
def TV (ds:List Dcr)(m:Mst)(s:Int):Sho:=z3a ds m (s / 1440) (s % 1440)
def DV (ds:List Dcr)(m:Mst)(s:Int):Int×Int:=(z0m ds m (s / 1440) (s % 1440) 1 2,z0m ds m (s / 1440) (s % 1440) 3 4)
theorem y5z {ds:List Dcr}{m:Mst}{day of:Int}(h0:0≤of)(h1:of < 1440):TV ds m (1440*day+of)=z3a ds m day of:=by
 unfold TV
 have e1:(1440*day+of) / 1440=day:=by omega
 have e2:(1440*day+of) % 1440=of:=by omega
 rw[e1,e2]
def prS (p:Prt):Sho:=⟨p.fl,p.ho⟩
theorem x8b (ds:List Dcr)(m:Mst)(day t:Int):prS (z5s ds m day t)=z3a ds m day t:=rfl
def z5f (fr:Int)(was:Sho)(l:List Prt):Option Prt:=l.find? fun p=>decide (fr < p.of) && decide (prS p≠was)
theorem x2n {ds:List Dcr}(hd:∀ x∈ds,DecOk x){m:Mst}{day fr:Int}{was:Sho}(hfr:fr < 1440)(hw:0≤fr→z3a ds m day fr=was)(h:z5f fr was (z0o ds m day)=none) :
  ∀ of,fr < of→0≤of→of < 1440→z3a ds m day of=was:=by
 intro of h1 h0 h2
 obtain ⟨t,ht,g1,g2,g3,_⟩:=gov hd m day of h0 h2
 rw[← z8b g3]
 by_cases hc:fr < t
 ·unfold z5f at h
  rw[List.find?_eq_none]at h
  have:=h (z5s ds m day t) (by rw[z8c];exact List.mem_map_of_mem ht)
  simp only[Bool.and_eq_true,decide_eq_true_eq,not_and,Decidable.not_not]at this
  exact this hc
 ·have ht0:=(y1l hd ht).1
  obtain ⟨t',ht',g1',g2',g3',_⟩:=gov hd m day fr (by omega) hfr
  have e:t'=t:=by
   have a1:=g2 t' ht' (by omega)
   have a2:=g2' t ht (by omega)
   omega
  subst e
  rw[z8b g3']
  exact hw (by omega)
theorem y1h {α:Type}{p:α→Bool}:∀ {l:List α} {x:α},l.find? p=some x→∃ l1 l2,l=l1++x::l2∧p x=true∧∀ y∈l1,p y=false
 | [],x,h=>by simp at h
 | y::l,x,h=>by
  rw[List.find?_cons]at h
  cases hy:p y with
  | true =>
   rw[hy]at h
   cases h
   exact ⟨[],l,rfl,hy,by simp⟩
  | false =>
   rw[hy]at h
   obtain ⟨l1,l2,rfl,h1,h2⟩:=y1h h
   refine ⟨y::l1,l2,rfl,h1,fun z hz=>?_⟩
   rcases List.mem_cons.1 hz with rfl | hz
   ·exact hy
   ·exact h2 z hz
theorem x4c (ds:List Dcr)(m:Mst)(day:Int):(z0o ds m day).Pairwise (fun a b=>a.of < b.of):=by
 rw[z8c,List.pairwise_map]
 exact y6p ds m day
theorem x2m {ds:List Dcr}(hd:∀ x∈ds,DecOk x){m:Mst}{day fr:Int}{was:Sho}(hfr:fr < 1440)(hw:0≤fr→z3a ds m day fr=was){p:Prt}(h:z5f fr was (z0o ds m day)=some p) :
  fr < p.of∧0≤p.of∧p.of < 1440∧z3a ds m day p.of≠was∧∀ of,fr < of→0≤of→of < p.of→z3a ds m day of=was:=by
 unfold z5f at h
 obtain ⟨l1,l2,hl,h1,h2⟩:=y1h h
 simp only[Bool.and_eq_true,decide_eq_true_eq]at h1
 have hp:p∈z0o ds m day:=by rw[hl];simp
 have hp2:=hp
 rw[z8c,List.mem_map]at hp2
 obtain ⟨tp,htp,rfl⟩:=hp2
 have hr:=y1l hd htp
 refine ⟨h1.1,hr.1,hr.2,h1.2,fun of g h0 hlt=>?_⟩
 have hlt:of < tp:=hlt
 obtain ⟨t,ht,g1,g2,g3,_⟩:=gov hd m day of h0 (by omega)
 rw[← z8b g3]
 by_cases hc:fr < t
 ·have hq:z5s ds m day t∈z0o ds m day:=by rw[z8c];exact List.mem_map_of_mem ht
  have hpw:=x4c ds m day
  rw[hl]at hq hpw
  rcases List.mem_append.1 hq with hq | hq
  ·have:=h2 _ hq
   simp only[Bool.and_eq_false_iff,decide_eq_false_iff_not,Decidable.not_not]at this
   rcases this with q | q
   ·exact absurd hc q
   ·exact q
  ·have:tp≤t:=by
    rcases List.mem_cons.1 hq with hq | hq
    ·have:t=tp:=congrArg Prt.of hq
     omega
    ·have:=(List.pairwise_append.1 hpw).2.1
     rw[List.pairwise_cons]at this
     exact Int.le_of_lt (this.1 _ hq)
   omega
 ·have ht0:=(y1l hd ht).1
  obtain ⟨t',ht',g1',g2',g3',_⟩:=gov hd m day fr (by omega) hfr
  have e:t'=t:=by
   have a1:=g2 t' ht' (by omega)
   have a2:=g2' t ht (by omega)
   omega
  subst e
  rw[z8b g3']
  exact hw (by omega)
theorem x3e {ds:List Dcr}{d1 d2:Int}(h12:d1≤d2)(h:∀ b∈brk ds,d1 < b→d2 < b){x:Dcr}(hx:x∈ds)(m:Mst):z2a x m d1=z2a x m d2:=by
 have e1:x.fr≤d1↔x.fr≤d2:=by
  have:=h x.fr (y0u.2 ⟨x,hx,.inl rfl⟩)
  omega
 have e2:x.un=0∨(d1 < x.un↔d2 < x.un):=by
  by_cases hu:x.un=0
  ·exact .inl hu
  ·have:=h x.un (y0u.2 ⟨x,hx,.inr ⟨hu,rfl⟩⟩)
   exact .inr (by omega)
 unfold z2a
 rw[decide_eq_decide.2 e1]
 rcases e2 with e2 | e2
 ·simp[e2]
 ·rw[decide_eq_decide.2 e2]
theorem y89 {ds:List Dcr}{d1 d2:Int}(h12:d1≤d2)(h:∀ b∈brk ds,d1 < b→d2 < b)(m:Mst)(of k1 k2:Int):z0m ds m d1 of k1 k2=z0m ds m d2 of k1 k2 :=
 z71 _ _ _ _ fun x hx=>by rw[x3e h12 h hx m]
theorem x2l {ds:List Dcr}{d1 d2:Int}(h12:d1≤d2)(h:∀ b∈brk ds,d1 < b→d2 < b)(m:Mst)(of:Int):z3a ds m d1 of=z3a ds m d2 of:=by
 unfold z3a
 rw[y89 h12 h,y89 h12 h]
def z7a (ds:List Dcr)(day:Int):Option Int:=(brk ds).find? fun b=>decide (day < b)
theorem x06 {ds:List Dcr}{day:Int}(h:z7a ds day=none):∀ b∈brk ds,b≤day:=by
 unfold z7a at h
 rw[List.find?_eq_none]at h
 intro b hb
 have:=h b hb
 simp only[decide_eq_true_eq]at this
 omega
theorem x05 {ds:List Dcr}{day d:Int}(h:z7a ds day=some d):day < d∧d∈brk ds∧∀ b∈brk ds,day < b→d≤b:=by
 unfold z7a at h
 obtain ⟨l1,l2,hl,h1,h2⟩:=y1h h
 have h1:=of_decide_eq_true h1
 refine ⟨h1,by rw[hl];simp,fun b hb hlt=>?_⟩
 have hpw:=w0d ds
 rw[hl]at hb hpw
 rcases List.mem_append.1 hb with hb | hb
 ·exact absurd hlt (of_decide_eq_false (h2 b hb))
 ·rcases List.mem_cons.1 hb with rfl | hb
  ·exact Int.le_refl _
  ·have:=(List.pairwise_append.1 hpw).2.1
   rw[List.pairwise_cons]at this
   exact Int.le_of_lt (this.1 _ hb)
def x4u (ds:List Dcr)(m:Mst)(s:Int):Option Int:=y3i (TV ds m) (TV ds m s) (144002879-s).toNat (s+1)
def z99 (ds:List Dcr)(m:Mst)(s day:Int):Prop:=∀ u,s < u→u < 1440*day→TV ds m u=TV ds m s
theorem y6r {ds:List Dcr}{m:Mst}{s day:Int}(h:z99 ds m s day)(hd:100001 < day):x4u ds m s=none :=
 y5j fun u h1 h2=>h u (by omega) (by omega)
theorem x3f {ds:List Dcr}(hd:∀ x∈ds,DecOk x){m:Mst}{s day fr:Int}(hI:z99 ds m s day)(hl:day≤100001)(hfr:(fr=s % 1440∧day=s / 1440)∨(fr=-1∧s / 1440 < day)){p:Prt}
  (h:z5f fr (TV ds m s) (z0o ds m day)=some p):x4u ds m s=some (1440*day+p.of):=by
 have hw:0≤fr→z3a ds m day fr=TV ds m s:=fun h0=>by
  rcases hfr with ⟨rfl,rfl⟩ | ⟨rfl,_⟩
  ·rfl
  ·omega
 obtain ⟨h1,h2,h3,h4,h5⟩:=x2m hd (by omega) hw h
 refine y5i (by omega) (by omega) (by rw[y5z h2 h3];exact h4) fun u g1 g2=>?_
 by_cases hu:u < 1440*day
 ·exact hI u (by omega) hu
 ·have e:u=1440*day+(u-1440*day):=by omega
  rw[e,y5z (by omega) (by omega)]
  exact h5 _ (by omega) (by omega) (by omega)
theorem x7g {ds:List Dcr}(hd:∀ x∈ds,DecOk x){m:Mst}{s day fr:Int}(hI:z99 ds m s day)(hfr:(fr=s % 1440∧day=s / 1440)∨(fr=-1∧s / 1440 < day))
  (h:z5f fr (TV ds m s) (z0o ds m day)=none):z99 ds m s (day+1):=by
 have hw:0≤fr→z3a ds m day fr=TV ds m s:=fun h0=>by
  rcases hfr with ⟨rfl,rfl⟩ | ⟨rfl,_⟩
  ·rfl
  ·omega
 intro u h1 h2
 by_cases hu:u < 1440*day
 ·exact hI u h1 hu
 ·have e:u=1440*day+(u-1440*day):=by omega
  rw[e,y5z (by omega) (by omega)]
  exact x2n hd (by omega) hw h _ (by omega) (by omega) (by omega)
theorem y9b {ds:List Dcr}{m:Mst}{s day d:Int}(hI:z99 ds m s (day+1))(hday:s / 1440 < day)(hb:∀ b∈brk ds,day < b→d≤b):z99 ds m s d:=by
 intro u h1 h2
 by_cases hu:u < 1440*(day+1)
 ·exact hI u h1 hu
 ·have e:u=1440*(u / 1440)+u % 1440:=by omega
  rw[e,y5z (by omega) (by omega),← x2l (d1:=day) (by omega) (fun b hb' hlt=>by have:=hb b hb' hlt;omega) m]
  rw[← y5z (by omega) (by omega)]
  exact hI _ (by omega) (by omega)
end Go.Ev
namespace Go.Ev
def SV (ds:List Dcr)(m:Mst)(n:Int):Sho:=TV ds m (n+m.zo)
def w3q (ds:List Dcr)(m:Mst)(n:Int):Option Int:=y3i (SV ds m) (SV ds m n) (144001439-n).toNat (n+1)
theorem w4p {ds:List Dcr}{m:Mst}{n:Int}(h0:0≤n)(h1:n≤144001439)(hz:-720≤m.zo∧m.zo≤840) :
  w3q ds m n=match x4u ds m (n+m.zo) with | some s=>if s-m.zo≤144001439 then some (s-m.zo) else none | none=>none:=by
 cases h:x4u ds m (n+m.zo) with
 | none =>
  have:=w3k h
  refine y5j fun u g1 g2=>this (u+m.zo) (by omega) (by omega)
 | some s =>
  obtain ⟨g1,g2,g3,g4⟩:=w3e h
  simp only
  split
  ·rename_i hs
   refine y5i (by omega) (by omega) ?_ fun u q1 q2=>g4 (u+m.zo) (by omega) (by omega)
   unfold SV
   rw[show s-m.zo+m.zo=s by omega]
   exact g3
  ·rename_i hs
   exact y5j fun u q1 q2=>g4 (u+m.zo) (by omega) (by omega)
end Go.Ev
namespace Go.Ev
def z04 (x:Prt):List AV:=[I x.of,I x.fl,Bo x.ho,I x.pf,I x.ph]
theorem ePr:EncOk z04 5:=⟨fun _=>rfl,fun x y h=>by cases x;cases y;simp[z04]at h;simp[h],fun _ _=>rfl,fun _ _=>rfl,fun _=>rfl⟩
def vPr (l:List Prt):AV:=.vs (z0a z04 l) l.length .none
def z3c (L:List (Int×List Prt)):List (AV×AV):=L.map fun e=>(I e.1,vPr e.2)
theorem y1j (e:Int×List Prt)(L:List (Int×List Prt)):z3c (e::L)=(I e.1,vPr e.2)::z3c L:=rfl
def MapOk (ds:List Dcr)(m:Mst)(es:List (AV×AV)):Prop:=∃ L,es=z3c L∧∀ e∈L,e.2=z0o ds m e.1
theorem MapOk.nil (ds:List Dcr)(m:Mst):MapOk ds m []:=⟨[],rfl,by simp⟩
theorem x4q (L:List (Int×List Prt))(k:Int):(z3c L).all (fun x=>z09 (I k) x.1)=true:=by
 rw[z3c,List.all_eq_true]
 intro x hx
 obtain ⟨e,_,rfl⟩:=List.mem_map.1 hx
 rfl
theorem MapOk.kk {ds:List Dcr}{m:Mst}{es:List (AV×AV)}(h:MapOk ds m es)(k:Int):es.all (fun x=>z09 (I k) x.1)=true:=by
 obtain ⟨L,rfl,_⟩:=h;exact x4q L k
theorem y8z (k:Int):∀ {L:List (Int×List Prt)} {v:AV},z4t (I k) (z3c L)=some v→∃ e∈L,e.1=k∧v=vPr e.2
 | [],v,h=>by cases h
 | e::L,v,h=>by
  rw[y1j]at h
  unfold z4t at h
  split at h
  ·rename_i hk
   cases h
   have:k=e.1:=by simpa[z2y] using hk
   exact ⟨e,by simp,this.symm,rfl⟩
  ·obtain ⟨e',h1,h2⟩:=y8z k h
   exact ⟨e',List.mem_cons_of_mem _ h1,h2⟩
theorem MapOk.get {ds:List Dcr}{m:Mst}{es:List (AV×AV)}(h:MapOk ds m es){k:Int}(hk:y6n (I k) es=true):z2w (I k) es=vPr (z0o ds m k):=by
 obtain ⟨L,rfl,h1⟩:=h
 unfold y6n at hk
 unfold z2w
 cases hf:z4t (I k) (z3c L) with
 | none=>rw[hf]at hk;cases hk
 | some v =>
  obtain ⟨e,he,rfl,rfl⟩:=y8z k hf
  rw[← h1 e he];rfl
theorem y95 (k:Int)(v:List Prt):∀ L:List (Int×List Prt),∃ L',z08 (I k) (vPr v) (z3c L)=z3c L'∧∀ e∈L',e∈L∨e=(k,v)
 | []=>⟨[(k,v)],rfl,by simp⟩
 | e::L=>by
  rw[y1j]
  unfold z08
  split
  ·exact ⟨(k,v)::L,rfl,fun x hx=>by
    rcases List.mem_cons.1 hx with rfl | hx
    ·exact .inr rfl
    ·exact .inl (List.mem_cons_of_mem _ hx)⟩
  ·obtain ⟨L',h1,h2⟩:=y95 k v L
   refine ⟨e::L',by rw[h1];rfl,fun x hx=>?_⟩
   rcases List.mem_cons.1 hx with rfl | hx
   ·exact .inl (by simp)
   ·rcases h2 x hx with h2 | h2
    ·exact .inl (List.mem_cons_of_mem _ h2)
    ·exact .inr h2
theorem MapOk.put {ds:List Dcr}{m:Mst}{es:List (AV×AV)}(h:MapOk ds m es){k:Int}{v:List Prt}(hv:v=z0o ds m k):MapOk ds m (z08 (I k) (vPr v) es):=by
 obtain ⟨L,rfl,h1⟩:=h
 obtain ⟨L',h2,h3⟩:=y95 k v L
 refine ⟨L',h2,fun e he=>?_⟩
 rcases h3 e he with h4 | rfl
 ·exact h1 e h4
 ·exact hv
theorem MapOk.plain {ds:List Dcr}{m:Mst}{es:List (AV×AV)}(h:MapOk ds m es):z6y es:=by
 obtain ⟨L,rfl,_⟩:=h
 have hT:∀ l:List Prt,z1y 0 (z0a z04 l)=true:=by
  intro l
  induction l with
  | nil=>rfl
  | cons x l ih=>simp only[z0a,z7p,ih];rfl
 constructor
 ·simp only[noHB,z3c,List.all_eq_true]
  intro x hx
  obtain ⟨e,_,rfl⟩:=List.mem_map.1 hx
  simp[noH,vPr,ePr.noHL']
 ·simp only[y1a,z3c,List.all_eq_true]
  intro x hx
  obtain ⟨e,_,rfl⟩:=List.mem_map.1 hx
  simp[noT,vPr,hT]
theorem MapOk.noHB {ds:List Dcr}{m:Mst}{es:List (AV×AV)}(h:MapOk ds m es)(n:Nat):Go.Ev.noHB n (.map es)=true:=by
 obtain ⟨L,rfl,_⟩:=h
 simp only[Go.Ev.noHB,z3c,List.all_eq_true]
 intro x hx
 obtain ⟨e,_,rfl⟩:=List.mem_map.1 hx
 simp[noH,vPr,ePr.noHL']
theorem MapOk.scrub {ds:List Dcr}{m:Mst}{es:List (AV×AV)}(h:MapOk ds m es):z0n 0 (.map es)=.map es:=by
 obtain ⟨L,rfl,_⟩:=h
 simp only[z0n,z3c,List.map_map]
 congr 1
 refine List.map_congr_left fun e _=>?_
 simp[Function.comp,Go.Ev.scrub,vPr,ePr.scL,Tok.scrub]
theorem y2c {d1 d2:Int}:∀ (l:List Int) (f:Int),(∀ b∈l,b≤d1↔b≤d2)→z2u d1 l f=z2u d2 l f
 | [],f,_=>rfl
 | b::l,f,h=>by
  unfold z2u
  have e:(if b≤d1 then b else f)=(if b≤d2 then b else f):=by
   have:=h b (by simp)
   by_cases hb:b≤d1
   ·rw[if_pos hb,if_pos (this.1 hb)]
   ·rw[if_neg hb,if_neg (fun q=>hb (this.2 q))]
  rw[e,y2c l _ fun c hc=>h c (List.mem_cons_of_mem _ hc)]
theorem y9q {ds:List Dcr}(hd:∀ x∈ds,DecOk x)(day:Int):z0z ds (z0z ds day)=z0z ds day :=
 (y2c (brk ds) (-1) fun b hb=>z9b hd hb day).symm
theorem y33 {ds:List Dcr}(hd:∀ x∈ds,DecOk x)(m:Mst)(day:Int):z0o ds m (z0z ds day)=z0o ds m day:=y8d hd (y9q hd day) m
abbrev mCs (a c b:List AV)(n k nb:Nat)(id zo:Int):List AV:=[.vs a n .none,.vs c k .none,I id,I zo,.vs b nb .none]
structure ObjOk (a c b:List AV) (n k nb:Nat) (id zo:Int) (es:List (AV×AV)) (ms:List Mst) (ds:List Dcr):Prop where
 ha:a=z0a z0d ms
 hn:n=ms.length
 hc:c=z0a z0b ds
 hk:k=ds.length
 hb:b=z0a z0s (brk ds)
 hnb:nb=(brk ds).length
 dok:∀ x∈ds,DecOk x
 dl:ds.length≤100
 ml:ms.length≤40
 z1:-720≤zo
 z2:zo≤840
 mp:MapOk ds ⟨id,zo⟩ es
def z0j (c:List AV):List Dcr:=z0c (z0a z0b) (fun ds=>ds) [] c
theorem z1m (ds:List Dcr):z0j (z0a z0b ds)=ds:=eD.on (by decide) _ _ _
end Go.Ev
