/- An evaluator of the model, part 7: sorted keys, code told piece by piece, drawn regions told by hand. -/
import Derived.Test.YtdpfgjljehajbaaGreatDoorE5
import Derived.Shelf.SlIterI.Nil
set_option linter.unusedVariables false
set_option linter.unusedSimpArgs false
namespace Go.Ev
mutual
def zap:AV→AV
 | .agg l=>.agg (z5d l)
 | .tup l=>.tup (z5d l)
 | .vs l n _=>.vs (z5d l) n .none
 | .vp l=>.vp (z5d l)
 | .ifc t a=>.ifc t (zap a)
 | a=>a
def z5d:List AV→List AV
 | []=>[]
 | a::l=>zap a::z5d l
end
theorem y7w:∀ (l:List AV) (i:Nat),(z5d l)[i]?=(l[i]?).map zap
 | [],i=>by simp[z5d]
 | a::l,0=>by simp[z5d]
 | a::l,i+1=>by simpa[z5d] using y7w l i
theorem z86:∀ l:List AV,(z5d l).length=l.length
 | []=>rfl
 | a::l=>by simp[z5d,z86 l]
theorem x3q:∀ l m:List AV,z5d (l++m)=z5d l++z5d m
 | [],m=>rfl
 | a::l,m=>by simp[z5d,x3q l m]
theorem y26 {l:List AV}{i:Nat}{a:AV}(h:(z5d l)[i]?=some a):∃ b,l[i]?=some b∧a=zap b:=by
 rw[y7w,Option.map_eq_some_iff]at h
 obtain ⟨b,h1,rfl⟩:=h
 exact ⟨b,h1,rfl⟩
theorem VR.zap {G:Gh}{w:World}{a:AV}{v:Value}(h:VR G w a v):VR G w (zap a) v:=by
 induction h with
 | bad v=>exact .bad v
 | int k n=>exact .int k n
 | bool b=>exact .bool b
 | str s=>exact .str s
 | raw r=>exact .raw r
 | agg l cs hs h ih =>
  refine .agg _ cs (by rw[z86];exact hs) fun i a ha=>?_
  obtain ⟨b,h1,rfl⟩:=y26 ha
  exact ih i b h1
 | tup l cs hs h ih =>
  refine .tup _ cs (by rw[z86];exact hs) fun i a ha=>?_
  obtain ⟨b,h1,rfl⟩:=y26 ha
  exact ih i b h1
 | vs l n t A c f hc h hh ht ih =>
  refine .vs _ n .none A c f hc (fun i a ha=>?_) ?_ trivial
  ·obtain ⟨b,h1,rfl⟩:=y26 ha
   exact ih i b h1
  ·rcases hh with rfl | ⟨ad,h1,h2⟩
   ·exact .inl rfl
   ·exact .inr ⟨ad,h1,by rw[z86];exact h2⟩
 | vp l ad f h hh ih =>
  refine .vp _ ad f (fun i a ha=>?_) (by rw[z86];exact hh)
  obtain ⟨b,h1,rfl⟩:=y26 ha
  exact ih i b h1
 | ptr h off b hb=>exact .ptr h off b hb
 | row h off n c b hb hc=>exact .row h off n c b hb hc
 | mp h b hb=>exact .mp h b hb
 | fn f a b us vs ha hb h1 h2 _ _=>exact .fn f a b us vs ha hb h1 h2
 | ifc t a v h ih=>exact .ifc t _ v ih
def y7v:CR→CR
 | .ret v=>.ret (zap v)
 | .pan v=>.pan v
theorem EndR.zap {G:Gh}{w:World}{r:CR}{e:Ending}(h:EndR G w r e):EndR G w (y7v r) e:=by
 cases r with
 | ret v=>obtain ⟨u,h1,h2⟩:=h;exact ⟨u,h1,h2.zap⟩
 | pan v=>exact h
theorem CallOk.zap {C:Cx}{g:FuncId}{args:List AV}{S S':St}{r:CR}(h:CallOk C g args S r S'):CallOk C g args S (y7v r) S':=fun G w us h1 h2 h3 =>
 (h G w us h1 h2 h3).mono fun e w' ⟨G',q1,q2,q3⟩=>⟨G',q1,q2,q3.zap⟩
section
variable {B:Base}{l:List (FuncId×Spc)}{lm:List (Nat×List Nat)}{tp ct:List Nat}{sm:List (Nat×Nat)}
end
end Go.Ev
namespace Go.Ev
abbrev SpcT:=List AV→St→Option (Prop×CR×St)
def w78 (R:SpcT)(args:List AV)(S:St)(k:CR→St→Prop):Prop:=match R args S with
 | some (D,r,S')=>D∧k r S'
 | none=>False
theorem w9f (R:SpcT):One (w78 R):=by
 intro args S
 unfold w78
 cases h:R args S with
 | none=>exact ⟨(.ret .bad,S),False,fun k=>by simp⟩
 | some p=>exact ⟨(p.2.1,p.2.2),p.1,fun k=>Iff.rfl⟩
theorem HookOk.of_T {C0:Cx}{g:FuncId}{R:SpcT}(hb:∃ (fn:Func) (c:Code),C0.P.funcs[g]?=some fn∧fn.body=some c)
  (h:∀ args S (D:Prop) r S',R args S=some (D,r,S')→D→CallOk C0 g args S r S'∧Wl S S'):HookOk C0 g (w78 R) where
 one:=w9f R
 body:=hb
 ok:=fun args S r S' hw=>by
  unfold w78 at hw
  split at hw
  ·rename_i D r1 S1 hR
   obtain ⟨hD,rfl,rfl⟩:=hw
   exact h _ _ _ _ _ hR hD
  ·exact hw.elim
def w7u:Code→Bool
 | .seq a b=>w7u a && w7u b
 | .cond _ a b=>w7u a && w7u b
 | .block _ a=>w7u a
 | .loop _=>false
 | _=>true
section
variable {C:WCx}
theorem w8f (ho:C.Ones)(hm:∀ c e,C.mask c e=e)(hcut:∀ c,C.cut c=false):∀ (c:Code) (env:Env) (S:St) (k:Kont),w7u c=true→wpC C c env S k→∃ x e s,evC C.cx noSelf c env S=some (x,e,s)∧k x e s:=by
 intro c
 induction c<;>intro env S k hn h
 case skip=>exact ⟨_,_,_,rfl,h⟩
 case region id ops d =>
  cases d
  ·exact z7k ho _ _ _ _ h
  ·simp only[wpC]at h
   simp only[evC]
   split at h
   ·rename_i hf
    rw[if_pos hf]
    obtain ⟨e,s,h1,h2⟩:=z6i (sf:=noSelf) ho _ _ _ _ _ _ h
    rw[h1]
    exact z7k ho _ _ _ _ h2
   ·rename_i hf
    rw[if_neg (by rw[hf];simp)]
    obtain ⟨e,s,h1,h2⟩:=z6i (sf:=noSelf) ho _ _ _ _ _ _ h
    rw[h1]
    exact ⟨_,_,_,rfl,h2⟩
 case seq a b iha ihb =>
  simp only[w7u,Bool.and_eq_true]at hn
  obtain ⟨x,e,s,h1,h2⟩:=iha _ _ _ hn.1 h
  simp only[evC,h1]
  cases x with
  | normal =>
   simp only[hcut b,hm]at h2
   exact ihb _ _ _ hn.2 h2
  | _=>exact ⟨_,_,_,rfl,h2⟩
 case cond c a b iha ihb =>
  simp only[w7u,Bool.and_eq_true]at hn
  simp only[wpC]at h
  simp only[evC]
  split at h
  ·rename_i t ht
   rw[x4p,ht]
   rcases z4v h with ⟨rfl,h⟩ | ⟨rfl,h⟩
   ·exact iha _ _ _ hn.1 h
   ·exact ihb _ _ _ hn.2 h
  ·exact h.elim
 case block id c ih =>
  obtain ⟨x,e,s,h1,h2⟩:=ih _ _ _ hn h
  simp only[evC,h1]
  cases x with
  | exit i =>
   rcases z4v h2 with ⟨q,h2⟩ | ⟨q,h2⟩
   ·exact ⟨_,_,_,if_pos (of_decide_eq_true q),h2⟩
   ·exact ⟨_,_,_,if_neg (of_decide_eq_false q),h2⟩
  | _=>exact ⟨_,_,_,rfl,h2⟩
 case exit id=>exact ⟨_,_,_,rfl,h⟩
 case ret=>exact ⟨_,_,_,rfl,h⟩
 case loop c ih=>exact absurd hn (by simp[w7u])
 all_goals exact h.elim
end
def v4l (C:Cx)(fn:Func)(S:St)(r:CR)(S':St):Kont:=fun x e s=>(x=.normal∨x=.ret)∧∃ v,z0v C fn e s=some v∧r=.ret (finish C S s v).1∧S'=(finish C S s v).2
theorem w9q {B:Base}(hB:BaseOk B){l:List (FuncId×Spc)}(hl:Cts B l){g:FuncId}{fn:Func}{c:Code}(hfn:B.P.funcs[g]?=some fn)(hc:fn.body=some c)(hn:w7u c=true){args:List AV}{S S':St}{r:CR}
  (h:wpC (B.wcx l) c (args++List.replicate (fn.ntmps-args.length) .bad) { S with wl:=[] } (v4l (B.wcx l).cx fn S r S')):CallOk B.c0 g args S r S'∧Wl S S':=by
 obtain ⟨x,e,s,h1,hx,v,h2,rfl,rfl⟩:=w8f (z7l hB hl) (fun c e=>by unfold WCx.mask;cases z8w c<;>rfl) (fun c=>by unfold WCx.cut;cases z8w c<;>rfl) c _ _ _ hn h
 have hcall:y1p (B.wcx l).cx noSelf g args S=some (.ret (finish (B.wcx l).cx S s v).1,(finish (B.wcx l).cx S s v).2):=by
  unfold y1p
  rw[show (B.wcx l).cx.P.funcs[g]?=some fn from hfn]
  simp only[hc,h1]
  rcases hx with rfl | rfl<;>simp only[h2]
 have hs:SelfW noSelf:=⟨fun _ _ _ _ _ h=>(by cases h),fun _ _ _ _ _ _ h=>(by cases h)⟩
 exact ⟨(x44 (y0m hB hl) (w99 hB hl) (y61 _) hs hcall).2,x42 (w99 hB hl) hs hcall⟩
end Go.Ev
namespace Go.Ev
open Go.RowKit Go.Shelf Go.Proofs Go.Maps Go.MapKept
section
variable {C:Cx}{G:Gh}{w w':World}{S:St}
theorem Inv.below (hI:Inv G w S)(hb:Below w.heap.size w w'):Inv G w' S∧Evo G w G w':=by
 have hE:Evo G w G w':={
  k:=fun _ _ h=>h
  cell:=fun b o hK=>by
   have:=hb.block b (hI.kin _ _ hK)
   simp[World.cell?,this]
  σ:=fun _ _ h=>h
  σn:=fun _ _ h=>.inl h
  tk:=fun k b c m z h=>⟨b,c,m,h,.inl ⟨rfl,rfl,rfl⟩⟩
  tkn:=fun k b c m z h=>.inl ⟨c,m,z,h⟩
  kn:=fun _ _ h=>.inl h
  B:=rfl
  size:=hb.size
  os:=hb.os
  tape:=hb.tape
  output:=hb.output
  frame:=fun b hlt _ _=>hb.block b hlt }
 refine ⟨{
  blk:=fun h x hh=>by
   obtain ⟨b,o,h1,h2,h3⟩:=hI.blk _ _ hh
   exact ⟨b,o,h1,by rw[hb.block b (hI.blk_lt h1)];exact h2,h3.mono hE⟩
  dom:=hI.dom
  inj:=hI.inj
  fr:=hI.fr
  base:=hI.base
  tok:=hI.tok
  tdom:=fun k b c m z hk=>by
   obtain ⟨h1,h2,h3,h4,h5,⟨cs,e,h6,h7⟩,h8⟩:=hI.tdom _ _ _ _ _ hk
   exact ⟨h1,h2,h3,h4,h5,⟨cs,e,by rw[hb.block b (hI.tk_lt hk)];exact h6,h7⟩,h8⟩
  tinj:=hI.tinj
  tσ:=hI.tσ
  kin:=fun b o hK=>Nat.lt_of_lt_of_le (hI.kin _ _ hK) hb.size
  bin:=Nat.le_trans hI.bin hb.size },hE⟩
theorem Inv.rowNew (hI0:Inv G w S)(hb:Below w.heap.size w w'){g c m:Nat}{z:Nat×Nat}{cs:Array Value}{e:TypeId}(hg:w.heap.size≤g)(hgb:w'.heap[g]?=some (.cells cs e (0,0)))
  (hz:0 < z.1) (hmc:m≤c) (hc:c≤maxLen) (hcs:cs.size=c*z.1) (he:e=z.2) :
  Inv (G.tnew S.ts.length g c m z) w' { S with ts:=S.ts++[(m,z)] }∧Evo G w (G.tnew S.ts.length g c m z) w':=by
 obtain ⟨hI,hE0⟩:=hI0.below hb
 have hk:G.tk S.ts.length=none:=hI.tk_len
 have fσ:∀ h,G.σ h≠some g:=fun h e=>by have:=hI0.blk_lt e;omega
 have fT:∀ k c m z,G.tk k≠some (g,c,m,z):=fun k c m z e=>by have:=hI0.tk_lt e;omega
 have fK:∀ o,¬ G.K g o:=fun o e=>by have:=hI0.kin _ _ e;omega
 have hgl:g < w'.heap.size:=(Array.getElem?_eq_some_iff.1 hgb).1
 have hne:∀ {i},i≠S.ts.length→(G.tnew S.ts.length g c m z).tk i=G.tk i:=fun e=>upd_ne _ _ e
 have heq:(G.tnew S.ts.length g c m z).tk S.ts.length=some (g,c,m,z):=upd_same _ _ _
 have ht1:(S.ts++[(m,z)])[S.ts.length]?=some (m,z):=by simp
 have ht2:∀ i,i≠S.ts.length→(S.ts++[(m,z)])[i]?=S.ts[i]?:=fun i hi=>by
  rcases Nat.lt_or_ge i S.ts.length with h1 | h1
  ·rw[List.getElem?_append_left h1]
  ·rw[List.getElem?_append_right h1,List.getElem?_eq_none h1]
   have:1≤i-S.ts.length:=by omega
   simp;omega
 have hE:Evo G w (G.tnew S.ts.length g c m z) w':={
  k:=fun _ _ h=>.inl h
  cell:=hE0.cell
  σ:=fun _ _ h=>h
  σn:=fun _ _ h=>.inl h
  tk:=fun i b' c' m' z' hi=>by
   have e:i≠S.ts.length:=by rintro rfl;rw[hk]at hi;cases hi
   exact ⟨b',c',m',by rw[hne e];exact hi,.inl ⟨rfl,rfl,rfl⟩⟩
  tkn:=fun i b' c' m' z' hi=>by
   by_cases e:i=S.ts.length
   ·subst e;rw[heq]at hi;cases hi;exact .inr hg
   ·rw[hne e]at hi;exact .inl ⟨c',m',z',hi⟩
  kn:=fun b' o hK=>by
   rcases hK with hK | ⟨rfl,_⟩
   ·exact .inl hK
   ·exact .inr (.inl hg)
  B:=rfl
  size:=hb.size
  os:=hb.os
  tape:=hb.tape
  output:=hb.output
  frame:=fun b hlt _ _=>hb.block b hlt }
 refine ⟨{
  blk:=fun h x hh=>by
   obtain ⟨b,o,h1,h2,h3⟩:=hI0.blk _ _ hh
   exact ⟨b,o,h1,by rw[hb.block b (hI0.blk_lt h1)];exact h2,h3.mono hE⟩
  dom:=hI.dom
  inj:=hI.inj
  fr:=fun h b o hb'=>by
   rintro (hK | ⟨rfl,_⟩)
   ·exact hI.fr _ _ _ hb' hK
   ·exact fσ _ hb'
  base:=hI.base
  tok:=fun i m' z' hi=>by
   by_cases e:i=S.ts.length
   ·subst e;simp only[ht1]at hi;cases hi;exact ⟨_,_,heq⟩
   ·simp only at hi
    rw[ht2 i e]at hi
    obtain ⟨b,c',h1⟩:=hI.tok _ _ _ hi
    exact ⟨b,c',by rw[hne e];exact h1⟩
  tdom:=fun i b c' m' z' hi=>by
   by_cases e:i=S.ts.length
   ·subst e
    rw[heq]at hi
    cases hi
    exact ⟨ht1,Nat.le_trans hI0.bin hg,hz,hmc,hc,⟨cs,_,⟨(0,0),hgb,Nat.zero_le _⟩,hcs,he⟩,fun o ho=>by
     rcases ho with ho | ⟨_,ho⟩
     ·exact absurd ho (fK _)
     ·exact ho⟩
   ·rw[hne e]at hi
    obtain ⟨h1,h2,h3,h4,h5,h6,h8⟩:=hI.tdom _ _ _ _ _ hi
    exact ⟨by simp only;rw[ht2 i e];exact h1,h2,h3,h4,h5,h6,fun o ho=>by
     rcases ho with ho | ⟨rfl,_⟩
     ·exact h8 _ ho
     ·exact absurd hi (fT _ _ _ _)⟩
  tinj:=fun i i' b c1 m1 z1 c2 m2 z2 h1 h2=>by
   by_cases e:i=S.ts.length<;>by_cases e':i'=S.ts.length
   ·rw[e,e']
   ·subst e
    rw[heq]at h1
    rw[hne e']at h2
    cases h1;exact absurd h2 (fT _ _ _ _)
   ·subst e'
    rw[heq]at h2
    rw[hne e]at h1
    cases h2;exact absurd h1 (fT _ _ _ _)
   ·rw[hne e]at h1
    rw[hne e']at h2
    exact hI.tinj _ _ _ _ _ _ _ _ _ h1 h2
  tσ:=fun i b c' m' z' h hi hh=>by
   by_cases e:i=S.ts.length
   ·subst e
    rw[heq]at hi
    cases hi;exact fσ _ hh
   ·rw[hne e]at hi
    exact hI.tσ _ _ _ _ _ _ hi hh
  kin:=fun b o hK=>by
   rcases hK with hK | ⟨rfl,_⟩
   ·exact hI.kin _ _ hK
   ·exact hgl
  bin:=hI.bin },hE⟩
end

def z4s:List (AV×AV)→Option (List Int)
 | []=>some []
 | (.int .i64 n,.bool _)::es=>if (Lit.int .i64 n).wf then match z4s es with | some r=>some (n::r) | none=>none else none
 | _=>none
def y4s (n:Int):List Int→List Int
 | []=>[n]
 | m::l=>if n≤m then n::m::l else m::y4s n l
def z1h:List Int→List Int
 | []=>[]
 | n::l=>y4s n (z1h l)
theorem y2p (n:Int):∀ l,(y4s n l).Perm (n::l)
 | []=>.refl _
 | m::l=>by
  simp only[y4s]
  split
  ·exact .refl _
  ·exact ((y2p n l).cons m).trans (.swap n m l)
theorem z03:∀ l,(z1h l).Perm l
 | []=>.refl _
 | n::l=>(y2p n _).trans ((z03 l).cons n)
theorem y35 (n:Int):∀ l,l.Pairwise (fun a b:Int=>a≤b)→(y4s n l).Pairwise (fun a b:Int=>a≤b)
 | [],_=>by simp[y4s]
 | m::l,h=>by
  simp only[y4s]
  rw[List.pairwise_cons]at h
  split
  ·rename_i hle
   refine List.pairwise_cons.2 ⟨fun x hx=>?_,List.pairwise_cons.2 h⟩
   rcases List.mem_cons.1 hx with rfl | hx
   ·exact hle
   ·exact Int.le_trans hle (h.1 _ hx)
  ·rename_i hle
   refine List.pairwise_cons.2 ⟨fun x hx=>?_,y35 n l h.2⟩
   rcases List.mem_cons.1 ((y2p n l).mem_iff.1 hx) with rfl | hx
   ·omega
   ·exact h.1 _ hx
theorem z4z:∀ l,(z1h l).Pairwise (fun a b:Int=>a≤b)
 | []=>List.Pairwise.nil
 | n::l=>y35 n _ (z4z l)
theorem z9h {l l':List Int}(h:l.Perm l'):l.mergeSort (fun x y=>decide (x≤y))=z1h l':=by
 have tr:∀ a b c:Int,leI a b = true→leI b c = true→leI a c = true:=fun a b c h1 h2=>by simp only [leI,decide_eq_true_eq] at *; exact Int.le_trans h1 h2
 have to:∀ a b:Int,(leI a b || leI b a)=true:=fun a b=>by simp only[leI,Bool.or_eq_true,decide_eq_true_eq];exact Int.le_total a b
 refine List.Perm.eq_of_pairwise (le:=fun a b=>leI a b=true) (fun a b _ _ h1 h2=>?_) (List.pairwise_mergeSort tr to l) ((z4z l').imp fun h=>by simpa[leI] using h) (((List.mergeSort_perm l leI).trans h).trans (z03 l').symm)
 simp only[leI,decide_eq_true_eq]at h1 h2
 exact Int.le_antisymm h1 h2

def z3o (kf:FuncId)(it:TypeId)(args:List AV)(S:St):Option (CR×St) :=
 match args with
 | [.fn (.func g) [] [.ptr h 0]]=>if g=kf then match z1e S h with
  | some ([.mp m],_)=>match S.hs[m]? with
   | some (some (.map es))=>match z4s es with
    | some ks=>match z1h ks with
     | []=>some (.ret (.vs [] 0 .zero),S)
     | n::r=>if ks.length≤1000000 then some (.ret (.vs ((n::r).map (.int .i64)) ks.length (.own S.ts.length)),{ S with ts:=S.ts++[(ks.length,(1,it))] }) else none
    | none=>none
   | _=>none
  | _=>none
  else none
 | _=>none
theorem y9o {kf:FuncId}{it:TypeId}{args:List AV}{S S':St}{r:CR}(h:z3o kf it args S=some (r,S')):Wl S S':=by
 unfold z3o at h
 split at h<;>try cases h
 split at h<;>try cases h
 split at h<;>try cases h
 split at h<;>try cases h
 split at h<;>try cases h
 split at h
 ·cases h;exact Wl.refl _
 ·split at h<;>cases h
  exact ⟨Nat.le_refl _,by simp,fun _ h=>h,fun _ _ _=>rfl⟩

section
variable {C:Cx}{G:Gh}{w:World}{S:St}
theorem y2o {kt et:TypeId}(hkt:C.P.underlying kt=some (.int .i64))(het:C.P.underlying et=some .bool):∀ {es:List (AV×AV)} {ms:List MapEntry} {ks:List Int},z4s es=some ks→ms.length=es.length →
  (∀ (i:Nat) (k v:AV),es[i]?=some (k,v)→∃ m:MapEntry,ms[i]?=some m∧VR G w k m.key∧VR G w v m.val) →
  (∀ x∈ms,∃ y,WideElems.rd (H:=Unit) C.P kt (plainElem C.P et) x=some y)∧(ms.map fun x=>intOf (WideElems.rg (H:=Unit) C.P kt (plainElem C.P et) x).1)=ks
 | [],ms,ks,h,hl,_=>by
  have:ms=[]:=by cases ms with | nil=>rfl | cons m ms=>simp at hl
  subst this
  simp[z4s]at h
  subst h
  simp
 | (k,v)::es,ms,ks,h,hl,hm=>by
  cases ms with
  | nil=>simp at hl
  | cons m ms =>
   unfold z4s at h
   split at h
   ·rename_i heq;cases heq
   ·rename_i n b es' heq
    cases heq
    split at h<;>try cases h
    rename_i hwf
    split at h<;>cases h
    rename_i r hr
    obtain ⟨m',h1,h2,h3⟩:=hm 0 _ _ rfl
    simp at h1;subst h1
    obtain ⟨g1,g2⟩:=y2o hkt het hr (by simpa using hl) (fun i k v hi=>by simpa using hm (i+1) k v (by simpa using hi))
    have ek:=h2.int_inv
    have ev:=h3.bool_inv
    have hrd:WideElems.rd (H:=Unit) C.P kt (plainElem C.P et) m=some (.int .i64 n,.lit (.bool b)):=by
     unfold WideElems.rd
     rw[ek,ev,Maps.keyOf_int_mk hkt hwf,plainElem_bool het]
     rfl
    refine ⟨fun x hx=>?_,?_⟩
    ·rcases List.mem_cons.1 hx with rfl | hx
     ·exact ⟨_,hrd⟩
     ·exact g1 x hx
    ·rw[List.map_cons,WideElems.rg_of hrd,g2];rfl
   ·cases h

theorem y9p {ρ τ:Ren}(LS:SlLaysZI.n6 C.P ρ)(LK:SlLaysZI.n10 C.P τ){et:TypeId}(het:C.P.underlying et=some .bool)(hsort:AnyZI.SortsIn C.P ρ Fence.wide 4)(e9:∀ args w,(callFunc (ρ.f 9) args).run C.P w=.ok (.enter (ρ.f 9) args) w)
  (e10:∀ args w,(callFunc (τ.f 10) args).run C.P w=.ok (.enter (τ.f 10) args) w) {args:List AV} {S S':St} {r:CR} (h:z3o (τ.f 10) (ρ.t 26) args S=some (r,S')):CallOk C (ρ.f 6) args S r S':=by
 unfold z3o at h
 split at h<;>try cases h
 rename_i g hh
 split at h<;>try cases h
 rename_i hgk
 subst hgk
 split at h<;>try cases h
 rename_i m bt hblk
 split at h<;>try cases h
 rename_i es hes
 split at h<;>try cases h
 rename_i ks hks
 intro G w us hI hg has
 obtain ⟨v,hv1,hv2⟩:=has.2 0 _ rfl
 have has1:us=[v]:=by
  match us,has.1,hv1 with
  | [u],_,hv1=>simp at hv1;rw[hv1]
 subst has1
 cases hv2 with
 | fn _ _ _ xs bs ha hb h1 h2 =>
  have ha0:xs=#[]:=Array.eq_empty_of_size_eq_zero (by simpa using ha)
  subst ha0
  have hp:=h2 0 _ rfl
  have hb1:bs=#[bs.getD 0 undef]:=by
   have h3:bs.size=1:=by simpa using hb
   apply Array.ext
   ·simp[h3]
   ·intro i hi1 hi2
    have:i=0:=by omega
    subst this
    simp[Array.getD,h3]
  generalize bs.getD 0 undef=q at hp hb1
  subst hb1
  cases hp with
  | ptr _ _ Bm hσ =>
   obtain ⟨b',cs,c1,c2,c3,c4,c5⟩:=hI.cellsAt hblk
   rw[hσ]at c1;cases c1
   have hcell:=c5 0 (by simp)
   have hmv:=c4 0 (.mp m) rfl
   generalize cs.getD 0 undef=mv at hcell hmv
   cases hmv with
   | mp _ b hbσ =>
    obtain ⟨b2,o,d1,d2,d3⟩:=hI.blk _ _ hes
    rw[hbσ]at d1;cases d1
    cases d3 with
    | map _ ms clock p hp hsz hst hms =>
     have hkt:C.P.underlying (τ.t 26)=some (.int .i64):=LK.t26
     obtain ⟨k1p,k2⟩:=y2o (C:=C) hkt het hks (ms:=p) hsz hms
     have k1:∀ x∈ms.toList,∃ y,WideElems.rd (H:=Unit) C.P (τ.t 26) (plainElem C.P et) x=some y:=fun x hx=>k1p x (hp.mem_iff.2 hx)
     have hkl:ks.length=ms.size:=by rw[← k2];have:=hp.length_eq;simp at this ⊢;exact this
     by_cases hbig:ks.length≤1000000
     ·have hmx:ms.size≤maxLen:=by unfold maxLen;omega
      have hown:w.ownsMap C.P (τ.t 26) (plainElem (H:=Unit) C.P et) b ms.size (.map ((ms.toList.map (WideElems.rg C.P (τ.t 26) (plainElem C.P et))).foldr DataW.insert [])) :=
       ⟨ms,clock,d2,⟨hmx,hst,k1⟩,Nat.le_refl _,rfl⟩
      have hsize:Maps.size (H:=Unit) (.map ((ms.toList.map (WideElems.rg C.P (τ.t 26) (plainElem C.P et))).foldr DataW.insert []))=ks.length:=by
       rw[Maps.size_eq,length_sorted,List.length_map,hkl];simp
      have hperm:(intKeys (H:=Unit) (.map ((ms.toList.map (WideElems.rg C.P (τ.t 26) (plainElem C.P et))).foldr DataW.insert []))).Perm ks:=by
       rw[← k2]
       show (((ms.toList.map (WideElems.rg C.P (τ.t 26) (plainElem C.P et))).foldr DataW.insert []).map fun p=>intOf p.1).Perm _
       refine ((WideShapes.sorted_perm _).map _).trans ?_
       rw[List.map_map]
       exact (hp.symm.map _)
      have hseq:=AnyZI.keys_gives (ρ:=τ) LK Fence.wide 2 trivial rfl (by omega) Bm b ms.size _ w (hI.blk_lt hσ) hcell hown
      have cS:=AnyZI.sorted_in (ρ:=ρ) LS Fence.wide 5 trivial trivial trivial trivial rfl (by omega) hsort e9 (τ.f 10) #[.pointer (some ⟨Bm,0,none⟩)] trivial e10 _ _ (by rw[hsize];unfold maxLen;omega) (by rw[hsize];omega) w hseq
      refine ((callsIn_wide (n:=5)).1 cS).mono ?_
      rintro e w' ⟨v,ss,rfl,hss,hrow,hnil,hbel⟩
      have hms:=z9h (hss.trans hperm)
      have hsl:ss.length=ks.length:=(hss.trans hperm).length_eq
      rw[hms]at hrow
      split at h
      ·rename_i hi0
       cases h
       have hk0:ks=[]:=by
        have:=(z03 ks).length_eq
        rw[hi0]at this
        exact List.length_eq_zero_iff.1 this.symm
       have hs0:ss=[]:=List.length_eq_zero_iff.1 (by rw[hsl,hk0];rfl)
       obtain ⟨g1,g2⟩:=hI.below hbel
       refine ⟨G,g1,g2,_,rfl,?_⟩
       rw[hnil.2 hs0]
       exact .vs [] 0 .zero none 0 (fun _=>undef) (Nat.le_refl _) (by simp) (.inl rfl) ⟨rfl,rfl⟩
      ·rename_i n0 r0 hi0
       rw[if_pos hbig]at h
       cases h
       have hks0:0 < ks.length:=by
        have:=(z03 ks).length_eq
        rw[hi0]at this
        simp at this;omega
       rcases hrow.2 with ⟨_,hz⟩ | ⟨gb,cap,cur,rfl,hbase,hgb,r1,r2,r3,r4⟩
       ·omega
       ·rw[hsl]at r1 r4 ⊢
        rw[hi0]at r4
        obtain ⟨g1,g2⟩:=hI.rowNew hbel (g:=gb) (c:=cap) (m:=ks.length) (z:=(1,ρ.t 26)) hbase hgb (by simp) r1 r2 r3 rfl
        refine ⟨_,g1,g2,_,rfl,?_⟩
        have hlen:(n0::r0).length=ks.length:=by rw[← hi0];exact (z03 ks).length_eq
        refine VR.ofHeld (f:=fun i=>encZ ((n0::r0).getD i 0)) r1 (fun i a ha=>?_) (fun i hi=>⟨.inr ⟨rfl,?_⟩,?_⟩) ⟨gb,cap,ks.length,(1,ρ.t 26),upd_same _ _ _,Nat.le_refl _,fun _=>⟨rfl,rfl⟩⟩
        ·rw[List.getElem?_map]at ha
         obtain ⟨x,hx,rfl⟩:=Option.map_eq_some_iff.1 ha
         simp only[List.getD_eq_getElem?_getD,hx]
         exact .int _ _
        ·rw[List.length_map,hlen]at hi
         simpa using hi
        ·rw[List.length_map]at hi
         have h5:(cur.toList.take (ks.length*1))[i]?=some (encZ ((n0::r0).getD i 0)):=by
          rw[r4,List.getElem?_map,List.getD_eq_getElem?_getD,List.getElem?_eq_getElem hi];rfl
         rw[List.getElem?_take_of_lt (by omega)]at h5
         simp only[World.cell?,hgb]
         simpa using h5
     ·exfalso
      split at h
      ·rename_i hi0
       have:=(z03 ks).length_eq
       rw[hi0]at this
       simp at this;omega
      ·rw[if_neg hbig]at h;cases h
end
end Go.Ev
namespace Go.Ev
open Go.RowKit
section
variable {C:Cx}{sf:Self}{ops:Array Oper}{X:Nat→AV→Prop}{N:Nat}{S0:St}{env0:Env}{es:Nat→Env}{Ss:Nat→St}{Ds:Nat→DN}{vs:Nat→AV}
variable {ds:List Deferred}{E:Nat→Prop}{G0:Gh}{w0:World}{a:Act}{w:World}{G:Gh}{S:St}

theorem y6x {P:Program}(hok:z1s ops=true)(rd:Option Nat)(n:Nat){Q:Exit→Act→World→Prop}(M:(Nat→Prop)→Act→World→Prop)
  (hexec:∀ E a w,M E a w→∀ j,j < ops.size→¬ E j→(∀ i,E i→i < ops.size→z0p ops j i=true→E j)→(∀ i,z0p ops i j=true→E i)→∀ K:Act→World→Prop,(∀ a' w',M (fun i=>E i∨i=j) a' w'→K a' w')→wpOpIn (WF rd) n P ops Q j K a w)
  (hdone:∀ a w E,(∀ j,j < ops.size→E j)→M E a w→Q .normal a w):∀ (fuel:Nat) (listed:Array Bool) (a:Act) (w:World),listed.size=ops.size→listed.toList.count false≤fuel →
  Closed ops (fun i=>listed.getD i false=true)→M (fun i=>listed.getD i false=true) a w→wpAnyIn (WF rd) n P .any ops Q fuel listed a w:=by
 intro fuel
 induction fuel with
 | zero =>
  intro listed a w hsz hcnt hcl H
  have hall:∀ j,j < ops.size→listed.getD j false=true:=fun j hj=>by
   have hj':j < listed.size:=by omega
   cases hx:listed.getD j false with
   | true=>rfl
   | false =>
    have:false∈listed.toList:=by
     have h1:listed[j]=false:=by simpa[Array.getD,hj'] using hx
     rw[← h1];exact Array.getElem_mem_toList hj'
    have:=List.count_pos_iff.2 this
    omega
  exact wpAnyIn_done (z8i hsz hall) (hdone a w _ hall H) 0
 | succ fuel ih =>
  intro listed a w hsz hcnt hcl H
  by_cases hall:∀ j,j < ops.size→listed.getD j false=true
  ·exact wpAnyIn_done (z8i hsz hall) (hdone a w _ hall H) _
  refine ⟨fun h=>absurd (fun j hj=>ready_nil hok hsz h j hj) hall,fun j hj=>?_⟩
  obtain ⟨h1,o,ho,hafter⟩:=mem_ready.1 hj
  obtain ⟨hlt,rfl⟩:=z1q ho
  have hj':j < listed.size:=by omega
  have hf:listed[j]=false:=by simpa[Array.getD,hj'] using h1
  have hE:¬ listed.getD j false=true:=by simp[Array.getD,hj',hf]
  have hb:∀ i,z0p ops i j=true→listed.getD i false=true:=by
   intro i hb
   obtain ⟨o',ho',e,he,hbd,h⟩:=z43 hb
   rw[ho]at ho';cases ho'
   have hl:=hafter e (by simpa using he) hbd
   rcases h with rfl | ⟨_,hb2⟩
   ·exact hl
   ·exact hcl.before e.on i hl hb2
  refine hexec _ a w H j hlt hE (fun i hi hilt hb=>hcl.before i j hi hb) hb _ ?_
  intro a' w' H'
  have heq:(fun i=>listed.getD i false=true∨i=j)=(fun i=>(listed.setIfInBounds j true).getD i false=true):=by
   funext i
   apply propext
   by_cases e:j=i
   ·subst e;simp[hj']
   ·rw[getD_set_ne false e]
    exact ⟨fun h=>h.resolve_right (Ne.symm e),.inl⟩
  rw[heq]at H'
  refine ih _ _ _ (by simpa using hsz) ?_ ?_ H'
  ·have:=z7g listed.toList j (by simp[hj',hf])
   simp only[Array.toList_setIfInBounds]
   omega
  ·intro k ok hk hok' e he hbd
   have hk:(listed.setIfInBounds j true).getD k false=true:=hk
   show (listed.setIfInBounds j true).getD e.on false=true
   by_cases ek:j=k
   ·subst ek
    rw[ho]at hok';cases hok'
    exact getD_set_true (hafter e (by simpa using he) hbd)
   ·rw[getD_set_ne false ek]at hk
    exact getD_set_true (hcl k ok hk hok' e he hbd)

def z0u (C:Cx)(self:Self)(ops:Array Oper)(ov:Nat→Option AV)(S0:St):List Oper→Nat→Env→St→DN→Option (Env×St)
 | [],_,env,S,_=>some (env,S)
 | o::rest,j,env,S,D=>match ov j with
  | some v=>z0u C self ops ov S0 rest (j+1) (z1u env o.dst v) S D
  | none=>match z1o ops env o with
   | some true=>match z1n C self ops S0 S D j (z5i C (o.looksAt ops) env) o.op with
    | some (v,S',D')=>z0u C self ops ov S0 rest (j+1) (z1u env o.dst v) S' D'
    | none=>none
   | some false=>z0u C self ops ov S0 rest (j+1) (z1u env o.dst (.tup [])) S D
   | none=>none
theorem z8k {ov:Nat→Option AV}{S0:St}{N:Nat}(hN:N≤ops.size):∀ (rest:List Oper) (k:Nat) (env:Env) (S:St) (D:DN) (env':Env) (S':St),k≤N→rest=(ops.toList.take N).drop k→z0u C sf ops ov S0 rest k env S D=some (env',S') →
  ∃ es Ss Ds vs,Trace C sf ops (fun j v=>ov j=some v) N S0 k es Ss Ds vs∧es k=env∧Ss k=S∧Ds k=D∧es N=env'∧Ss N=S'∧(∀ d,k≤d→d≤N→z0u C sf ops ov S0 ((ops.toList.take d).drop k) k env S D=some (es d,Ss d)) ∧
   ∀ j v,k≤j→j < N→ov j=some v→vs j=v∧Ss (j+1)=Ss j∧Ds (j+1)=Ds j:=by
 intro rest
 induction rest with
 | nil =>
  intro k env S D env' S' hk hr h
  simp only[z0u,Option.some.injEq,Prod.mk.injEq]at h
  obtain ⟨rfl,rfl⟩:=h
  have:N≤k:=by
   have:=congrArg List.length hr
   simp at this;omega
  refine ⟨fun _=>env,fun _=>S,fun _=>D,fun _=>.bad,⟨fun j o hj hjN ho=>?_⟩,rfl,rfl,rfl,rfl,rfl,fun d h1 h2=>?_,fun j v h1 h2=>?_⟩
  ·omega
  ·rw[List.drop_eq_nil_of_le (by simp;omega)];rfl
  ·omega
 | cons o rest ih =>
  intro k env S D env' S' hk hr h
  have hlt:k < N:=by
   rcases Nat.lt_or_ge k N with h1 | h1
   ·exact h1
   ·rw[List.drop_eq_nil_of_le (by simp;omega)]at hr;cases hr
  have hlt2:k < ops.size:=by omega
  have hdrop:(ops.toList.take N).drop k=ops[k]::(ops.toList.take N).drop (k+1):=by
   rw[List.drop_eq_getElem_cons (by simp;omega)];simp
  rw[hdrop]at hr
  injection hr with ho hrest
  have hget:ops[k]?=some o:=by rw[Array.getElem?_eq_getElem hlt2,ho]
  have go:∀ (v:AV) (S1:St) (D1:DN),Tr C sf ops (fun j v=>ov j=some v) S0 k env o S D v S1 D1→z0u C sf ops ov S0 rest (k+1) (z1u env o.dst v) S1 D1=some (env',S') →
    (∀ r,z0u C sf ops ov S0 (o::r) k env S D=z0u C sf ops ov S0 r (k+1) (z1u env o.dst v) S1 D1)→(∀ u,ov k=some u→v=u∧S1=S∧D1=D) →
    ∃ es Ss Ds vs,Trace C sf ops (fun j v=>ov j=some v) N S0 k es Ss Ds vs∧es k=env∧Ss k=S∧Ds k=D∧es N=env'∧Ss N=S'∧(∀ d,k≤d→d≤N→z0u C sf ops ov S0 ((ops.toList.take d).drop k) k env S D=some (es d,Ss d)) ∧
     ∀ j v,k≤j→j < N→ov j=some v→vs j=v∧Ss (j+1)=Ss j∧Ds (j+1)=Ds j:=by
   intro v S1 D1 ht hh hst hov
   obtain ⟨es,Ss,Ds,vs,h1,h2,h3,h4,h5,h6,h7,h8⟩:=ih (k+1) _ _ _ _ _ (by omega) hrest hh
   refine ⟨fun n=>if n=k then env else es n,fun n=>if n=k then S else Ss n,fun n=>if n=k then D else Ds n,fun n=>if n=k then v else vs n,⟨fun j o' hj hjN ho'=>?_⟩,by simp,by simp,by simp,
    by simp[Nat.ne_of_gt hlt,h5],by simp[Nat.ne_of_gt hlt,h6],fun d hd1 hd2=>?_,fun j v' hj1 hj2 hjv=>?_⟩
   ·by_cases e:j=k
    ·subst e
     rw[hget]at ho';cases ho'
     simp only[if_true,if_neg (show ¬ (j+1=j) by omega),h2,h3,h4]
     exact ⟨ht,trivial⟩
    ·simp only[if_neg e,if_neg (show ¬ (j+1=k) by omega)]
     exact h1.step j o' (by omega) hjN ho'
   ·by_cases e:d=k
    ·subst e
     rw[List.drop_eq_nil_of_le (by simp;omega)]
     simp[z0u]
    ·simp only[if_neg e]
     rw[← h7 d (by omega) hd2]
     have hdrop2:(ops.toList.take d).drop k=o::(ops.toList.take d).drop (k+1):=by
      rw[List.drop_eq_getElem_cons (by simp;omega)];simp[ho]
     rw[hdrop2,hst]
   ·by_cases e:j=k
    ·subst e
     simp only[if_true,if_neg (show ¬ (j+1=j) by omega)]
     obtain ⟨q1,q2,q3⟩:=hov v' hjv
     exact ⟨q1,by rw[h3,q2],by rw[h4,q3]⟩
    ·simp only[if_neg e,if_neg (show ¬ (j+1=k) by omega)]
     exact h8 j v' (by omega) hj2 hjv
  simp only[z0u]at h
  split at h
  ·rename_i v hv
   exact go v S D (.inr (.inr ⟨hv,rfl,rfl⟩)) h (fun r=>by simp only[z0u,hv]) (fun u hu=>by rw[hv]at hu;cases hu;exact ⟨rfl,rfl,rfl⟩)
  ·rename_i hv
   split at h
   ·rename_i hw
    split at h<;>try cases h
    rename_i v S1 D1 hop
    exact go v S1 D1 (.inl ⟨hw,hop⟩) h (fun r=>by simp only[z0u,hv,hw,hop]) (fun u hu=>by rw[hv]at hu;cases hu)
   ·rename_i hw
    exact go (.tup []) S D (.inr (.inl ⟨hw,rfl,rfl,rfl⟩)) h (fun r=>by simp only[z0u,hv,hw]) (fun u hu=>by rw[hv]at hu;cases hu)
   ·cases h

theorem PI.stepX (R:Run C sf ops X N S0 env0 es Ss Ds vs)(hok:z1s ops=true)(H:PI C ops N S0 env0 Ss Ds vs ds E G0 w0 a w G S){j:Nat}(hj:j < N)(hE:¬ E j)
  (hns:∀ h,(j,h)∉(Ds (j+1)).sts) (hna:isApp (opAt ops j).op=false∨S.ts=(Ss (j+1)).ts)
  {G':Gh} {w':World} {x:Value} (hI:Inv G' w' S) (hX:Ext G w G' w') (hEv:Evo G0 w0 G' w') (hv:VR G' w' (vs j) x) :
  PI C ops N S0 env0 Ss Ds vs ds (fun i=>E i∨i=j) G0 w0 (a.put (opAt ops j).dst x) w' G' S where
 lt:=fun i hi=>hi.elim (H.lt i) fun e=>e ▸ hj
 inv:=hI
 evo:=hEv
 dfr:=by rw[Act.put_defers'];exact H.dfr
 sz:=by
  rw[← H.sz]
  unfold Act.put
  split<;>simp
 un:=fun h hn=>H.un h fun i hi hlt=>hn i (.inl hi) hlt
 la:=fun h i hi hlt hw hmax=>by
  by_cases e:i=j
  ·subst e;exact absurd hw (hns h)
  ·exact H.la h i (hi.resolve_right e) hlt hw fun k hk hk2 hk3=>hmax k (.inl hk) hk2 hk3
 ts0:=fun hn=>H.ts0 fun i o hi ho=>hn i o (.inl hi) ho
 ts1:=fun i o hi ho hia hmax=>by
  by_cases e:i=j
  ·subst e
   rw[z1b (Nat.lt_of_lt_of_le hj R.hN)]at ho;cases ho
   rcases hna with h1 | h1
   ·rw[h1]at hia;cases hia
   ·exact h1
  ·exact H.ts1 i o (hi.resolve_right e) ho hia fun k o' hk ho' hka=>hmax k o' (.inl hk) ho' hka
 d1:=fun i o t hi ho hd ht=>by
  by_cases e:i=j
  ·subst e
   rw[z1b (Nat.lt_of_lt_of_le hj R.hN)]at ho;cases ho
   rw[hd]
   have:t < a.tmps.size:=by rw[H.sz];exact ht
   simpa[Act.put,this] using hv
  ·have hi:E i:=hi.resolve_right e
   obtain ⟨hi2,rfl⟩:=z1q ho
   have:=(H.d1 i _ t hi ho hd ht).ext hX
   unfold Act.put
   split
   ·rename_i d hdd
    have hne:d≠t:=fun e'=>e (z7n hok hi2 (Nat.lt_of_lt_of_le hj R.hN) hd (e' ▸ hdd))
    simpa[Array.getElem?_setIfInBounds_ne hne] using this
   ·exact this
 d2:=fun t y hn hy=>by
  have:=(H.d2 t y (fun i o hi ho=>hn i o (.inl hi) ho) hy).ext hX
  unfold Act.put
  split
  ·rename_i d hdd
   have hne:d≠t:=fun e'=>hn j _ (.inr rfl) (z1b (Nat.lt_of_lt_of_le hj R.hN)) (e' ▸ hdd)
   simpa[Array.getElem?_setIfInBounds_ne hne] using this
  ·exact this

def y51 (G:Gh)(w:World)(ops:Array Oper)(j:Nat)(env:Env)(a:Act):Prop:=∀ t,t∈(opAt ops j).looksAt ops→VR G w (env.getD t .bad) (a.tmps.getD t undef)
structure HandOk (C:Cx) (ops:Array Oper) (S0:St) (ec ei:Env) (jc ji:Nat) (tC:Tmp) (V:AV) (Φ:World→Gh→World→Value→Prop):Prop where
 mono:∀ w0 G w G' w' v,w0.heap.size≤w.heap.size→Evo G w G' w'→Φ w0 G w v→Φ w0 G' w' v
 first:∀ (w0:World) (G:Gh) (w:World) (a:Act) (S:St),Inv G w S→GtR C G w→w0.heap.size≤w.heap.size→y51 G w ops jc ec a→∀ rd n next (Q:Exit→Act→World→Prop),
  (∀ G' w' v,Inv G' w' S→Evo G w G' w'→Φ w0 G' w' v→next (a.put (opAt ops jc).dst v) w')→(opAt ops jc).wpIn (WF rd) n C.P a w next Q
 second:∀ (G0:Gh) (w0:World) (G:Gh) (w:World) (a:Act) (S:St),G0.B≤w0.heap.size→(∀ h,h < S0.hs.length→SameAt S0 S h)→Inv G w S→GtR C G w→Evo G0 w0 G w→y51 G w ops ji ei a→Φ w0 G w (a.tmps.getD tC undef)→∀ rd n next (Q:Exit→Act→World→Prop),
  (∀ G' w' v,Inv G' w' S→Ext G w G' w'→Evo G0 w0 G' w'→VR G' w' V v→next (a.put (opAt ops ji).dst v) w')→(opAt ops ji).wpIn (WF rd) n C.P a w next Q

theorem y9y (hC:CxOk C)(hs:SelfOk C sf)(hok:z1s ops=true){ov:Nat→Option AV}{jc ji:Nat}{tC:Tmp}{V:AV}{env env':Env}{S S':St}(h:z0u C sf ops ov S ops.toList 0 env S ⟨[],[]⟩=some (env',S'))
  (hov:∀ j v,ov j=some v→(j=jc∧v=.bad)∨(j=ji∧v=V)) (hovc:ov jc=some .bad) (hovi:ov ji=some V) (hcN:jc < ops.size) (hiN:ji < ops.size) (hci:z0p ops jc ji=true) (hne:jc≠ji) (hdc:(opAt ops jc).dst=some tC) (htC:tC < env.length) (hgc:(opAt ops jc).guard=none) (hgi:(opAt ops ji).guard=none)
  (hac:isApp (opAt ops jc).op=false) (hai:isApp (opAt ops ji).op=false∨∀ i,i < ops.size→i≠ji→isApp (opAt ops i).op=false)
  {ec ei:Env} {sc si:St} (hec:z0u C sf ops ov S (ops.toList.take jc) 0 env S ⟨[],[]⟩=some (ec,sc)) (hei:z0u C sf ops ov S (ops.toList.take ji) 0 env S ⟨[],[]⟩=some (ei,si)) {Φ:World→Gh→World→Value→Prop} (hst:∀ i,i < ops.size→z3t (opAt ops i).op=true→z0p ops ji i=true) (hand:HandOk C ops S ec ei jc ji tC V Φ)
  {G:Gh} {w:World} {a:Act} (hI:Inv G w S) (hg:GtR C G w) (he:ER G w env a) (hd:a.defers=ds) (id:Nat) (rd:Option Nat) (n:Nat) {Q:Exit→Act→World→Prop} (hQ:∀ e a' w',CodePost ds G w .normal env' S' e a' w'→Q e a' w'):(Code.region id ops true).wpIn (WF rd) n C.P Q a w:=by
 obtain ⟨es,Ss,Ds,vs,h1,h2,h3,h4,h5,h6,h7,h8⟩:=z8k (Nat.le_refl _) _ 0 env S ⟨[],[]⟩ env' S' (Nat.zero_le _) (by rw[List.drop_zero,List.take_of_length_le (by simp)]) h
 have R:Run C sf ops (fun j v=>ov j=some v) ops.size S env es Ss Ds vs:=⟨h1,Nat.le_refl _,h2,h3,h4⟩
 have hesc:es jc=ec:=by
  have:=h7 jc (Nat.zero_le _) (Nat.le_of_lt hcN)
  rw[List.drop_zero,hec]at this
  cases this;rfl
 have hesi:es ji=ei:=by
  have:=h7 ji (Nat.zero_le _) (Nat.le_of_lt hiN)
  rw[List.drop_zero,hei]at this
  cases this;rfl
 refine wpIn_region_any hC.mixed ?_
 have hE1:Evo G w G { w with drawn:=w.drawn+1 }:=⟨fun _ _ h=>h,fun _ _ _=>rfl,fun _ _ h=>h,fun _ _ h=>.inl h,fun k b c m z h=>⟨b,c,m,h,.inl ⟨rfl,rfl,rfl⟩⟩,fun k b c m z h=>.inl ⟨c,m,z,h⟩,fun _ _ h=>.inl h,rfl,Nat.le_refl _,rfl,rfl,rfl,fun _ _ _ _=>rfl⟩
 have hI1:Inv G { w with drawn:=w.drawn+1 } S:=⟨fun h hb hh=>let ⟨b,o,q1,q2,q3⟩:=hI.blk h hb hh; ⟨b,o,q1,q2,q3.mono hE1⟩,hI.dom,hI.inj,hI.fr,hI.base,hI.tok,hI.tdom,hI.tinj,hI.tσ,hI.kin,hI.bin⟩
 have hg1:=hg.mono hE1
 have he1:=he.mono hE1
 generalize ({ w with drawn:=w.drawn+1 }:World)=w1 at hE1 hI1 hg1 he1 ⊢
 have look:∀ E a9 w9 G9 S2,PI C ops ops.size S env Ss Ds vs ds E G w1 a9 w9 G9 S2→∀ j,j < ops.size→¬ E j→(∀ i,E i→i < ops.size→z0p ops j i=true→E j)→(∀ i,z0p ops i j=true→E i)→y51 G9 w9 ops j (es j) a9:=by
  intro E a9 w9 G9 S2 H j hj hE hE2 hb t ht
  rcases Nat.lt_or_ge t (es j).length with h1 | h1
  ·have:=H.look R hok hj hE hE2 hb ht (List.getElem?_eq_getElem h1)
   simpa[List.getD_eq_getElem?_getD,h1] using this
  ·rw[List.getD_eq_getElem?_getD,List.getElem?_eq_none h1];exact .bad _
 refine y6x hok rd n (fun E a' w'=>∃ G' S2,PI C ops ops.size S env Ss Ds vs ds E G w1 a' w' G' S2∧(E jc→¬ E ji→Φ w1 G' w' (a'.tmps.getD tC undef))) ?_ ?_ ops.size _ a _ (by simp) ?_ ?_ ?_
 ·rintro E a2 w2 ⟨G2,S2,H,HΦ⟩ j hj hE hE2 hb K hK
  have hlk:=look E a2 w2 G2 S2 H j hj hE hE2 hb
  have hg2:GtR C G2 w2:=hg1.mono H.evo
  by_cases e1:j=jc
  ·subst e1
   obtain ⟨v1,v2,v3⟩:=h8 j _ (Nat.zero_le _) hj hovc
   have hwant:Region.wanted (opAt ops j) (yielded ops a2.tmps)=true:=by simp[Region.wanted,hgc]
   unfold wpOpIn
   rw[z1b hj]
   simp only
   rw[if_pos hwant]
   rw[hesc]at hlk
   refine hand.first w1 G2 w2 a2 S2 H.inv hg2 H.evo.size hlk rd n K Q ?_
   intro G3 w3 v i3 e3 hphi
   refine hK _ _ ⟨G3,S2,H.stepX R hok hj hE (fun h hh=>by rw[v3]at hh;exact R.fresh hj hh) (.inl hac) i3 e3.ext (H.evo.trans e3) (by rw[v1];exact .bad _),fun _ _=>?_⟩
   rw[hdc]
   have:tC < a2.tmps.size∨a2.tmps.size≤tC:=Nat.lt_or_ge _ _
   rcases this with h9 | h9
   ·simpa[Act.put,h9] using hphi
   ·exact absurd h9 (by rw[H.sz];exact Nat.not_le.2 htC)
  ·by_cases e2:j=ji
   ·subst e2
    obtain ⟨v1,v2,v3⟩:=h8 j _ (Nat.zero_le _) hj hovi
    have hwant:Region.wanted (opAt ops j) (yielded ops a2.tmps)=true:=by simp[Region.wanted,hgi]
    unfold wpOpIn
    rw[z1b hj]
    simp only
    rw[if_pos hwant]
    rw[hesi]at hlk
    refine hand.second G w1 G2 w2 a2 S2 hI1.bin (fun h hl=>H.un h fun i hi hlt hiw=>by
     have hil:h < (Ss i).hs.length:=by have:=R.len (Nat.zero_le i) (Nat.le_of_lt hlt);rw[h3]at this;omega
     exact hE (hE2 i hi hlt (hst i hlt (R.store hlt hiw hil)))) H.inv hg2 H.evo hlk (HΦ (hb jc hci) hE) rd n K Q ?_
    intro G3 w3 v i3 e3 ev3 hv3
    refine hK _ _ ⟨G3,S2,H.stepX R hok hj hE (fun h hh=>by rw[v3]at hh;exact R.fresh hj hh) ?_ i3 e3 ev3 (by rw[v1];exact hv3),fun _ hn=>absurd (.inr rfl) hn⟩
    rcases hai with h9 | h9
    ·exact .inl h9
    ·refine .inr ?_
     rw[v2]
     rw[H.ts0 fun i o hi ho=>?_]
     ·have:=R.ts (Nat.zero_le j) (Nat.le_of_lt hj) fun k o _ hk ho=>by
       obtain ⟨hk2,rfl⟩:=z1q ho
       exact h9 k hk2 (by omega)
      rw[this,h3]
     ·obtain ⟨hi2,rfl⟩:=z1q ho
      exact h9 i hi2 (fun e=>hE (e ▸ hi))
   ·refine H.exec hC hs R hok hI1 hg1 hj hE (fun v hv=>?_) hE2 hb rd n ?_
    ·rcases hov j v hv with ⟨e,_⟩ | ⟨e,_⟩
     ·exact e1 e
     ·exact e2 e
    ·intro w3 G3 S3 x e3 H3
     refine hK _ _ ⟨G3,S3,H3,fun hjc hji=>?_⟩
     have hjc':E jc:=hjc.resolve_right (Ne.symm e1)
     have hji':¬ E ji:=fun h=>hji (.inl h)
     have:=hand.mono w1 G2 w2 G3 w3 _ H.evo.size e3 (HΦ hjc' hji')
     unfold Act.put
     split
     ·rename_i d hdd
      have hne2:d≠tC:=fun e'=>e1 (z7n hok hj hcN (e' ▸ hdd) hdc)
      simpa[Array.getElem?_setIfInBounds_ne hne2] using this
     ·exact this
 ·rintro a2 w2 E hall ⟨G2,S2,H,_⟩
  obtain ⟨G3,q1,q2,q3⟩:=H.done R hok hall
  rw [h5,h6] at *
  exact hQ _ _ _ ⟨G3,q1,hE1.trans q2,q3⟩
 ·have:=List.count_le_length (a:=false) (l:=(Array.replicate ops.size false).toList)
  simp at this ⊢
 ·intro j o hj
  exact absurd hj (z5b _ _)
 ·have hno:∀ i,¬ ((Array.replicate ops.size false).getD i false=true):=z5b _
  exact ⟨G,S,{
   lt:=fun i hi=>absurd hi (hno i)
   inv:=hI1
   evo:=Evo.refl _ _
   dfr:=hd
   sz:=he1.1
   un:=fun h _=>SameAt.refl _ _
   la:=fun h i hi=>absurd hi (hno i)
   ts0:=fun _=>rfl
   ts1:=fun i o hi=>absurd hi (hno i)
   d1:=fun i o t hi=>absurd hi (hno i)
   d2:=fun t x _ hx=>he1.2 t x hx },fun h=>absurd h (hno jc)⟩

theorem y9v (hok:z1s ops=true){i:Nat}:∀ j,j < ops.size→z0p ops i j=true→i < j:=by
 intro j
 induction j using Nat.strongRecOn with
 | _ j ih =>
  intro hj hb
  obtain ⟨o,ho,e,he,hbd,h⟩:=z43 hb
  obtain ⟨_,rfl⟩:=z1q ho
  have hlt:=y4a hok hj (by simpa using he) hbd
  rcases h with rfl | ⟨_,hb2⟩
  ·exact hlt
  ·have:=ih e.on hlt (by omega) hb2;omega
theorem x3g {P:Program}(hok:z1s ops=true)(rd:Option Nat)(n:Nat){Q:Exit→Act→World→Prop}{N:Nat}(hbeh:∀ j,N≤j→j < ops.size→∀ i,i < j→z0p ops i j=true) :
  ∀ k m,m+k=ops.size→N≤m→∀ (listed:Array Bool) (fuel:Nat) (a:Act) (w:World),listed.size=ops.size→listed.toList.count false≤fuel→(∀ j,j < m→listed.getD j false=true)→(∀ j,m≤j→¬ listed.getD j false=true) →
   wpOpsIn (WF rd) n P ops Q ((List.range ops.size).drop m) a w→wpAnyIn (WF rd) n P .any ops Q fuel listed a w:=by
 intro k
 induction k with
 | zero =>
  intro m hm hN listed fuel a w hsz hcnt h1 h2 h
  rw[List.drop_eq_nil_of_le (by simp;omega)]at h
  exact wpAnyIn_done (z8i hsz fun j hj=>h1 j (by omega)) h fuel
 | succ k ih =>
  intro m hm hN listed fuel a w hsz hcnt h1 h2 h
  have hml:m < listed.size:=by omega
  have hf:listed[m]=false:=by
   have:=h2 m (Nat.le_refl _)
   simpa[Array.getD,hml] using this
  have hdrop:(List.range ops.size).drop m=m::(List.range ops.size).drop (m+1):=by
   rw[List.drop_eq_getElem_cons (by simp;omega)];simp
  rw[hdrop,wpOpsIn_cons]at h
  cases fuel with
  | zero =>
   have:false∈listed.toList:=by rw[← hf];exact Array.getElem_mem_toList hml
   have:=List.count_pos_iff.2 this
   omega
  | succ fuel =>
   refine ⟨fun he=>absurd (ready_nil hok hsz he m (by omega)) (h2 m (Nat.le_refl _)),fun j hj=>?_⟩
   obtain ⟨g1,o,ho,hafter⟩:=mem_ready.1 hj
   obtain ⟨hlt,rfl⟩:=z1q ho
   have hjm:j=m:=by
    rcases Nat.lt_trichotomy j m with hl | hl | hl
    ·have:=h1 j hl
     have hj':j < listed.size:=by omega
     simp[Array.getD,hj']at g1 this
     rw[g1]at this;cases this
    ·exact hl
    ·exfalso
     obtain ⟨o',ho',e,he,hbd,hh⟩:=z43 (hbeh j (by omega) hlt m hl)
     rw[ho]at ho';cases ho'
     have hle:=hafter e (by simpa using he) hbd
     have hem:e.on < m:=by
      rcases Nat.lt_or_ge e.on m with q | q
      ·exact q
      ·exact absurd hle (h2 _ q)
     rcases hh with rfl | ⟨_,hb2⟩
     ·omega
     ·have:=y9v hok e.on (by omega) hb2;omega
   subst hjm
   refine wpOpIn_mono (fun a2 w2 hh=>ih (j+1) (by omega) (by omega) _ fuel a2 w2 (by simpa using hsz) ?_ ?_ ?_ hh) h
   ·have:=z7g listed.toList j (by simp[hml,hf])
    simp only[Array.toList_setIfInBounds]
    omega
   ·intro q hq
    by_cases e:j=q
    ·subst e;simp[hml]
    ·rw[getD_set_ne false e];exact h1 q (by omega)
   ·intro q hq
    rw[getD_set_ne false (by omega)];exact h2 q (by omega)
theorem y5l (hC:CxOk C)(hs:SelfOk C sf)(hok:z1s ops=true){N:Nat}(hN:N≤ops.size)(hbeh:∀ j,N≤j→j < ops.size→∀ i,i < j→z0p ops i j=true){env env1 env':Env}{S S1 S':St}{x:EX}
  (h:z11 C sf ops S (ops.toList.take N) 0 env S ⟨[],[]⟩=some (env1,S1)) (h':z2g C sf ops (ops.toList.drop N) env1 S1=some (x,env',S')) {G:Gh} {w:World} {a:Act} (hI:Inv G w S) (hg:GtR C G w)
  (he:ER G w env a) (hd:a.defers=ds) (id:Nat) (rd:Option Nat) (n:Nat) {Q:Exit→Act→World→Prop} (hQ:∀ e a' w',CodePost ds G w x env' S' e a' w'→Q e a' w'):(Code.region id ops true).wpIn (WF rd) n C.P Q a w:=by
 obtain ⟨es,Ss,Ds,vs,h1,h2,h3,h4,h5,h6⟩:=z9l (X:=fun _ _=>False) hN _ 0 env S ⟨[],[]⟩ env1 S1 (Nat.zero_le _) rfl h
 have R:Run C sf ops (fun _ _=>False) N S env es Ss Ds vs:=⟨h1,hN,h2,h3,h4⟩
 refine y1k hC hs R (fun _ _ h=>h) hok hI hg he hd id rd n (fun j g1 g2 i hi=>hbeh j g2 g1 i (by omega)) ?_
 intro w1 hE1 fuel listed a' w' G' S2 hsz hcnt hall H
 obtain ⟨G2,q1,q2,q3,q4,_⟩:=H.done R hok hall
 rw[h5]at q3
 rw[h6]at q1
 have hops:=y0h hC hs ops rd n ds (Q:=Q) N _ env1 S1 x env' S' G2 w' a' rfl h' q1 (hg.mono (hE1.trans q2)) q3 q4 (fun e a2 w2 hp=>by
  obtain ⟨G3,p1,p2,p3⟩:=hp
  exact hQ _ _ _ ⟨G3,p1,(hE1.trans q2).trans p2,p3⟩)
 exact x3g hok rd n hbeh (ops.size-N) N (by omega) (Nat.le_refl _) listed fuel a' w' hsz hcnt hall (fun j hj hl=>by have:=H.lt j hl;omega) hops
end

structure Pce (C:Cx) (c:Code) (env:Env) (S:St) (x:EX) (env':Env) (S':St):Prop where
 run:okC c=true→∀ (rd:Option Nat) (n:Nat) (ds:List Deferred) (G:Gh) (w:World) (a:Act),Inv G w S→GtR C G w→ER G w env a→a.defers=ds→∀ (Q:Exit→Act→World→Prop),(∀ e a' w',CodePost ds G w x env' S' e a' w'→Q e a' w')→c.wpIn (WF rd) n C.P Q a w
 wl:Wl S S'
section
variable {C:Cx}{sf:Self}{c c1 c2:Code}{env env1 env':Env}{S S1 S':St}{x:EX}
theorem Pce.of_ev (hC:CxOk C)(hw:HkW C)(hs:SelfOk C sf)(hsw:SelfW sf)(h:evC C sf c env S=some (x,env',S')):Pce C c env S x env' S' :=
 ⟨fun hok rd n ds G w a hI hg he hd Q hQ=>z3l hC hs c _ _ _ _ _ hok h rd n ds G w a hI hg he hd Q hQ,z9m hw hsw _ _ _ _ _ _ h⟩
theorem Pce.seq (h1:Pce C c1 env S .normal env1 S1)(h2:Pce C c2 env1 S1 x env' S'):Pce C (.seq c1 c2) env S x env' S' :=
 ⟨fun hok rd n ds G w a hI hg he hd Q hQ=>by
  simp only[okC,Bool.and_eq_true]at hok
  refine wpIn_seq (h1.run hok.1 rd n ds G w a hI hg he hd _ ?_)
  rintro e a1 w1 ⟨G1,i1,v1,r1,f1,x1⟩
  simp only[ExR]at x1;subst x1
  refine h2.run hok.2 rd n ds G1 w1 a1 i1 (hg.mono v1) r1 f1 _ ?_
  rintro e a2 w2 ⟨G2,i2,v2,r2,f2,x2⟩
  exact hQ _ _ _ ⟨G2,i2,v1.trans v2,r2,f2,x2⟩,h1.wl.trans h2.wl⟩
theorem Pce.seqRet (h1:Pce C c1 env S .ret env' S'):Pce C (.seq c1 c2) env S .ret env' S' :=
 ⟨fun hok rd n ds G w a hI hg he hd Q hQ=>by
  simp only[okC,Bool.and_eq_true]at hok
  refine wpIn_seq (h1.run hok.1 rd n ds G w a hI hg he hd _ ?_)
  rintro e a1 w1 ⟨G1,i1,v1,r1,f1,x1⟩
  simp only[ExR]at x1;subst x1
  exact hQ _ _ _ ⟨G1,i1,v1,r1,f1,rfl⟩,h1.wl⟩
theorem Pce.cond {o:Operand}{t:Bool}(ht:z1l C env o=.bool t)(h:Pce C (if t then c1 else c2) env S x env' S'):Pce C (.cond o c1 c2) env S x env' S' :=
 ⟨fun hok rd n ds G w a hI hg he hd Q hQ=>by
  simp only[okC,Bool.and_eq_true]at hok
  have hv:=he.eval hg o
  rw[ht]at hv
  refine wpIn_cond hv.bool_inv ?_
  cases t
  ·exact h.run hok.2 rd n ds G w a hI hg he hd Q hQ
  ·exact h.run hok.1 rd n ds G w a hI hg he hd Q hQ,h.wl⟩
theorem z7e {ops:Array Oper}{ov:Nat→Option AV}{S0:St}(hk:HkW C)(hs:SelfW sf):∀ (rest:List Oper) (j:Nat) (env:Env) (S:St) (D:DN) (env':Env) (S':St),z0u C sf ops ov S0 rest j env S D=some (env',S')→Wl S S'
 | [],j,env,S,D,env',S',h=>by simp only[z0u,Option.some.injEq,Prod.mk.injEq]at h;obtain ⟨_,rfl⟩:=h;exact Wl.refl _
 | o::rest,j,env,S,D,env',S',h=>by
  simp only[z0u]at h
  split at h
  ·exact z7e hk hs rest _ _ _ _ _ _ h
  ·split at h
   ·split at h<;>try cases h
    rename_i hop
    exact (y69 hop).trans (z7e hk hs rest _ _ _ _ _ _ h)
   ·exact z7e hk hs rest _ _ _ _ _ _ h
   ·cases h
theorem Pce.drawX {ops:Array Oper}(hC:CxOk C)(hw:HkW C)(hs:SelfOk C sf)(hsw:SelfW sf){id:Nat}{ov:Nat→Option AV}{jc ji:Nat}{tC:Tmp}{V:AV}{env env':Env}{S S':St}(h:z0u C sf ops ov S ops.toList 0 env S ⟨[],[]⟩=some (env',S'))
  (hov:∀ j v,ov j=some v→(j=jc∧v=.bad)∨(j=ji∧v=V)) (hovc:ov jc=some .bad) (hovi:ov ji=some V) (hcN:jc < ops.size) (hiN:ji < ops.size) (hci:z0p ops jc ji=true) (hne:jc≠ji) (hdc:(opAt ops jc).dst=some tC) (htC:tC < env.length) (hgc:(opAt ops jc).guard=none) (hgi:(opAt ops ji).guard=none)
  (hac:isApp (opAt ops jc).op=false) (hai:isApp (opAt ops ji).op=false∨∀ i,i < ops.size→i≠ji→isApp (opAt ops i).op=false)
  {ec ei:Env} {sc si:St} (hec:z0u C sf ops ov S (ops.toList.take jc) 0 env S ⟨[],[]⟩=some (ec,sc)) (hei:z0u C sf ops ov S (ops.toList.take ji) 0 env S ⟨[],[]⟩=some (ei,si)) {Φ:World→Gh→World→Value→Prop} (hst:∀ i,i < ops.size→z3t (opAt ops i).op=true→z0p ops ji i=true) (hand:HandOk C ops S ec ei jc ji tC V Φ) :
  Pce C (.region id ops true) env S .normal env' S' :=
 ⟨fun hok rd n ds G w a hI hg he hd Q hQ=>y9y hC hs (by simpa[okC] using hok) h hov hovc hovi hcN hiN hci hne hdc htC hgc hgi hac hai hec hei hst hand hI hg he hd id rd n hQ,z7e hw hsw _ _ _ _ _ _ _ h⟩
theorem Pce.chain {ops:Array Oper}(hC:CxOk C)(hw:HkW C)(hs:SelfOk C sf)(hsw:SelfW sf){id N:Nat}(hN:N≤ops.size)(hbeh:∀ j,N≤j→j < ops.size→∀ i,i < j→z0p ops i j=true){env env1 env':Env}{S S1 S':St}{x:EX}
  (h:z11 C sf ops S (ops.toList.take N) 0 env S ⟨[],[]⟩=some (env1,S1)) (h':z2g C sf ops (ops.toList.drop N) env1 S1=some (x,env',S')):Pce C (.region id ops true) env S x env' S' :=
 ⟨fun hok rd n ds G w a hI hg he hd Q hQ=>y5l hC hs (by simpa[okC] using hok) hN hbeh h h' hI hg he hd id rd n hQ,(z8g _ _ _ _ _ _ _ h).trans (z9k hw hsw _ _ _ _ _ _ h')⟩
def z6m:Self:={ call:=fun _ _ _=>none,loop:=fun _ _ _=>none }
theorem z8n (D:Cx):SelfOk D z6m:=⟨fun _ _ _ _ _ h=>(by cases h),fun _ _ _ _ _ _ _ h=>(by cases h)⟩
theorem z9w:SelfW z6m:=⟨fun _ _ _ _ _ h=>(by cases h),fun _ _ _ _ _ _ h=>(by cases h)⟩
def ev3 (C:Cx)(sf:Self)(a b c:Code)(env:Env)(S:St):Option (Env×St) :=
 match evC C sf a env S with
 | some (.normal,e,s)=>match evC C sf b e s with
  | some (.normal,e,s)=>match evC C sf c e s with
   | some (.normal,e,s)=>some (e,s)
   | _=>none
  | _=>none
 | _=>none
theorem Pce.ev3 {ca cb cc d:Code}(hC:CxOk C)(hw:HkW C)(hs:SelfOk C sf)(hsw:SelfW sf)(h:Go.Ev.ev3 C sf ca cb cc env S=some (env1,S1))(h2:Pce C d env1 S1 x env' S'):Pce C (.seq ca (.seq cb (.seq cc d))) env S x env' S':=by
 unfold Go.Ev.ev3 at h
 split at h<;>try cases h
 rename_i h3
 split at h<;>try cases h
 rename_i h4
 split at h<;>cases h
 rename_i h5
 exact Pce.seq (Pce.of_ev hC hw hs hsw h3) (Pce.seq (Pce.of_ev hC hw hs hsw h4) (Pce.seq (Pce.of_ev hC hw hs hsw h5) h2))
theorem CallOk.of_Pce (hC:CxOk C){g:FuncId}{fn:Func}(hfn:C.P.funcs[g]?=some fn)(hc:fn.body=some c){args:List AV}{v:AV}(hx:x=.normal∨x=.ret)
  (h:Pce C c (args++List.replicate (fn.ntmps-args.length) .bad) { S with wl:=[] } x env' S') (hr:z0v C fn env' S'=some v):CallOk C g args S (.ret (finish C S S' v).1) (finish C S S' v).2:=by
 intro G w us hI hg hu
 refine (callsIn_wide (n:=0)).1 (callsIn_of_wp hfn hc trivial ?_)
 have hI':Inv G w { S with wl:=[] }:=hI.congr (fun _ _=>Iff.rfl) rfl
 refine h.run (hC.codes g fn c hfn hc) none 0 [] G w _ hI' hg (z81 hu fn.ntmps) rfl _ ?_
 rintro e a1 w1 ⟨G1,i1,v1,r1,f1,x1⟩
 obtain ⟨uu,p1,p2⟩:=z3n i1 r1 hr
 obtain ⟨G6,f1',f2',f3'⟩:=z5p (C:=C) hI i1 v1 h.wl p1
 rcases hx with rfl | rfl
 ·simp only[ExR]at x1;subst x1
  exact ⟨f1,uu,p2,G6,f1',f2',uu,rfl,f3'⟩
 ·simp only[ExR]at x1;subst x1
  exact ⟨f1,uu,p2,G6,f1',f2',uu,rfl,f3'⟩
end
end Go.Ev
namespace Go.Ev
open Go.RowKit
def FreeB (G:Gh)(b:Nat):Prop:=(∀ h,G.σ h≠some b)∧(∀ k c m z,G.tk k≠some (b,c,m,z))∧∀ o,¬ G.K b o
section
variable {C:Cx}{G G' G0:Gh}{w w' w0:World}{S:St}{b:Nat}
theorem FreeB.new (hI:Inv G w S)(hb:w.heap.size≤b):FreeB G b :=
 ⟨fun h e=>by have:=hI.blk_lt e;omega,fun k c m z e=>by have:=hI.tk_lt e;omega,fun o e=>by have:=hI.kin _ _ e;omega⟩
theorem FreeB.evo (hE:Evo G w G' w')(h:FreeB G b)(hb:b < w.heap.size):FreeB G' b :=
  ⟨fun k e=>by rcases hE.σn _ _ e with q | q;exact h.1 _ q;omega,
   fun k c m z e=>by rcases hE.tkn _ _ _ _ _ e with ⟨c',m',z',q⟩ | q;exact h.2.1 _ _ _ _ q;omega,
   fun o e=>by rcases hE.kn _ _ e with q | q | ⟨k,c,m,z,q⟩;exact h.2.2 _ q;omega;exact h.2.1 _ _ _ _ q⟩
def OwnV (e:TypeId)(sz:Nat)(l:List AV)(n:Nat)(w0:World)(G:Gh)(w:World)(v:Value):Prop :=
 (v=.slice none 0 0∧n=0∧l=[])∨∃ b c cur,v=.slice (some ⟨b,0,none⟩) n c∧w0.heap.size≤b∧b < w.heap.size∧FreeB G b∧w.heap[b]?=some (.cells cur e (0,0))∧n≤c∧c≤maxLen∧cur.size=c*sz∧l.length=n*sz∧∀ i a,l[i]?=some a→VR G w a (cur.getD i undef)
theorem OwnV.mono {e:TypeId}{sz:Nat}{l:List AV}{n:Nat}{v:Value}(hE:Evo G w G' w')(h:OwnV e sz l n w0 G w v):OwnV e sz l n w0 G' w' v:=by
 rcases h with h | ⟨b,c,cur,h1,h2,h3,h4,h5,h6,h7,h8,h9,h10⟩
 ·exact .inl h
 ·exact .inr ⟨b,c,cur,h1,h2,Nat.lt_of_lt_of_le h3 hE.size,h4.evo hE h3,by rw[hE.frame b h3 h4.1 h4.2.1];exact h5,h6,h7,h8,h9,fun i a ha=>(h10 i a ha).mono hE⟩
theorem Inv.keepB (hI:Inv G w S)(hf:FreeB G b)(hb:b < w.heap.size)(m:Nat):Inv (G.keep b m) w S :=
  have hX:Ext G w (G.keep b m) w:=⟨fun _ _ h=>.inl h,fun _ _ _=>rfl,fun _ _ h=>h,fun k b c m z h=>⟨b,c,m,h,.inl ⟨rfl,rfl,rfl⟩⟩⟩
  { blk:=fun h x hh=>let ⟨b,o,h1,h2,h3⟩:=hI.blk h x hh; ⟨b,o,h1,h2,h3.ext hX⟩
    dom:=hI.dom,inj:=hI.inj
    fr:=fun h b' o hb' hK=>by
      rcases hK with hK | ⟨rfl,_⟩
      · exact hI.fr _ _ _ hb' hK
      · exact hf.1 _ hb'
    base:=hI.base,tok:=hI.tok
    tdom:=fun k b' c m' z hk=>by
      obtain ⟨h1,h2,h3,h4,h5,h6,h7⟩:=hI.tdom _ _ _ _ _ hk
      refine ⟨h1,h2,h3,h4,h5,h6,fun o hK=>?_⟩
      rcases hK with hK | ⟨rfl,_⟩
      · exact h7 _ hK
      · exact absurd hk (hf.2.1 _ _ _ _)
    tinj:=hI.tinj,tσ:=hI.tσ
    kin:=fun b' o hK=>by
      rcases hK with hK | ⟨rfl,_⟩
      · exact hI.kin _ _ hK
      · exact hb
    bin:=hI.bin }
theorem Ext.keepB (b m:Nat):Ext G w (G.keep b m) w:=⟨fun _ _ h=>.inl h,fun _ _ _=>rfl,fun _ _ h=>h,fun k b c m z h=>⟨b,c,m,h,.inl ⟨rfl,rfl,rfl⟩⟩⟩
theorem Evo.keepB (hE:Evo G0 w0 G w)(hb:w0.heap.size≤b)(m:Nat):Evo G0 w0 (G.keep b m) w :=
  { k:=fun b o h=>.inl (hE.k b o h),cell:=hE.cell,σ:=hE.σ,σn:=hE.σn,tk:=hE.tk,tkn:=hE.tkn
    kn:=fun b' o hK=>by
      rcases hK with hK | ⟨rfl,_⟩
      · exact hE.kn _ _ hK
      · exact .inr (.inl hb)
    B:=hE.B,size:=hE.size,os:=hE.os,tape:=hE.tape,output:=hE.output,frame:=hE.frame }
structure ButB (ob:Option Nat) (w w':World):Prop where
 os:w'.os=w.os
 tape:w'.tape=w.tape
 output:w'.output=w.output
 size:w.heap.size≤w'.heap.size
 block:∀ k,k < w.heap.size→ob≠some k→w'.heap[k]?=w.heap[k]?
theorem Inv.but {ob:Option Nat}(hI:Inv G w S)(hf:∀ b,ob=some b→FreeB G b)(hb:ButB ob w w'):Inv G w' S∧Ext G w G w':=by
 have hX:Ext G w G w':=⟨fun _ _ h=>h,fun b o hK=>by
  have:=hb.block b (hI.kin _ _ hK) fun e=>(hf b e).2.2 o hK
  simp[World.cell?,this],fun _ _ h=>h,fun k b c m z h=>⟨b,c,m,h,.inl ⟨rfl,rfl,rfl⟩⟩⟩
 exact ⟨{
  blk:=fun h x hh=>by
   obtain ⟨b,o,h1,h2,h3⟩:=hI.blk _ _ hh
   exact ⟨b,o,h1,by rw[hb.block b (hI.blk_lt h1) fun e=>(hf b e).1 h h1];exact h2,h3.ext hX⟩
  dom:=hI.dom,inj:=hI.inj,fr:=hI.fr,base:=hI.base,tok:=hI.tok
  tdom:=fun k b c m z hk=>by
   obtain ⟨h1,h2,h3,h4,h5,⟨cs,e,h6,h7⟩,h8⟩:=hI.tdom _ _ _ _ _ hk
   exact ⟨h1,h2,h3,h4,h5,⟨cs,e,by rw[hb.block b (hI.tk_lt hk) fun e=>(hf b e).2.1 k c m z hk];exact h6,h7⟩,h8⟩
  tinj:=hI.tinj,tσ:=hI.tσ
  kin:=fun b o hK=>Nat.lt_of_lt_of_le (hI.kin _ _ hK) hb.size
  bin:=Nat.le_trans hI.bin hb.size },hX⟩
theorem Evo.but {ob:Option Nat}(hE:Evo G0 w0 G w)(hI:Inv G w S)(hf:∀ b,ob=some b→FreeB G b∧w0.heap.size≤b)(hb:ButB ob w w'):Evo G0 w0 G w' :=
  { k:=hE.k
    cell:=fun b o hK=>by
      rw[← hE.cell b o hK]
      have:=hb.block b (hI.kin _ _ (hE.k _ _ hK)) fun e=>(hf b e).1.2.2 o (hE.k _ _ hK)
      simp[World.cell?,this]
    σ:=hE.σ,σn:=hE.σn,tk:=hE.tk,tkn:=hE.tkn,kn:=hE.kn,B:=hE.B
    size:=Nat.le_trans hE.size hb.size
    os:=hb.os.trans hE.os,tape:=hb.tape.trans hE.tape,output:=hb.output.trans hE.output
    frame:=fun b hlt h1 h2=>by
      rw[← hE.frame b hlt h1 h2]
      exact hb.block b (Nat.lt_of_lt_of_le hlt hE.size) fun e=>by have:=(hf b e).2;omega }
end

def z6t (P:Program)(g:FuncId)(e:TypeId)(sz by_:Nat):Prop :=
 (∀ (ad:Addr) (n c:Nat) (news:List Value) (w:World),news.length=n*sz→n≤maxLen→n*by_≤140737488355328→(∀ j u,news[j]?=some u→w.cell? (ad.add j)=some u)→(∀ u∈news,u.oneCell'=true) →
  Calls P g #[.slice (some ad) n c] w fun e' w'=>∃ v',e'=.returned v'∧w'.ownsRow w.heap.size e sz v' n news∧Below w.heap.size w w') ∧
 (∀ n c w,Calls P g #[.slice none n c] w fun e' w'=>e'=.returned (.slice none 0 0)∧w'=w)
def z6r (sz by_:Nat)(l:List AV)(n:Nat):Prop:=l.length=n*sz∧l.all AV.one=true∧n*by_≤140737488355328∧n≤140737488355328∧0 < sz
instance (sz by_:Nat) (l:List AV) (n:Nat):Decidable (z6r sz by_ l n):=by unfold z6r;infer_instance
section
variable {C:Cx}{G:Gh}{w:World}{S:St}
theorem y2x {P:Program}{g:FuncId}{e:TypeId}{sz by_:Nat}(H:z6t P g e sz by_)(hI:Inv G w S){l:List AV}{n:Nat}{t:Tok}(hc:z6r sz by_ l n){u:Value}(hu:VR G w (.vs l n t) u)(w0:World)(h0:w0.heap.size≤w.heap.size) :
  Calls P g #[u] w fun e' w'=>∃ v,e'=.returned v∧Inv G w' S∧Evo G w G w'∧OwnV e sz l n w0 G w' v:=by
 obtain ⟨c1,c2,c3,c4,c5⟩:=hc
 cases hu with
 | vs _ _ _ A c f hcc hf hh ht =>
  cases A with
  | none =>
   have hl:l=[]:=by
    rcases hh with h | ⟨ad,h,_⟩
    ·exact h
    ·cases h
   subst hl
   have hn:n=0:=by
    rcases Nat.eq_zero_or_pos n with h | h
    ·exact h
    ·have:=Nat.mul_pos h c5;simp at c1;omega
   refine (H.2 n c w).mono ?_
   rintro e' w' ⟨rfl,rfl⟩
   exact ⟨_,rfl,hI,Evo.refl _ _,.inl ⟨rfl,hn,rfl⟩⟩
  | some ad =>
   have hvals:VRs G w l ((List.range l.length).map f):=VRs.ofFn hf
   refine (H.1 ad n c ((List.range l.length).map f) w (by simpa using c1) (by unfold maxLen;omega) c3 (fun j u hj=>?_) (fun u hu=>?_)).mono ?_
   ·rw[List.getElem?_map]at hj
    obtain ⟨i,hi,rfl⟩:=Option.map_eq_some_iff.1 hj
    have hlt:j < l.length:=by
     have:=(List.getElem?_eq_some_iff.1 hi).1;simpa using this
    have hij:i=j:=by
     rw[List.getElem?_range hlt]at hi;cases hi;rfl
    subst hij
    rcases hh with rfl | ⟨ad',e1,h1,h2⟩
    ·simp at hlt
    ·cases e1
     obtain ⟨b,o,sp⟩:=ad
     simp only at h1
     subst h1
     rw[Addr.add_lit]
     exact (h2 i hlt).2
   ·obtain ⟨i,hi,rfl⟩:=List.mem_map.1 hu
    have hlt:i < l.length:=by simpa using hi
    have:=List.all_eq_true.1 c2 _ (List.getElem_mem hlt)
    exact (hf i _ (List.getElem?_eq_getElem hlt)).one this
   ·rintro e' w' ⟨v,rfl,hrow,hbel⟩
    obtain ⟨i1,v1⟩:=hI.below hbel
    refine ⟨v,rfl,i1,v1,?_⟩
    rcases hrow.2 with ⟨rfl,hn⟩ | ⟨b,cap,cur,rfl,hb,hbk,r1,r2,r3,r4⟩
    ·subst hn
     simp at c1
     exact .inl ⟨rfl,rfl,c1⟩
    ·refine .inr ⟨b,cap,cur,rfl,Nat.le_trans h0 hb,(Array.getElem?_eq_some_iff.1 hbk).1,FreeB.new hI hb,hbk,r1,r2,r3,c1,fun i a ha=>?_⟩
     have hlt:=(List.getElem?_eq_some_iff.1 ha).1
     have h5:(cur.toList.take (n*sz))[i]?=some (f i):=by
      rw[r4,List.getElem?_map,List.getElem?_range hlt];rfl
     rw[List.getElem?_take_of_lt (by omega)]at h5
     have h6:cur.getD i undef=f i:=by
      simp at h5
      simp[Array.getD_eq_getD_getElem?,h5]
     rw[h6]
     exact (hf i a ha).mono v1
def z8y (sz by_:Nat)(args:List AV)(S:St):Option (CR×St) :=
 match args with
 | [.vs l n _]=>if z6r sz by_ l n then some (.ret (.vs l n .none),S) else none
 | _=>none
theorem y5p {g:FuncId}{e:TypeId}{sz by_:Nat}(H:z6t C.P g e sz by_){args:List AV}{S S':St}{r:CR}(h:z8y sz by_ args S=some (r,S')):CallOk C g args S r S':=by
 unfold z8y at h
 split at h<;>try cases h
 rename_i l n t
 split at h<;>cases h
 rename_i hc
 intro G w us hI hg has
 obtain ⟨v,hv1,hv2⟩:=has.2 0 _ rfl
 have has1:us=[v]:=by
  match us,has.1,hv1 with
  | [u],_,hv1=>simp at hv1;rw[hv1]
 subst has1
 refine (y2x H hI hc hv2 w (Nat.le_refl _)).mono ?_
 rintro e' w' ⟨v,rfl,i1,v1,how⟩
 rcases how with ⟨rfl,rfl,rfl⟩ | ⟨b,c,cur,rfl,q1,q2,q3,q4,q5,q6,q7,q8,q9⟩
 ·exact ⟨G,i1,v1,_,rfl,.vs [] 0 .none none 0 (fun _=>undef) (Nat.le_refl _) (by simp) (.inl rfl) trivial⟩
 ·refine ⟨G.keep b l.length,i1.keepB q3 q2 _,v1.keepB q1 _,_,rfl,VR.ofHeld (f:=fun i=>cur.getD i undef) q5 (fun i a ha=>(q9 i a ha).ext (Ext.keepB _ _)) (fun i hi=>⟨.inr ⟨rfl,hi⟩,?_⟩) trivial⟩
  have hlt:i < cur.size:=by
   have:=Nat.mul_le_mul_right sz q5;omega
  simp[World.cell?,q4,Array.getD,hlt]
theorem y5o {sz by_:Nat}{args:List AV}{S S':St}{r:CR}(h:z8y sz by_ args S=some (r,S')):Wl S S':=by
 unfold z8y at h
 split at h<;>try cases h
 split at h<;>cases h
 exact Wl.refl _
end
theorem z8h {C:Cx}(hC:CxOk C){o:Oper}{c:Go.Call}{g:FuncId}{a:Act}{w:World}(ho:o.op=.call c)(hcal:c.callee=.value (.func g)){fn:Func}{cd:Code}(hfn:C.P.funcs[g]?=some fn)(hbody:fn.body=some cd)
  {R:Ending→World→Prop} (hc:Calls C.P g (c.args.map a.eval) w R) (rd:Option Nat) (n:Nat) {next:Act→World→Prop} {Q:Exit→Act→World→Prop} (hnext:∀ e w',R e w'→∃ v,e=.returned v∧next (a.put o.dst v) w'):o.wpIn (WF rd) n C.P a w next Q:=by
 have hd:∀ c,o.op≠.defer c:=by intro c' e;rw[ho]at e;cases e
 refine ⟨fun _ _=>trivial,?_⟩
 rw[Oper.semAt_eq _ _ _ hd]
 have hnm:=hC.names g fn cd hfn hbody
 have hrun:(execOp a.eval o).run C.P w=.ok (.enter g (c.args.map a.eval)) w:=by
  simp[execOp,ho,resolve,hcal,Act.eval,Deferred.ofValue,invoke,callFunc,hfn,hbody,hnm]
  intro e;rw[e]at hnm;simp at hnm
 rw[hrun]
 refine ⟨fun h=>(by simp[Fence.wide]at h),(y1o rd (n-1) hc).mono fun e w' he=>?_⟩
 obtain ⟨v,rfl,h⟩:=hnext e w' he
 exact h

def y6u (P:Program)(g:FuncId)(e:TypeId)(sz by_:Nat):Prop :=
 ∀ (w:World) (n c i:Nat) (ob:Option Nat) (cs vs:List Value) (vb voff vc:Nat),(ob=none→n=0∧c=0)→(∀ b,ob=some b→vb≠b∧∃ cur,w.heap[b]?=some (.cells cur e (0,0))∧cur.size=c*sz∧cur.toList.take (n*sz)=cs) →
  n≤c→c≤maxLen→i≤n→(n+1)*by_≤140737488355328→cs.length=n*sz→vs.length=sz→(∀ j v,vs[j]?=some v→w.cell? ⟨vb,voff+j,none⟩=some v)→(∀ v∈cs,v.oneCell'=true)→(∀ v∈vs,v.oneCell'=true) →
  Calls P g #[.slice (ob.map fun b=>⟨b,0,none⟩) n c,.int .i64 i,.slice (some ⟨vb,voff,none⟩) 1 vc] w fun e' w'=>∃ g' c',e'=.returned (.slice (some ⟨g',0,none⟩) (n+1) c')∧n+1≤c' ∧
   (∀ j u,(cs.take (i*sz)++vs++cs.drop (i*sz))[j]?=some u→w'.cell? ⟨g',j,none⟩=some u)∧(ob=some g'∨w.heap.size≤g')∧g' < w'.heap.size∧ButB ob w w'
section
variable {C:Cx}{G G0:Gh}{w w0:World}{S:St}
def spl (sz:Nat)(l m:List AV)(i:Nat):List AV:=l.take (i*sz)++m++l.drop (i*sz)
def x59 (sz by_:Nat)(l m:List AV)(n i:Nat):Prop:=l.length=n*sz∧l.all AV.one=true∧m.length=sz∧m.all AV.one=true∧(n+1)*by_≤140737488355328∧i≤n∧0 < sz
theorem VRs.take {G:Gh}{w:World}{l:List AV}{cs:List Value}(h:VRs G w l cs)(k:Nat):VRs G w (l.take k) (cs.take k):=by
 refine ⟨by simp[h.1],fun i a ha=>?_⟩
 rw[List.getElem?_take]at ha
 split at ha
 ·rename_i hk
  obtain ⟨v,h1,h2⟩:=h.2 i a ha
  exact ⟨v,by rw[List.getElem?_take,if_pos hk];exact h1,h2⟩
 ·cases ha
theorem VRs.drop {G:Gh}{w:World}{l:List AV}{cs:List Value}(h:VRs G w l cs)(k:Nat):VRs G w (l.drop k) (cs.drop k):=by
 refine ⟨by simp[h.1],fun i a ha=>?_⟩
 rw[List.getElem?_drop]at ha
 obtain ⟨v,h1,h2⟩:=h.2 (k+i) a ha
 exact ⟨v,by rw[List.getElem?_drop];exact h1,h2⟩
theorem VRs.oneAll {G:Gh}{w:World}{l:List AV}{cs:List Value}(h:VRs G w l cs)(ho:l.all AV.one=true):∀ v∈cs,v.oneCell'=true:=by
 intro v hv
 obtain ⟨i,hi⟩:=List.getElem?_of_mem hv
 have hlt:i < l.length:=by rw[← h.1];exact (List.getElem?_eq_some_iff.1 hi).1
 obtain ⟨u,h1,h2⟩:=h.2 i _ (List.getElem?_eq_getElem hlt)
 rw[hi]at h1;cases h1
 exact h2.one (List.all_eq_true.1 ho _ (List.getElem_mem hlt))
theorem x65 {P:Program}{g:FuncId}{e:TypeId}{sz by_:Nat}(H:y6u P g e sz by_)(hI:Inv G w S)(hE0:Evo G0 w0 G w){l m:List AV}{n i:Nat}{t:Tok}(hc:x59 sz by_ l m n i){v u:Value}(hv:OwnV e sz l n w0 G w v)(hu:VR G w (.vs m 1 t) u) :
  Calls P g #[v,.int .i64 i,u] w fun e' w'=>∃ G' x,e'=.returned x∧Inv G' w' S∧Ext G w G' w'∧Evo G0 w0 G' w'∧VR G' w' (.vs (spl sz l m i) (n+1) .none) x:=by
 obtain ⟨c1,c2,c3,c4,c5,c6,c7⟩:=hc
 cases hu with
 | vs _ _ _ A vc f hvc hf hh ht =>
 have hm0:m≠[]:=by intro h;subst h;simp at c3;omega
 rcases hh with h | ⟨ad,rfl,hsp,hheld⟩
 ·exact absurd h hm0
 obtain ⟨vb,voff,sp⟩:=ad
 simp only at hsp
 subst hsp
 have hms:VRs G w m ((List.range m.length).map f):=VRs.ofFn hf
 have hcells:∀ j x,((List.range m.length).map f)[j]?=some x→w.cell? ⟨vb,voff+j,none⟩=some x:=by
  intro j x hj
  rw[List.getElem?_map]at hj
  obtain ⟨q,hq,rfl⟩:=Option.map_eq_some_iff.1 hj
  have hlt:j < m.length:=by have:=(List.getElem?_eq_some_iff.1 hq).1;simpa using this
  rw[List.getElem?_range hlt]at hq
  cases hq
  exact (hheld j hlt).2
 have main:∀ (ob:Option Nat) (c:Nat) (cs:List Value),VRs G w l cs→(ob=none→n=0∧c=0)→(∀ b,ob=some b→(FreeB G b∧w0.heap.size≤b)∧vb≠b∧∃ cur,w.heap[b]?=some (.cells cur e (0,0))∧cur.size=c*sz∧cur.toList.take (n*sz)=cs)→n≤c→c≤maxLen →
   Calls P g #[.slice (ob.map fun b=>⟨b,0,none⟩) n c,.int .i64 i,.slice (some ⟨vb,voff,none⟩) 1 vc] w fun e' w'=>∃ G' x,e'=.returned x∧Inv G' w' S∧Ext G w G' w'∧Evo G0 w0 G' w'∧VR G' w' (.vs (spl sz l m i) (n+1) .none) x:=by
  intro ob c cs hcs h1 h2 h3 h4
  refine (H w n c i ob cs ((List.range m.length).map f) vb voff vc h1 (fun b hb=>(h2 b hb).2) h3 h4 c6 c5 (by rw[hcs.1,c1]) (by simp[c3]) hcells (hcs.oneAll c2) (hms.oneAll c4)).mono ?_
  rintro e' w' ⟨g',c',rfl,q1,q2,q3,q4,q5⟩
  obtain ⟨i1,x1⟩:=hI.but (fun b hb=>(h2 b hb).1.1) q5
  have e1:=hE0.but hI (fun b hb=>(h2 b hb).1) q5
  have hbase:w0.heap.size≤g':=by
   rcases q3 with h | h
   ·exact (h2 _ h).1.2
   ·exact Nat.le_trans hE0.size h
  have hfree:FreeB G g':=by
   rcases q3 with h | h
   ·exact (h2 _ h).1.1
   ·exact FreeB.new hI h
  have hvals:VRs G w (spl sz l m i) (cs.take (i*sz)++(List.range m.length).map f++cs.drop (i*sz)):=VRs.append (VRs.append (hcs.take _) hms) (hcs.drop _)
  refine ⟨G.keep g' (spl sz l m i).length,_,rfl,i1.keepB hfree q4 _,⟨fun b o h=>.inl (x1.k b o h),x1.cell,x1.σ,x1.tk⟩,e1.keepB hbase _,?_⟩
  refine VR.ofHeld (f:=fun j=>(cs.take (i*sz)++(List.range m.length).map f++cs.drop (i*sz)).getD j undef) q1 (fun j a ha=>?_) (fun j hj=>⟨.inr ⟨rfl,hj⟩,?_⟩) trivial
  ·obtain ⟨x,hx1,hx2⟩:=hvals.2 j a ha
   simp only[List.getD_eq_getElem?_getD,hx1]
   exact (hx2.ext x1).ext (Ext.keepB _ _)
  ·refine q2 j _ ?_
   rw[List.getD_eq_getElem?_getD,List.getElem?_eq_getElem (by rw[hvals.1];exact hj)];rfl
 rcases hv with ⟨rfl,rfl,rfl⟩ | ⟨b,c,cur,rfl,q1,q2,q3,q4,q5,q6,q7,q8,q9⟩
 ·exact main none 0 [] ⟨rfl,by simp⟩ (fun _=>⟨rfl,rfl⟩) (fun b hb=>by cases hb) (Nat.le_refl _) (by unfold maxLen;omega)
 ·have hle:n*sz≤cur.size:=by rw[q7];exact Nat.mul_le_mul_right sz q5
  refine main (some b) c (cur.toList.take (n*sz)) ⟨by rw[List.length_take,q8];simp;omega,fun j a ha=>?_⟩ (fun h=>by cases h) (fun b' hb=>?_) q5 q6
  ·have hlt:=(List.getElem?_eq_some_iff.1 ha).1
   refine ⟨cur.getD j undef,?_,q9 j a ha⟩
   have h2:j < cur.size:=by omega
   rw[List.getElem?_take_of_lt (by omega)]
   simp[Array.getD,h2]
  ·cases hb
   refine ⟨⟨q3,q1⟩,fun e=>?_,cur,q4,q7,rfl⟩
   have hm1:0 < m.length:=by omega
   exact q3.2.2 _ (e ▸ (hheld 0 hm1).1)
end

theorem HandOk.ins {C:Cx}(hC:CxOk C){ops:Array Oper}{S0:St}{ec ei:Env}{jc ji:Nat}{gc gi:FuncId}{e:TypeId}{sz by_:Nat}(HC:z6t C.P gc e sz by_)(HI:y6u C.P gi e sz by_){tA tC tI tV:Tmp}{cc ci:Go.Call}
  (hoc:(opAt ops jc).op=.call cc) (hcc:cc.callee=.value (.func gc)) (hca:cc.args=#[.tmp tA]) (hoi:(opAt ops ji).op=.call ci) (hci:ci.callee=.value (.func gi)) (hia:ci.args=#[.tmp tC,.tmp tI,.tmp tV])
  (hlA:tA∈(opAt ops jc).looksAt ops) (hlI:tI∈(opAt ops ji).looksAt ops) (hlV:tV∈(opAt ops ji).looksAt ops) {l m:List AV} {n i:Nat} {t t':Tok} (hA:ec.getD tA .bad=.vs l n t) (hIx:ei.getD tI .bad=.int .i64 i) (hV:ei.getD tV .bad=.vs m 1 t') (hok:z6r sz by_ l n) (hok':x59 sz by_ l m n i)
  {fnc fni:Func} {cdc cdi:Code} (b1:C.P.funcs[gc]?=some fnc) (b2:fnc.body=some cdc) (b3:C.P.funcs[gi]?=some fni) (b4:fni.body=some cdi) :
  HandOk C ops S0 ec ei jc ji tC (.vs (spl sz l m i) (n+1) .none) (OwnV e sz l n) where
 mono:=fun w0 G w G' w' v _ hE h=>h.mono hE
 first:=fun w0 G w a S hI hg h0 hlk rd k next Q hnext=>by
  have hv:=hlk tA hlA
  rw[hA]at hv
  refine z8h hC hoc hcc b1 b2 (R:=_) (by rw[hca];simpa[Act.eval] using y2x HC hI hok hv w0 h0) rd k ?_
  rintro e' w' ⟨v,rfl,i1,v1,ho⟩
  exact ⟨v,rfl,hnext G w' v i1 v1 ho⟩
 second:=fun G0 w0 G w a S hB hS0 hI hg hE0 hlk hΦ rd k next Q hnext=>by
  have hiv:=(hlk tI hlI)
  rw[hIx]at hiv
  have hiv:=hiv.int_inv
  have hvv:=hlk tV hlV
  rw[hV]at hvv
  refine z8h hC hoi hci b3 b4 (R:=_) (by
   have:=x65 HI hI hE0 hok' hΦ hvv
   rw[hia]
   simpa[Act.eval,hiv] using this) rd k ?_
  rintro e' w' ⟨G',x,rfl,i1,x1,e1,hx⟩
  exact ⟨x,rfl,hnext G' w' x i1 x1 e1 hx⟩
end Go.Ev
namespace Go.Ev
open Go.RowKit
def z9f:AV→Bool
 | .int _ _ | .bool _ | .str _=>true
 | _=>false
section
variable {C:Cx}{G G' G0:Gh}{w w' w0:World}{S:St}
theorem x38 {a:AV}{v:Value}(hp:z9f a=true)(h:VR G w a v):VR G' w' a v:=by
 cases h<;>simp[z9f]at hp
 ·exact .int _ _
 ·exact .bool _
 ·exact .str _
theorem w1l (hI:Inv G w S)(hE0:Evo G0 w0 G w){b c n:Nat}{z:Nat×Nat}{cur:Array Value}(hf:FreeB G b)(h0:w0.heap.size≤b)(hbk:w.heap[b]?=some (.cells cur z.2 (0,0)))(hz:0 < z.1)(hnc:n≤c)(hc:c≤maxLen)(hcs:cur.size=c*z.1)(hB:w0.heap.size≤w.heap.size)(hbin:G0.B≤w0.heap.size) :
  Inv (G.tnew S.ts.length b c n z) w { S with ts:=S.ts++[(n,z)] }∧Ext G w (G.tnew S.ts.length b c n z) w∧Evo G0 w0 (G.tnew S.ts.length b c n z) w:=by
 have hk:G.tk S.ts.length=none:=hI.tk_len
 have hbl:b < w.heap.size:=(Array.getElem?_eq_some_iff.1 hbk).1
 have hne:∀ {i},i≠S.ts.length→(G.tnew S.ts.length b c n z).tk i=G.tk i:=fun e=>upd_ne _ _ e
 have heq:(G.tnew S.ts.length b c n z).tk S.ts.length=some (b,c,n,z):=upd_same _ _ _
 have ht1:(S.ts++[(n,z)])[S.ts.length]?=some (n,z):=by simp
 have ht2:∀ i,i≠S.ts.length→(S.ts++[(n,z)])[i]?=S.ts[i]?:=fun i hi=>by
  rcases Nat.lt_or_ge i S.ts.length with h1 | h1
  ·rw[List.getElem?_append_left h1]
  ·rw[List.getElem?_append_right h1,List.getElem?_eq_none h1]
   have:1≤i-S.ts.length:=by omega
   simp;omega
 have hX:Ext G w (G.tnew S.ts.length b c n z) w:=⟨fun _ _ h=>.inl h,fun _ _ _=>rfl,fun _ _ h=>h,fun i b' c' m' z' hi=>by
  have e:i≠S.ts.length:=by rintro rfl;rw[hk]at hi;cases hi
  exact ⟨b',c',m',by rw[hne e];exact hi,.inl ⟨rfl,rfl,rfl⟩⟩⟩
 refine ⟨{
  blk:=fun h x hh=>by
   obtain ⟨b1,o,h1,h2,h3⟩:=hI.blk _ _ hh
   exact ⟨b1,o,h1,h2,h3.ext hX⟩
  dom:=hI.dom
  inj:=hI.inj
  fr:=fun h b1 o hb1=>by
   rintro (hK | ⟨rfl,_⟩)
   ·exact hI.fr _ _ _ hb1 hK
   ·exact hf.1 _ hb1
  base:=hI.base
  tok:=fun i m' z' hi=>by
   by_cases e:i=S.ts.length
   ·subst e;simp only[ht1]at hi;cases hi;exact ⟨_,_,heq⟩
   ·simp only at hi
    rw[ht2 i e]at hi
    obtain ⟨b1,c',h1⟩:=hI.tok _ _ _ hi
    exact ⟨b1,c',by rw[hne e];exact h1⟩
  tdom:=fun i b1 c' m' z' hi=>by
   by_cases e:i=S.ts.length
   ·subst e
    rw[heq]at hi
    cases hi
    refine ⟨ht1,?_,hz,hnc,hc,⟨cur,_,⟨(0,0),hbk,Nat.zero_le _⟩,hcs,rfl⟩,fun o ho=>?_⟩
    ·show G.B≤b
     rw[hE0.B];omega
    ·rcases ho with ho | ⟨_,ho⟩
     ·exact absurd ho (hf.2.2 _)
     ·exact ho
   ·rw[hne e]at hi
    obtain ⟨h1,h2,h3,h4,h5,h6,h8⟩:=hI.tdom _ _ _ _ _ hi
    exact ⟨by simp only;rw[ht2 i e];exact h1,h2,h3,h4,h5,h6,fun o ho=>by
     rcases ho with ho | ⟨rfl,_⟩
     ·exact h8 _ ho
     ·exact absurd hi (hf.2.1 _ _ _ _)⟩
  tinj:=fun i i' b1 c1 m1 z1 c2 m2 z2 h1 h2=>by
   by_cases e:i=S.ts.length<;>by_cases e':i'=S.ts.length
   ·rw[e,e']
   ·subst e
    rw[heq]at h1
    rw[hne e']at h2
    cases h1;exact absurd h2 (hf.2.1 _ _ _ _)
   ·subst e'
    rw[heq]at h2
    rw[hne e]at h1
    cases h2;exact absurd h1 (hf.2.1 _ _ _ _)
   ·rw[hne e]at h1
    rw[hne e']at h2
    exact hI.tinj _ _ _ _ _ _ _ _ _ h1 h2
  tσ:=fun i b1 c' m' z' h hi hh=>by
   by_cases e:i=S.ts.length
   ·subst e
    rw[heq]at hi
    cases hi;exact hf.1 _ hh
   ·rw[hne e]at hi
    exact hI.tσ _ _ _ _ _ _ hi hh
  kin:=fun b1 o hK=>by
   rcases hK with hK | ⟨rfl,_⟩
   ·exact hI.kin _ _ hK
   ·exact hbl
  bin:=hI.bin },hX,{
  k:=fun b1 o h=>.inl (hE0.k b1 o h)
  cell:=hE0.cell
  σ:=hE0.σ
  σn:=hE0.σn
  tk:=fun i b1 c' m' z' hi=>by
   obtain ⟨b2,c2,m2,h1,h2⟩:=hE0.tk _ _ _ _ _ hi
   have e:i≠S.ts.length:=by rintro rfl;rw[hk]at h1;cases h1
   exact ⟨b2,c2,m2,by rw[hne e];exact h1,h2⟩
  tkn:=fun i b1 c' m' z' hi=>by
   by_cases e:i=S.ts.length
   ·subst e;rw[heq]at hi;cases hi;exact .inr h0
   ·rw[hne e]at hi;exact hE0.tkn _ _ _ _ _ hi
  kn:=fun b1 o hK=>by
   rcases hK with hK | ⟨rfl,_⟩
   ·exact hE0.kn _ _ hK
   ·exact .inr (.inl h0)
  B:=hE0.B
  size:=hE0.size
  os:=hE0.os
  tape:=hE0.tape
  output:=hE0.output
  frame:=hE0.frame }⟩
theorem dropTok (hI:Inv G w S){G':Gh}{w':World}{S':St}(hI':Inv G' w' S')(hX:Ext G w G' w')(hhs:S'.hs=S.hs)(hts:∀ k,k < S.ts.length→S'.ts[k]?=S.ts[k]?):Inv (G'.cutT S.ts.length) w' S∧Ext G w (G'.cutT S.ts.length) w':=by
 have hlt:∀ k x,G.tk k=some x→k < S.ts.length:=fun k x hk=>by
  obtain ⟨b,c,m,z⟩:=x
  exact (List.getElem?_eq_some_iff.1 (hI.tdom _ _ _ _ _ hk).1).1
 have htk:∀ k x,(G'.cutT S.ts.length).tk k=some x→k < S.ts.length∧G'.tk k=some x:=fun k x hk=>by
  simp only[Gh.cutT]at hk
  split at hk
  ·rename_i h;exact ⟨h,hk⟩
  ·cases hk
 refine ⟨{
  blk:=fun h x hh=>by
   rw[← hhs]at hh
   obtain ⟨b,o,h1,h2,h3⟩:=hI'.blk _ _ hh
   rw[hhs]at hh
   obtain ⟨b0,o0,_,_,h4⟩:=hI.blk _ _ hh
   have:=h3.cutS (tb:=S.ts.length)
   rw[h4.scrub_eq hlt]at this
   exact ⟨b,o,h1,h2,this⟩
  dom:=fun h b hb=>by rw[← hhs];exact hI'.dom h b hb
  inj:=hI'.inj
  fr:=hI'.fr
  base:=hI'.base
  tok:=fun k m z hk=>by
   have hl:=(List.getElem?_eq_some_iff.1 hk).1
   rw[← hts k hl]at hk
   obtain ⟨b,c,h⟩:=hI'.tok _ _ _ hk
   exact ⟨b,c,by simp[Gh.cutT,hl,h]⟩
  tdom:=fun k b c m z hk=>by
   obtain ⟨hl,h⟩:=htk _ _ hk
   obtain ⟨h1,h2⟩:=hI'.tdom _ _ _ _ _ h
   exact ⟨by rw[← hts k hl];exact h1,h2⟩
  tinj:=fun k k' b c m z c' m' z' h1 h2=>hI'.tinj _ _ _ _ _ _ _ _ _ (htk _ _ h1).2 (htk _ _ h2).2
  tσ:=fun k b c m z h h1=>hI'.tσ _ _ _ _ _ _ (htk _ _ h1).2
  kin:=hI'.kin
  bin:=hI'.bin },⟨hX.k,hX.cell,hX.σ,fun k b c m z hk=>by
   obtain ⟨b',c',m',h1,h2⟩:=hX.tk _ _ _ _ _ hk
   exact ⟨b',c',m',by simp[Gh.cutT,hlt _ _ hk,h1],h2⟩⟩⟩
theorem Evo.dropTok {n:Nat}(hE:Evo G0 w0 G w)(hlt:∀ k x,G0.tk k=some x→k < n):Evo G0 w0 (G.cutT n) w :=
  { k:=hE.k,cell:=hE.cell,σ:=hE.σ,σn:=hE.σn
    tk:=fun k b c m z hk=>by
      obtain ⟨b',c',m',h1,h2⟩:=hE.tk _ _ _ _ _ hk
      exact ⟨b',c',m',by simp[Gh.cutT,hlt _ _ hk,h1],h2⟩
    tkn:=fun k b c m z hk=>by
      simp only[Gh.cutT]at hk
      split at hk
      · exact hE.tkn _ _ _ _ _ hk
      · cases hk
    kn:=hE.kn,B:=hE.B,size:=hE.size,os:=hE.os,tape:=hE.tape,output:=hE.output,frame:=hE.frame }

def x10 (C:Cx)(t tx:TypeId)(e:TypeId)(sz:Nat)(l news:List AV)(n d:Nat):Prop:=C.P.underlying t=some (.slice e)∧szT C e=some sz∧(∃ by',byT C e=some by'∧(n+d)*by'≤140737488355328)∧(∃ z,z4p C e=some z)∧(∃ q,C.P.underlying tx=some (.slice q)) ∧
 n+d≤140737488355328∧l.length=n*sz∧news.length=d*sz∧0 < sz∧0 < d∧l.all z9f=true∧news.all z9f=true
theorem x7p (hI:Inv G w S)(hI0:G0.B≤w0.heap.size)(hE0:Evo G0 w0 G w){t tx e:TypeId}{sz n d:Nat}{l news:List AV}{t':Tok}(hc:x10 C t tx e sz l news n d){v u:Value}(hv:OwnV e sz l n w0 G w v)(hu:VR G w (.vs news d t') u)(ty:TypeId) :
  ∃ G' w' x,(Builtin.append_ #[t,tx] ty #[v,u]).run C.P w=.ok x w'∧Inv G' w' S∧Ext G w G' w'∧Evo G0 w0 G' w'∧VR G' w' (.vs (l++news) (n+d) .none) x:=by
 obtain ⟨c1,c2,⟨by',c3,c4⟩,⟨z,c5⟩,⟨q,c6⟩,c7,c8,c9,c10,c11,c12,c13⟩:=hc
 have hone:news.all AV.one=true:=by
  rw[List.all_eq_true]at c13 ⊢
  intro a ha
  have:=c13 a ha
  cases a<;>simp[z9f]at this<;>rfl
 have hd:¬ d=0:=by omega
 have hlt0:∀ k x,G0.tk k=some x→k < S.ts.length:=fun k x hk=>by
  obtain ⟨b,c,m,z⟩:=x
  obtain ⟨b',c',m',h1,_⟩:=hE0.tk _ _ _ _ _ hk
  exact (List.getElem?_eq_some_iff.1 (hI.tdom _ _ _ _ _ h1).1).1
 have fin:∀ (G1:Gh) (S1:St) (G2:Gh) (w2:World) (S2:St) (x:Value) (k:Nat),Ext G w G1 w→Evo G0 w0 G1 w→Inv G2 w2 S2→Evo G1 w G2 w2→VR G2 w2 (.vs (l++news) (n+d) (.own k)) x→S2.hs=S.hs→(∀ k,k < S.ts.length→S2.ts[k]?=S.ts[k]?) →
   ∃ G',Inv G' w2 S∧Ext G w G' w2∧Evo G0 w0 G' w2∧VR G' w2 (.vs (l++news) (n+d) .none) x:=by
  intro G1 S1 G2 w2 S2 x k x1 e1 i2 e2 hx hhs hts
  have hX:Ext G w G2 w2:=⟨fun b o h=>e2.k _ _ (x1.k _ _ h),fun b o h=>(e2.cell _ _ (x1.k _ _ h)).trans (x1.cell _ _ h),fun h b hb=>e2.σ _ _ (x1.σ _ _ hb),fun k b c m z hk=>by
   obtain ⟨b1,c1,m1,h1,h2⟩:=x1.tk _ _ _ _ _ hk
   obtain ⟨b2,c2,m2,h3,h4⟩:=e2.tk _ _ _ _ _ h1
   refine ⟨b2,c2,m2,h3,?_⟩
   rcases h2 with ⟨rfl,rfl,rfl⟩ | h2
   ·exact h4
   ·rcases h4 with ⟨rfl,rfl,rfl⟩ | h4
    ·exact .inr h2
    ·exact .inr (by omega)⟩
  obtain ⟨g1,g2⟩:=dropTok hI i2 hX hhs hts
  refine ⟨G2.cutT S.ts.length,g1,g2,(e1.trans e2).dropTok hlt0,?_⟩
  cases hx with
  | vs _ _ _ A c f hcc hf hh ht =>
   refine .vs _ _ _ A c f hcc (fun i a ha=>?_) hh trivial
   refine x38 ?_ (hf i a ha)
   have hm:=List.mem_of_getElem? ha
   rcases List.mem_append.1 hm with h | h
   ·exact List.all_eq_true.1 c12 _ h
   ·exact List.all_eq_true.1 c13 _ h
 rcases hv with ⟨rfl,rfl,rfl⟩ | ⟨b,c,cur,rfl,q1,q2,q3,q4,q5,q6,q7,q8,q9⟩
 ·have happ:z2e C S t tx (.vs [] 0 .zero) (.vs news d t')=some (.vs news d (.own S.ts.length),{ S with ts:=S.ts++[(d,(sz,e))] }):=by
   have h1:d*by'≤140737488355328:=by simpa using c4
   have h2:d≤140737488355328:=by simpa using c7
   unfold z2e
   simp only[c1,c2,c3,c5,z9a,c6,z7r]
   rw[if_pos c9]
   simp only
   rw[if_pos ⟨hone,by simpa using h1,by simpa using h2,by simp,c10⟩,if_neg hd]
   simp
  obtain ⟨G2,w2,x,h1,h2,h3,h4⟩:=z8l hI happ (.vs [] 0 .zero none 0 (fun _=>undef) (Nat.le_refl _) (by simp) (.inl rfl) ⟨rfl,rfl⟩) hu ty
  obtain ⟨G3,g1,g2,g3,g4⟩:=fin G S G2 w2 _ x S.ts.length (Evo.refl G w).ext hE0 h3 h4 (by simpa using h2) rfl (fun k hk=>by simp only;rw[List.getElem?_append_left hk])
  exact ⟨G3,w2,x,h1,g1,g2,g3,g4⟩
 ·obtain ⟨a1,a2,a3⟩:=w1l (z:=(sz,e)) (n:=n) hI hE0 q3 q1 q4 c10 q5 q6 q7 hE0.size hI0
  have happ:z2e C { S with ts:=S.ts++[(n,(sz,e))] } t tx (.vs l n (.own S.ts.length)) (.vs news d t')=some (.vs (l++news) (n+d) (.own S.ts.length),{ S with ts:=(S.ts++[(n,(sz,e))]).set S.ts.length (n+d,(sz,e)) }):=by
   unfold z2e
   simp only[c1,c2,c3,c5,z9a,c6,z7r]
   rw[if_pos c9]
   simp only
   rw[if_pos ⟨hone,c4,c7,c8,c10⟩,if_neg hd]
   simp
  have hl1:∀ i,i < l.length→i < cur.size:=fun i hi=>by
   have:=Nat.mul_le_mul_right sz q5;omega
  have hv1:VR (G.tnew S.ts.length b c n (sz,e)) w (.vs l n (.own S.ts.length)) (.slice (some ⟨b,0,none⟩) n c):=by
   refine VR.ofHeld (f:=fun i=>cur.getD i undef) q5 (fun i a ha=>(q9 i a ha).ext a2) (fun i hi=>⟨.inr ⟨rfl,by rw[← q8];exact hi⟩,?_⟩) ⟨b,c,n,(sz,e),upd_same _ _ _,Nat.le_refl _,fun _=>⟨rfl,rfl⟩⟩
   simp[World.cell?,q4,Array.getD,hl1 i hi]
  obtain ⟨G2,w2,x,h1,h2,h3,h4⟩:=z8l a1 happ hv1 (hu.ext a2) ty
  obtain ⟨G3,g1,g2,g3,g4⟩:=fin _ S G2 w2 _ x S.ts.length a2 a3 h3 h4 h2 rfl (fun k hk=>by
   simp only
   rw[List.getElem?_set_ne (by omega),List.getElem?_append_left hk])
  exact ⟨G3,w2,x,h1,g1,g2,g3,g4⟩
end

theorem HandOk.app {C:Cx}(hC:CxOk C){ops:Array Oper}{S0:St}{ec ei:Env}{jc ji:Nat}{gc:FuncId}{e t tx:TypeId}{sz by_:Nat}(HC:z6t C.P gc e sz by_){tA tC tX:Tmp}{cc ci:Go.Call}
  (hoc:(opAt ops jc).op=.call cc) (hcc:cc.callee=.value (.func gc)) (hca:cc.args=#[.tmp tA]) (hoi:(opAt ops ji).op=.call ci) (hci:ci.callee=.builtin .append) (hia:ci.args=#[.tmp tC,.tmp tX]) (hit:ci.argTypes=#[t,tx])
  (hlA:tA∈(opAt ops jc).looksAt ops) (hlX:tX∈(opAt ops ji).looksAt ops) {l news:List AV} {n d:Nat} {t1 t2:Tok} (hA:ec.getD tA .bad=.vs l n t1) (hX:ei.getD tX .bad=.vs news d t2) (hok:z6r sz by_ l n) (hok':x10 C t tx e sz l news n d)
  {fnc:Func} {cdc:Code} (b1:C.P.funcs[gc]?=some fnc) (b2:fnc.body=some cdc) :
  HandOk C ops S0 ec ei jc ji tC (.vs (l++news) (n+d) .none) (OwnV e sz l n) where
 mono:=fun w0 G w G' w' v _ hE h=>h.mono hE
 first:=fun w0 G w a S hI hg h0 hlk rd k next Q hnext=>by
  have hv:=hlk tA hlA
  rw[hA]at hv
  refine z8h hC hoc hcc b1 b2 (R:=_) (by rw[hca];simpa[Act.eval] using y2x HC hI hok hv w0 h0) rd k ?_
  rintro e' w' ⟨v,rfl,i1,v1,ho⟩
  exact ⟨v,rfl,hnext G w' v i1 v1 ho⟩
 second:=fun G0 w0 G w a S hB hS0 hI hg hE0 hlk hΦ rd k next Q hnext=>by
  have hxv:=hlk tX hlX
  rw[hX]at hxv
  have hd:∀ c,(opAt ops ji).op≠.defer c:=by intro c' e;rw[hoi]at e;cases e
  obtain ⟨G',w',x,h1,h2,h3,h4,h5⟩:=x7p hI hB hE0 hok' hΦ hxv (opAt ops ji).type
  refine ⟨fun _ _=>trivial,?_⟩
  rw[Oper.semAt_eq _ _ _ hd]
  have hrun:(execOp a.eval (opAt ops ji)).run C.P w=.ok (.value x) w':=by
   simp[execOp,hoi,resolve,hci,invoke,builtin,hia,hit,Act.eval]at h1 ⊢
   rw[h1]
   rfl
  rw[hrun]
  exact hnext G' w' x h2 h3 h4 h5
end Go.Ev
namespace Go.Ev
open Go.RowKit Go.Shelf Go.Proofs Go.Maps Go.MapKept
def z8s (es:List (AV×AV)):Option (List AV×Nat×Tok):=match z4s es with
 | some ks=>match z1h ks with
  | []=>some ([],0,.zero)
  | n::r=>if ks.length≤1000000 then some ((n::r).map (.int .i64),ks.length,.none) else none
 | none=>none
def y41 (P:Program)(gk kf:FuncId)(bt:TypeId):Prop:=∀ (b:Nat) (w:World),Calls P gk #[.map (some b)] w fun e w'=>e=.returned (.func (.func kf) #[] #[.pointer (some ⟨w.heap.size,0,none⟩)])∧w'=w.alloc (.cells #[.map (some b)] bt)
def x14 (kf:FuncId)(bt:TypeId)(m:Nat)(w0:World)(G:Gh)(w:World)(v:Value):Prop :=
 ∃ b Bm,v=.func (.func kf) #[] #[.pointer (some ⟨Bm,0,none⟩)]∧w0.heap.size≤Bm∧Bm < w.heap.size∧FreeB G Bm∧w.heap[Bm]?=some (.cells #[.map (some b)] bt (0,0))∧G.σ m=some b
section
variable {C:Cx}{G G0:Gh}{w w0:World}{S:St}
theorem x0n {ρ τ:Ren}(LS:SlLaysZI.n6 C.P ρ)(LK:SlLaysZI.n10 C.P τ){et:TypeId}(het:C.P.underlying et=some .bool)(hsort:AnyZI.SortsIn C.P ρ Fence.wide 4)(e9:∀ args w,(callFunc (ρ.f 9) args).run C.P w=.ok (.enter (ρ.f 9) args) w)
  (e10:∀ args w,(callFunc (τ.f 10) args).run C.P w=.ok (.enter (τ.f 10) args) w) (hI:Inv G w S) {m Bm b:Nat} {bt:TypeId} {es:List (AV×AV)} (hBl:Bm < w.heap.size) (hBm:w.heap[Bm]?=some (.cells #[.map (some b)] bt (0,0))) (hσ:G.σ m=some b) (hes:S.hs[m]?=some (some (.map es)))
  {l:List AV} {n:Nat} {t:Tok} (hl:z8s es=some (l,n,t)) :
  Calls C.P (ρ.f 6) #[.func (.func (τ.f 10)) #[] #[.pointer (some ⟨Bm,0,none⟩)]] w fun e w'=>∃ G' v,e=.returned v∧Inv G' w' S∧Evo G w G' w'∧VR G' w' (.vs l n t) v:=by
 unfold z8s at hl
 split at hl<;>try cases hl
 rename_i ks hks
 have hcell:w.cell? ⟨Bm,0,none⟩=some (.map (some b)):=by simp[World.cell?,hBm]
 obtain ⟨b2,o,d1,d2,d3⟩:=hI.blk _ _ hes
 rw[hσ]at d1;cases d1
 cases d3 with
 | map _ ms clock p hp hsz hst hms =>
  have hkt:C.P.underlying (τ.t 26)=some (.int .i64):=LK.t26
  obtain ⟨k1p,k2⟩:=y2o (C:=C) hkt het hks (ms:=p) hsz hms
  have k1:∀ x∈ms.toList,∃ y,WideElems.rd (H:=Unit) C.P (τ.t 26) (plainElem C.P et) x=some y:=fun x hx=>k1p x (hp.mem_iff.2 hx)
  have hkl:ks.length=ms.size:=by rw[← k2];have:=hp.length_eq;simp at this ⊢;exact this
  by_cases hbig:ks.length≤1000000
  ·have hmx:ms.size≤maxLen:=by unfold maxLen;omega
   have hown:w.ownsMap C.P (τ.t 26) (plainElem (H:=Unit) C.P et) b ms.size (.map ((ms.toList.map (WideElems.rg C.P (τ.t 26) (plainElem C.P et))).foldr DataW.insert [])) :=
    ⟨ms,clock,d2,⟨hmx,hst,k1⟩,Nat.le_refl _,rfl⟩
   have hsize:Maps.size (H:=Unit) (.map ((ms.toList.map (WideElems.rg C.P (τ.t 26) (plainElem C.P et))).foldr DataW.insert []))=ks.length:=by
    rw[Maps.size_eq,length_sorted,List.length_map,hkl];simp
   have hperm:(intKeys (H:=Unit) (.map ((ms.toList.map (WideElems.rg C.P (τ.t 26) (plainElem C.P et))).foldr DataW.insert []))).Perm ks:=by
    rw[← k2]
    show (((ms.toList.map (WideElems.rg C.P (τ.t 26) (plainElem C.P et))).foldr DataW.insert []).map fun p=>intOf p.1).Perm _
    refine ((WideShapes.sorted_perm _).map _).trans ?_
    rw[List.map_map]
    exact (hp.symm.map _)
   have hseq:=AnyZI.keys_gives (ρ:=τ) LK Fence.wide 2 trivial rfl (by omega) Bm b ms.size _ w hBl hcell hown
   have cS:=AnyZI.sorted_in (ρ:=ρ) LS Fence.wide 5 trivial trivial trivial trivial rfl (by omega) hsort e9 (τ.f 10) #[.pointer (some ⟨Bm,0,none⟩)] trivial e10 _ _ (by rw[hsize];unfold maxLen;omega) (by rw[hsize];omega) w hseq
   refine ((callsIn_wide (n:=5)).1 cS).mono ?_
   rintro e w' ⟨v,ss,rfl,hss,hrow,hnil,hbel⟩
   have hms:=z9h (hss.trans hperm)
   have hsl:ss.length=ks.length:=(hss.trans hperm).length_eq
   rw[hms]at hrow
   obtain ⟨g1,g2⟩:=hI.below hbel
   split at hl
   ·rename_i hi0
    cases hl
    have hk0:ks=[]:=by
     have:=(z03 ks).length_eq
     rw[hi0]at this
     exact List.length_eq_zero_iff.1 this.symm
    have hs0:ss=[]:=List.length_eq_zero_iff.1 (by rw[hsl,hk0];rfl)
    refine ⟨G,_,rfl,g1,g2,?_⟩
    rw[hnil.2 hs0]
    exact .vs [] 0 .zero none 0 (fun _=>undef) (Nat.le_refl _) (by simp) (.inl rfl) ⟨rfl,rfl⟩
   ·rename_i n0 r0 hi0
    rw[if_pos hbig]at hl
    cases hl
    have hks0:0 < ks.length:=by
     have:=(z03 ks).length_eq
     rw[hi0]at this
     simp at this;omega
    rcases hrow.2 with ⟨_,hz⟩ | ⟨gb,cap,cur,rfl,hbase,hgb,r1,r2,r3,r4⟩
    ·omega
    ·rw[hsl]at r1 r4 ⊢
     rw[hi0]at r4
     have hlen:(n0::r0).length=ks.length:=by rw[← hi0];exact (z03 ks).length_eq
     refine ⟨G.keep gb ks.length,_,rfl,g1.keepB (FreeB.new hI hbase) (Array.getElem?_eq_some_iff.1 hgb).1 _,g2.keepB hbase _,?_⟩
     refine VR.ofHeld (f:=fun i=>encZ ((n0::r0).getD i 0)) r1 (fun i a ha=>?_) (fun i hi=>⟨.inr ⟨rfl,?_⟩,?_⟩) trivial
     ·rw[List.getElem?_map]at ha
      obtain ⟨x,hx,rfl⟩:=Option.map_eq_some_iff.1 ha
      simp only[List.getD_eq_getElem?_getD,hx]
      exact .int _ _
     ·rw[List.length_map,hlen]at hi
      exact hi
     ·rw[List.length_map]at hi
      have h5:(cur.toList.take (ks.length*1))[i]?=some (encZ ((n0::r0).getD i 0)):=by
       rw[r4,List.getElem?_map,List.getD_eq_getElem?_getD,List.getElem?_eq_getElem hi];rfl
      rw[List.getElem?_take_of_lt (by omega)]at h5
      simp only[World.cell?,hgb]
      simpa using h5
  ·exfalso
   split at hl
   ·rename_i hi0
    have:=(z03 ks).length_eq
    rw[hi0]at this
    simp at this;omega
   ·rw[if_neg hbig]at hl;cases hl
end
theorem HandOk.keys {C:Cx}(hC:CxOk C){ops:Array Oper}{S0:St}{ec ei:Env}{jc ji:Nat}{gk:FuncId}{bt:TypeId}{ρ τ:Ren}(HK:y41 C.P gk (τ.f 10) bt)(LS:SlLaysZI.n6 C.P ρ)(LK:SlLaysZI.n10 C.P τ){et:TypeId}(het:C.P.underlying et=some .bool)(hsort:AnyZI.SortsIn C.P ρ Fence.wide 4)(e9:∀ args w,(callFunc (ρ.f 9) args).run C.P w=.ok (.enter (ρ.f 9) args) w)
  (e10:∀ args w,(callFunc (τ.f 10) args).run C.P w=.ok (.enter (τ.f 10) args) w) {tA tC:Tmp} {cc ci:Go.Call} (hoc:(opAt ops jc).op=.call cc) (hcc:cc.callee=.value (.func gk)) (hca:cc.args=#[.tmp tA]) (hoi:(opAt ops ji).op=.call ci) (hci:ci.callee=.value (.func (ρ.f 6))) (hia:ci.args=#[.tmp tC])
  (hlA:tA∈(opAt ops jc).looksAt ops) {m:Nat} (hA:ec.getD tA .bad=.mp m) {es:List (AV×AV)} (hes:S0.hs[m]?=some (some (.map es))) {l:List AV} {n:Nat} {t:Tok} (hl:z8s es=some (l,n,t))
  {fnc fni:Func} {cdc cdi:Code} (b1:C.P.funcs[gk]?=some fnc) (b2:fnc.body=some cdc) (b3:C.P.funcs[ρ.f 6]?=some fni) (b4:fni.body=some cdi) :
  HandOk C ops S0 ec ei jc ji tC (.vs l n t) (x14 (τ.f 10) bt m) where
 mono:=fun w0 G w G' w' v _ hE ⟨b,Bm,h1,h2,h3,h4,h5,h6⟩=>⟨b,Bm,h1,h2,Nat.lt_of_lt_of_le h3 hE.size,h4.evo hE h3,by rw[hE.frame Bm h3 h4.1 h4.2.1];exact h5,hE.σ _ _ h6⟩
 first:=fun w0 G w a S hI hg h0 hlk rd k next Q hnext=>by
  have hv:=hlk tA hlA
  rw[hA]at hv
  generalize hx:a.tmps.getD tA undef=x at hv
  cases hv with
  | mp _ b hb =>
   refine z8h hC hoc hcc b1 b2 (R:=_) (by rw[hca];simpa[Act.eval,hx] using HK b w) rd k ?_
   rintro e' w' ⟨rfl,rfl⟩
   have ha:=Adds.alloc w (.cells #[.map (some b)] bt)
   exact ⟨_,rfl,hnext G _ _ (Inv.adds ha hI) (Evo.adds ha hI) ⟨b,w.heap.size,rfl,h0,by simp,FreeB.new hI (Nat.le_refl _),ha.new,hb⟩⟩
 second:=fun G0 w0 G w a S hB hS0 hI hg hE0 hlk hΦ rd k next Q hnext=>by
  obtain ⟨b,Bm,h1,h2,h3,h4,h5,h6⟩:=hΦ
  have hm:m < S0.hs.length:=(List.getElem?_eq_some_iff.1 hes).1
  have hes':=(hS0 m hm _).2 hes
  refine z8h hC hoi hci b3 b4 (R:=_) (by
   have:=x0n LS LK het hsort e9 e10 hI h3 h5 h6 hes' hl
   rw[hia]
   simpa[Act.eval,h1] using this) rd k ?_
  rintro e' w' ⟨G',v,rfl,i1,v1,hv⟩
  exact ⟨v,rfl,hnext G' w' v i1 v1.ext (hE0.trans v1) hv⟩
end Go.Ev
namespace Go.Ev
open Go.RowKit
section
variable {C:Cx}{sf:Self}{ops:Array Oper}{ds:List Deferred}
structure HandsOk (C:Cx) (ops:Array Oper) (ov:Nat→Option AV) (pre:Nat→Env) (n0:Nat) (Φ:(Nat→Prop)→World→Gh→World→Act→Prop):Prop where
 keep:∀ E w0 G w a G' w' j x,j < ops.size→ov j=none→a.tmps.size=n0→Evo G w G' w'→Φ E w0 G w a→Φ (fun i=>E i∨i=j) w0 G' w' (a.put (opAt ops j).dst x)
 step:∀ E G0 w0 G w a S j,j < ops.size→ov j=some .bad→¬ E j→(∀ i,E i→i < ops.size→z0p ops j i=true→E j)→(∀ i,z0p ops i j=true→E i)→G0.B≤w0.heap.size→Inv G w S→GtR C G w→Evo G0 w0 G w→a.tmps.size=n0→y51 G w ops j (pre j) a→Φ E w0 G w a →
  ∀ rd n next (Q:Exit→Act→World→Prop),(∀ G' w' x,Inv G' w' S→Ext G w G' w'→Evo G0 w0 G' w'→Φ (fun i=>E i∨i=j) w0 G' w' (a.put (opAt ops j).dst x)→next (a.put (opAt ops j).dst x) w')→(opAt ops j).wpIn (WF rd) n C.P a w next Q

theorem y9z (hC:CxOk C)(hs:SelfOk C sf)(hok:z1s ops=true){ov:Nat→Option AV}{env env':Env}{S S':St}(h:z0u C sf ops ov S ops.toList 0 env S ⟨[],[]⟩=some (env',S'))(hov:∀ j v,ov j=some v→v=.bad∧isApp (opAt ops j).op=false∧(opAt ops j).guard=none)
  {pre:Nat→Env} (hpre:∀ j,j < ops.size→ov j=some .bad→∃ s,z0u C sf ops ov S (ops.toList.take j) 0 env S ⟨[],[]⟩=some (pre j,s)) {Φ:(Nat→Prop)→World→Gh→World→Act→Prop} (hand:HandsOk C ops ov pre env.length Φ)
  {G:Gh} {w:World} {a:Act} (hI:Inv G w S) (hg:GtR C G w) (he:ER G w env a) (hd:a.defers=ds) (id:Nat) (rd:Option Nat) (n:Nat) {Q:Exit→Act→World→Prop}
  (h0:∀ (E:Nat→Prop) w1,(∀ i,¬ E i)→w1.heap=w.heap→Φ E w1 G w1 a) (hQ:∀ E w1 G' a' w',(∀ j,j < ops.size→E j)→w1.heap=w.heap→Evo G w G w1→Inv G' w' S'→Evo G w1 G' w'→ER G' w' env' a'→a'.defers=ds→Φ E w1 G' w' a'→Q .normal a' w'):(Code.region id ops true).wpIn (WF rd) n C.P Q a w:=by
 obtain ⟨es,Ss,Ds,vs,h1,h2,h3,h4,h5,h6,h7,h8⟩:=z8k (Nat.le_refl _) _ 0 env S ⟨[],[]⟩ env' S' (Nat.zero_le _) (by rw[List.drop_zero,List.take_of_length_le (by simp)]) h
 have R:Run C sf ops (fun j v=>ov j=some v) ops.size S env es Ss Ds vs:=⟨h1,Nat.le_refl _,h2,h3,h4⟩
 refine wpIn_region_any hC.mixed ?_
 have hE1:Evo G w G { w with drawn:=w.drawn+1 }:=⟨fun _ _ h=>h,fun _ _ _=>rfl,fun _ _ h=>h,fun _ _ h=>.inl h,fun k b c m z h=>⟨b,c,m,h,.inl ⟨rfl,rfl,rfl⟩⟩,fun k b c m z h=>.inl ⟨c,m,z,h⟩,fun _ _ h=>.inl h,rfl,Nat.le_refl _,rfl,rfl,rfl,fun _ _ _ _=>rfl⟩
 have hI1:Inv G { w with drawn:=w.drawn+1 } S:=⟨fun h hb hh=>let ⟨b,o,q1,q2,q3⟩:=hI.blk h hb hh; ⟨b,o,q1,q2,q3.mono hE1⟩,hI.dom,hI.inj,hI.fr,hI.base,hI.tok,hI.tdom,hI.tinj,hI.tσ,hI.kin,hI.bin⟩
 have hg1:=hg.mono hE1
 have he1:=he.mono hE1
 have hh1:({ w with drawn:=w.drawn+1 }:World).heap=w.heap:=rfl
 generalize ({ w with drawn:=w.drawn+1 }:World)=w1 at hE1 hI1 hg1 he1 hh1 ⊢
 refine y6x hok rd n (fun E a' w'=>∃ G' S2,PI C ops ops.size S env Ss Ds vs ds E G w1 a' w' G' S2∧Φ E w1 G' w' a') ?_ ?_ ops.size _ a _ (by simp) ?_ ?_ ?_
 ·rintro E a2 w2 ⟨G2,S2,H,HΦ⟩ j hj hE hE2 hb K hK
  have hg2:GtR C G2 w2:=hg1.mono H.evo
  have hszz:a2.tmps.size=env.length:=H.sz
  cases hoj:ov j with
  | none =>
   refine H.exec hC hs R hok hI1 hg1 hj hE (fun v hv=>by rw[hoj]at hv;cases hv) hE2 hb rd n ?_
   intro w3 G3 S3 x e3 H3
   exact hK _ _ ⟨G3,S3,H3,hand.keep _ _ _ _ _ _ _ _ _ hj hoj hszz e3 HΦ⟩
  | some v =>
   obtain ⟨rfl,hac,hgc⟩:=hov j v hoj
   obtain ⟨v1,v2,v3⟩:=h8 j _ (Nat.zero_le _) hj hoj
   obtain ⟨sj,hsj⟩:=hpre j hj hoj
   have hesj:es j=pre j:=by
    have:=h7 j (Nat.zero_le _) (Nat.le_of_lt hj)
    rw[List.drop_zero,hsj]at this
    exact (congrArg Prod.fst (Option.some.inj this)).symm
   have hlk:y51 G2 w2 ops j (pre j) a2:=by
    rw[← hesj]
    intro t ht
    rcases Nat.lt_or_ge t (es j).length with h1 | h1
    ·have:=H.look R hok hj hE hE2 hb ht (List.getElem?_eq_getElem h1)
     simpa[List.getD_eq_getElem?_getD,h1] using this
    ·rw[List.getD_eq_getElem?_getD,List.getElem?_eq_none h1];exact .bad _
   have hwant:Region.wanted (opAt ops j) (yielded ops a2.tmps)=true:=by simp[Region.wanted,hgc]
   unfold wpOpIn
   rw[z1b hj]
   simp only
   rw[if_pos hwant]
   refine hand.step E G w1 G2 w2 a2 S2 j hj hoj hE hE2 hb hI1.bin H.inv hg2 H.evo hszz hlk HΦ rd n K Q ?_
   intro G3 w3 x i3 e3 ev3 hphi
   exact hK _ _ ⟨G3,S2,H.stepX R hok hj hE (fun h hh=>by rw[v3]at hh;exact R.fresh hj hh) (.inl hac) i3 e3 ev3 (by rw[v1];exact .bad _),hphi⟩
 ·rintro a2 w2 E hall ⟨G2,S2,H,HΦ⟩
  have hI2:Inv G2 w2 (Ss ops.size):=H.inv.congr (fun k x=>(H.at R (Nat.le_refl _) (fun i hi _=>hall i hi) (fun i h1 h2=>by omega)) x) (H.tsAt R (Nat.le_refl _) (fun i hi _=>hall i hi) (fun i h1 h2=>by have:=H.lt i h2;omega))
  have hER:ER G2 w2 (es ops.size) a2:=by
   refine ⟨by rw[H.sz,R.elen (Nat.le_refl _)],fun t x hx=>?_⟩
   have hlen:t < env.length:=by
    have:=(List.getElem?_eq_some_iff.1 hx).1
    rwa[R.elen (Nat.le_refl _)]at this
   by_cases hex:∃ i,∃ hi:i < ops.size,(opAt ops i).dst=some t
   ·obtain ⟨i,hi,hd⟩:=hex
    have h1:=R.eset hi hd hlen
    have h2:(es ops.size)[t]?=(es (i+1))[t]?:=R.eget (by omega) (Nat.le_refl _) fun k o hk1 hk2 hk hkd=>by
     obtain ⟨hk3,rfl⟩:=z1q hk
     have:=z7n hok hk3 (Nat.lt_of_lt_of_le hi R.hN) hkd hd;omega
    rw[h2,h1]at hx
    cases hx
    exact H.d1 i _ t (hall i hi) (z1b (Nat.lt_of_lt_of_le hi R.hN)) hd hlen
   ·have hno:∀ (k:Nat) (o:Oper),k < ops.size→ops[k]?=some o→o.dst≠some t:=by
     intro k o hk1 hk hkd
     obtain ⟨_,rfl⟩:=z1q hk
     exact hex ⟨k,hk1,hkd⟩
    have h2:(es ops.size)[t]?=(es 0)[t]?:=R.eget (Nat.zero_le _) (Nat.le_refl _) fun k o _ hkN hk=>hno k o hkN hk
    rw[h2,R.e0]at hx
    exact H.d2 t x (fun k o hk hko=>hno k o (H.lt k hk) hko) hx
  rw[h5]at hER
  rw[h6]at hI2
  exact hQ E w1 G2 a2 w2 hall hh1 hE1 hI2 H.evo hER H.dfr HΦ
 ·have:=List.count_le_length (a:=false) (l:=(Array.replicate ops.size false).toList)
  simp at this ⊢
 ·intro j o hj
  exact absurd hj (z5b _ _)
 ·have hno:∀ i,¬ ((Array.replicate ops.size false).getD i false=true):=z5b _
  exact ⟨G,S,{
   lt:=fun i hi=>absurd hi (hno i)
   inv:=hI1
   evo:=Evo.refl _ _
   dfr:=hd
   sz:=he1.1
   un:=fun h _=>SameAt.refl _ _
   la:=fun h i hi=>absurd hi (hno i)
   ts0:=fun _=>rfl
   ts1:=fun i o hi=>absurd hi (hno i)
   d1:=fun i o t hi=>absurd hi (hno i)
   d2:=fun t x _ hx=>he1.2 t x hx },h0 _ _ hno hh1⟩

def z2v (ks:List Int):List (AV×AV):=ks.map fun k=>(.int .i64 k,.bool true)
def z1k (k:Int)(ks:List Int):List Int:=if k∈ks then ks else ks++[k]
theorem x1o (k k':Int):z2y (.int .i64 k) (.int .i64 k')=some (decide (k=k')):=by
 simp only[z2y,Option.some.injEq];by_cases h:k=k'<;>simp[h]
theorem y32 (k:Int):∀ ks:List Int,z08 (.int .i64 k) (.bool true) (z2v ks)=z2v (z1k k ks)
 | []=>by simp[z2v,z1k,z08]
 | k'::ks=>by
  have ih:=y32 k ks
  show z08 _ _ ((.int .i64 k',.bool true)::z2v ks)=_
  simp only[z08,x1o]
  by_cases e:k=k'
  ·subst e
   simp[z1k,z2v]
  ·simp only[e,decide_false]
   rw[if_neg (by simp),ih]
   unfold z1k
   by_cases hm:k∈ks
   ·rw[if_pos hm,if_pos (List.mem_cons_of_mem _ hm)];rfl
   ·rw[if_neg hm,if_neg (by simp[e,hm])];simp[z2v]
theorem z3f {k:Int}{ks:List Int}(h:ks.Nodup):(z1k k ks).Nodup:=by
 unfold z1k
 split
 ·exact h
 ·rename_i hn
  rw[List.nodup_append]
  exact ⟨h,by simp,fun a ha b hb=>by rintro rfl;simp at hb;exact hn (hb ▸ ha)⟩
theorem z3d {k x:Int}{ks:List Int}:x∈z1k k ks↔x∈ks∨x=k:=by
 unfold z1k
 split
 ·exact ⟨.inl,fun h=>h.elim id fun e=>e ▸ ‹_›⟩
 ·simp
variable {G G' G0:Gh}{w w' w0:World}{S:St}{b:Nat}
theorem HR.permE {es es':List (AV×AV)}{o:Obj}(hp:es.Perm es')(h:HR G w (.map es) o):HR G w (.map es') o:=by
 cases h with
 | map _ ms clock p hpp hs hst hms =>
  have key:∀ {es es':List (AV×AV)},es.Perm es'→∀ p:List MapEntry,p.length=es.length→(∀ (i:Nat) (k v:AV),es[i]?=some (k,v)→∃ m:MapEntry,p[i]?=some m∧VR G w k m.key∧VR G w v m.val) →
    ∃ p':List MapEntry,p'.Perm p∧p'.length=es'.length∧∀ (i:Nat) (k v:AV),es'[i]?=some (k,v)→∃ m:MapEntry,p'[i]?=some m∧VR G w k m.key∧VR G w v m.val:=by
   intro es es' hp
   induction hp with
   | nil=>intro p hl h;exact ⟨p,.refl _,hl,h⟩
   | cons x hp ih =>
    intro p hl h
    cases p with
    | nil=>simp at hl
    | cons m p =>
     obtain ⟨p',h1,h2,h3⟩:=ih p (by simpa using hl) fun i k v hi=>h (i+1) k v (by simpa using hi)
     refine ⟨m::p',h1.cons m,by simp[h2],fun i k v hi=>?_⟩
     cases i with
     | zero=>exact h 0 k v (by simpa using hi)
     | succ i=>exact h3 i k v (by simpa using hi)
   | swap x y l =>
    intro p hl h
    match p,hl with
    | m1::m2::p,hl =>
     refine ⟨m2::m1::p,.swap _ _ _,by simpa using hl,fun i k v hi=>?_⟩
     match i with
     | 0=>exact h 1 k v (by simpa using hi)
     | 1=>exact h 0 k v (by simpa using hi)
     | i+2=>exact h (i+2) k v (by simpa using hi)
   | trans h1 h2 ih1 ih2 =>
    intro p hl h
    obtain ⟨p1,a1,a2,a3⟩:=ih1 p hl h
    obtain ⟨p2,b1,b2,b3⟩:=ih2 p1 a2 a3
    exact ⟨p2,b1.trans a1,b2,b3⟩
  obtain ⟨p',h1,h2,h3⟩:=key hp p hs hms
  exact .map es' ms clock p' (h1.trans hpp) h2 hst h3

def MapV (ks:List Int)(w0:World)(G:Gh)(w:World)(b:Nat):Prop:=w0.heap.size≤b∧b < w.heap.size∧FreeB G b∧∃ o,w.heap[b]?=some o∧HR G w (.map (z2v ks)) o
theorem MapV.mono {ks:List Int}(hE:Evo G w G' w')(h:MapV ks w0 G w b):MapV ks w0 G' w' b:=by
 obtain ⟨h1,h2,h3,o,h4,h5⟩:=h
 exact ⟨h1,Nat.lt_of_lt_of_le h2 hE.size,h3.evo hE h2,o,by rw[hE.frame b h2 h3.1 h3.2.1];exact h4,h5.mono hE⟩

theorem x3k (hI:Inv G w S){x:HB}{o:Obj}(hf:FreeB G b)(hB:G.B≤b)(hbk:w.heap[b]?=some o)(hr:HR G w x o) :
  Inv (G.bind S.hs.length b) w (S.push x)∧Ext G w (G.bind S.hs.length b) w∧∀ G0 w0,Evo G0 w0 G w→w0.heap.size≤b→Evo G0 w0 (G.bind S.hs.length b) w:=by
 have hn:G.σ S.hs.length=none:=hI.σ_len
 have hne:∀ {k},k≠S.hs.length→(G.bind S.hs.length b).σ k=G.σ k:=fun e=>upd_ne _ _ e
 have heq:(G.bind S.hs.length b).σ S.hs.length=some b:=upd_same _ _ _
 have hX:Ext G w (G.bind S.hs.length b) w:=⟨fun _ _ h=>h,fun _ _ _=>rfl,fun h b' hb=>by
  have e:h≠S.hs.length:=by rintro rfl;rw[hn]at hb;cases hb
  rw[hne e];exact hb,fun k b c m z h=>⟨b,c,m,h,.inl ⟨rfl,rfl,rfl⟩⟩⟩
 have hp:∀ k y,k≠S.hs.length→((S.push x).hs[k]?=some (some y)↔S.hs[k]?=some (some y)):=by
  intro k y hk
  simp only[St.push]
  rcases Nat.lt_or_ge k S.hs.length with h1 | h1
  ·rw[List.getElem?_append_left h1]
  ·rw[List.getElem?_eq_none (by simp;omega),List.getElem?_eq_none h1]
 refine ⟨{
  blk:=fun k y hk=>by
   by_cases e:k=S.hs.length
   ·subst e
    simp[St.push]at hk
    subst hk
    exact ⟨b,o,heq,hbk,hr.ext hX⟩
   ·obtain ⟨b1,o1,h1,h2,h3⟩:=hI.blk _ _ ((hp k y e).1 hk)
    exact ⟨b1,o1,by rw[hne e];exact h1,h2,h3.ext hX⟩
  dom:=fun k b1 hk=>by
   by_cases e:k=S.hs.length
   ·subst e;exact ⟨x,by simp[St.push]⟩
   ·rw[hne e]at hk
    obtain ⟨y,hy⟩:=hI.dom _ _ hk
    exact ⟨y,(hp k y e).2 hy⟩
  inj:=fun k k' b1 h1 h2=>by
   by_cases e:k=S.hs.length<;>by_cases e':k'=S.hs.length
   ·rw[e,e']
   ·subst e
    rw[heq]at h1;cases h1
    rw[hne e']at h2
    exact absurd h2 (hf.1 _)
   ·subst e'
    rw[heq]at h2;cases h2
    rw[hne e]at h1
    exact absurd h1 (hf.1 _)
   ·rw[hne e]at h1
    rw[hne e']at h2
    exact hI.inj _ _ _ h1 h2
  fr:=fun k b1 o1 hk=>by
   by_cases e:k=S.hs.length
   ·subst e;rw[heq]at hk;cases hk;exact hf.2.2 _
   ·rw[hne e]at hk;exact hI.fr _ _ _ hk
  base:=fun k b1 hk=>by
   by_cases e:k=S.hs.length
   ·subst e;rw[heq]at hk;cases hk;exact hB
   ·rw[hne e]at hk;exact hI.base _ _ hk
  tok:=hI.tok
  tdom:=hI.tdom
  tinj:=hI.tinj
  tσ:=fun k b1 c m z h' hk hh=>by
   by_cases e:h'=S.hs.length
   ·subst e;rw[heq]at hh;cases hh;exact hf.2.1 _ _ _ _ hk
   ·rw[hne e]at hh;exact hI.tσ _ _ _ _ _ _ hk hh
  kin:=hI.kin
  bin:=hI.bin },hX,fun G0 w0 hE hb0=>{
  k:=hE.k,cell:=hE.cell
  σ:=fun k b1 hk=>hX.σ _ _ (hE.σ _ _ hk)
  σn:=fun k b1 hk=>by
   by_cases e:k=S.hs.length
   ·subst e;rw[heq]at hk;cases hk;exact .inr hb0
   ·rw[hne e]at hk;exact hE.σn _ _ hk
  tk:=hE.tk,tkn:=hE.tkn,kn:=hE.kn,B:=hE.B,size:=hE.size,os:=hE.os,tape:=hE.tape,output:=hE.output,frame:=hE.frame }⟩

theorem MapV.insert {ks:List Int}{t kt et:TypeId}{k:Int}(hu:C.P.underlying t=some (.map kt et))(hkt:C.P.underlying kt=some (.int .i64))(hI:Inv G w S)(hE0:Evo G0 w0 G w)(hB:G0.B≤w0.heap.size)(h:MapV ks w0 G w b) :
  ∃ w',(Instr.mapUpdate t (.map (some b)) (.int .i64 k) (.bool true)).run C.P w=.ok () w'∧Inv G w' S∧Ext G w G w'∧Evo G0 w0 G w'∧MapV (z1k k ks) w0 G w' b:=by
 obtain ⟨h1,h2,h3,o,h4,h5⟩:=h
 obtain ⟨i1,x1,e1⟩:=x3k hI h3 (by rw[hE0.B];omega) h4 h5
 obtain ⟨w',r1,i2,e2⟩:=z9j (C:=C) i1 (h:=S.hs.length) (es:=z2v ks) (k:=.int .i64 k) (v:=.bool true) hu (by simp[St.push]) hkt rfl (by simp[z2v,z09]) (.mp _ b (upd_same _ _ _)) (.int _ _) (.bool true)
 rw[y32]at i2
 have hlt:∀ {h b'},G.σ h=some b'→h < S.hs.length:=fun hb=>hI.σ_lt hb
 have hcut:(G.bind S.hs.length b).cut S.hs.length=G:=by
  have:(fun h=>if h < S.hs.length then (G.bind S.hs.length b).σ h else none)=G.σ:=by
   funext h
   split
   ·rename_i q;exact upd_ne _ _ (by omega)
   ·rename_i q
    cases hh:G.σ h with
    | none=>rfl
    | some b'=>exact absurd (hlt hh) q
  show ({ (G.bind S.hs.length b) with σ:=fun h=>if h < S.hs.length then (G.bind S.hs.length b).σ h else none }:Gh)=G
  rw[this];rfl
 have hS:∀ (k':Nat) (x:HB),k' < S.hs.length→(((S.push (.map (z2v ks))).put S.hs.length (.map (z2v (z1k k ks)))).hs[k']?=some (some x)↔S.hs[k']?=some (some x)):=by
  intro k' x hk'
  simp only[St.put,St.push]
  rw[List.getElem?_set_ne (by omega),List.getElem?_append_left hk']
 have i3:=Inv.cut (n:=S.hs.length) (S0:=S) i2 (fun k' x hk'=>have:=(List.getElem?_eq_some_iff.1 hk').1; ⟨this,(hS k' x this).2 hk'⟩) (fun k' x hlt' hk'=>(hS k' x hlt').1 hk') rfl (fun k' x hk' o1 b1 hb1 _ hr=>hr.cut (by
  obtain ⟨b2,o2,g1,g2,g3⟩:=hI.blk _ _ hk'
  exact g3.noHB fun h b' hb=>hlt hb))
 rw[hcut]at i3
 have hX:Ext G w G w':=⟨fun _ _ h=>h,fun b' o' hK=>e2.cell _ _ hK,fun _ _ h=>h,fun k b c m z h=>⟨b,c,m,h,.inl ⟨rfl,rfl,rfl⟩⟩⟩
 have hE:Evo G0 w0 (G.bind S.hs.length b) w':=(e1 G0 w0 hE0 h1).trans e2
 refine ⟨w',r1,i3,hX,{ k:=hE0.k,cell:=hE.cell,σ:=hE0.σ,σn:=hE0.σn,tk:=hE0.tk,tkn:=hE0.tkn,kn:=hE0.kn,B:=hE0.B,size:=hE.size,os:=hE.os,tape:=hE.tape,output:=hE.output,frame:=hE.frame },h1,Nat.lt_of_lt_of_le h2 e2.size,h3,?_⟩
 obtain ⟨b2,o2,g1,g2,g3⟩:=i2.blk S.hs.length (.map (z2v (z1k k ks))) (by simp[St.put,St.push])
 rw[show (G.bind S.hs.length b).σ S.hs.length=some b from upd_same _ _ _]at g1
 cases g1
 refine ⟨o2,g2,?_⟩
 have:=g3.cut (n:=S.hs.length) (by simp[noHB,z2v,noH])
 rwa[hcut]at this

theorem z9z {o:Oper}{a:Act}{w w':World}{r:Next}(hd:∀ c,o.op≠.defer c)(hr:(execOp a.eval o).run C.P w=.ok r w')(rd:Option Nat)(n:Nat){next:Act→World→Prop}{Q:Exit→Act→World→Prop}
  (hnext:(∃ v,r=.value v∧next (a.put o.dst v) w')∨(r=.skip∧next (a.put o.dst undef) w')):o.wpIn (WF rd) n C.P a w next Q:=by
 refine ⟨fun _ _=>trivial,?_⟩
 rw[Oper.semAt_eq _ _ _ hd,hr]
 rcases hnext with ⟨v,rfl,h⟩ | ⟨rfl,h⟩
 ·exact h
 ·exact h
end
end Go.Ev
