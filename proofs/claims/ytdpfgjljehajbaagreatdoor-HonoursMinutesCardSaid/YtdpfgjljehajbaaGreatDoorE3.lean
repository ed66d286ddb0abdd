/- An evaluator of the model, part 3: calls, frames, data that came in. -/
import Derived.Test.YtdpfgjljehajbaaGreatDoorE2
import Derived.ControlIn
import Derived.OpenShut
import Derived.ChangeBears
set_option linter.unusedVariables false
set_option linter.unusedSimpArgs false
namespace Go.Ev
open Go.RowKit

structure Wl (S S':St):Prop where
 hl:S.hs.length≤S'.hs.length
 tl:S.ts.length≤S'.ts.length
 mono:∀ h,h∈S.wl→h∈S'.wl
 keep:∀ h,h < S.hs.length→h∉S'.wl→S'.hs[h]?=S.hs[h]?
theorem Wl.refl (S:St):Wl S S:=⟨Nat.le_refl _,Nat.le_refl _,fun _ h=>h,fun _ _ _=>rfl⟩
theorem Wl.trans {S S' S'':St}(h:Wl S S')(k:Wl S' S''):Wl S S'' :=
 ⟨Nat.le_trans h.hl k.hl,Nat.le_trans h.tl k.tl,fun _ hh=>k.mono _ (h.mono _ hh),fun x hx hn=>(k.keep x (Nat.lt_of_lt_of_le hx h.hl) hn).trans (h.keep x hx fun e=>hn (k.mono _ e))⟩

theorem Wl.push (S:St)(x:HB):Wl S (S.push x):=⟨by simp[St.push],Nat.le_refl _,fun _ h=>h,fun h hl _=>by simp only[St.push];rw[List.getElem?_append_left hl]⟩
theorem Wl.put (S:St)(h:Nat)(x:HB):Wl S (S.put h x):=by
 have hw:∀ k,k∈(S.put h x).wl↔k∈S.wl∨k=h:=by
  intro k
  simp only[St.put]
  split
  ·rename_i hc
   have hc:h∈S.wl:=by simpa using hc
   exact ⟨.inl,fun e=>e.elim id fun e=>e ▸ hc⟩
  ·rw[List.mem_cons];exact or_comm
 refine ⟨by simp[St.put],Nat.le_refl _,fun k hk=>(hw k).2 (.inl hk),fun k hl hn=>?_⟩
 simp only[St.put]
 rw[List.getElem?_set_ne]
 intro e
 exact hn ((hw k).2 (.inr e.symm))
theorem Wl.ts (S:St)(l:List (Nat×(Nat×Nat)))(h:S.ts.length≤l.length):Wl S { S with ts:=l }:=⟨Nat.le_refl _,h,fun _ h=>h,fun _ _ _=>rfl⟩

section
variable {C:Cx}{sf:Self}{ops:Array Oper}

theorem x1y {S S':St}{t tx:TypeId}{s x a:AV}(h:z2e C S t tx s x=some (a,S')):Wl S S':=by
 unfold z2e at h
 repeat' (split at h<;>(first | cases h;done | skip))
 all_goals (first | (cases h;first | exact Wl.refl _ | exact Wl.ts _ _ (by simp)) | skip)

theorem z6j {S S':St}{ev:Operand→AV}{o:Op}{a:AV}(h:stOp C S ev o=some (a,S')):Wl S S':=by
 unfold stOp at h
 split at h
 all_goals (repeat' (split at h<;>(first | (cases h;done) | skip)))
 all_goals (first
  | (cases h;first | exact Wl.push _ _ | exact Wl.put _ _ _ | exact Wl.refl _ | exact Wl.ts _ _ (by simp))
  | exact x1y h
  | exact absurd h (by simp)
  | skip)

structure SelfW (sf:Self):Prop where
 call:∀ (g:FuncId) args S r S',sf.call g args S=some (r,S')→Wl S S'
 loop:∀ c env S x env' S',sf.loop c env S=some (x,env',S')→Wl S S'
def HkW (C:Cx):Prop:=∀ (g:FuncId) (f:List AV→St→Option (CR×St)),C.hk g=some f→∀ args S r S',f args S=some (r,S')→Wl S S'

theorem x4z (hk:HkW C)(hs:SelfW sf){g:FuncId}{args:List AV}{S S':St}{r:CR}(h:z7z C sf g args S=some (r,S')):Wl S S':=by
 unfold z7z at h
 split at h
 ·cases h;exact Wl.refl _
 ·unfold y3p at h
  split at h
  ·rename_i f hf;exact hk g f hf _ _ _ _ h
  ·exact hs.call _ _ _ _ _ h

theorem x2s (hk:HkW C)(hs:SelfW sf){S S':St}{ev:Operand→AV}{o:Op}{r:CR}(h:opA C sf S ev o=some (r,S')):Wl S S':=by
 unfold opA at h
 split at h
 ·split at h
  ·split at h<;>try cases h
   exact x4z hk hs h
  ·split at h
   ·cases h;exact Wl.refl _
   ·split at h<;>cases h
    rename_i hst;exact z6j hst
 ·split at h<;>cases h
  exact Wl.refl _
 ·split at h
  ·cases h;exact Wl.refl _
  ·split at h<;>cases h
   rename_i hst;exact z6j hst

theorem z9k (hk:HkW C)(hs:SelfW sf):∀ (rest:List Oper) (env:Env) (S:St) (x:EX) (env':Env) (S':St),z2g C sf ops rest env S=some (x,env',S')→Wl S S'
 | [],env,S,x,env',S',h=>by simp only[z2g,Option.some.injEq,Prod.mk.injEq]at h;obtain ⟨_,_,rfl⟩:=h;exact Wl.refl _
 | o::rest,env,S,x,env',S',h=>by
  simp only[z2g]at h
  split at h
  ·split at h
   ·rename_i hop;exact (x2s hk hs hop).trans (z9k hk hs rest _ _ _ _ _ h)
   ·rename_i hop;cases h;exact x2s hk hs hop
   ·cases h
  ·exact z9k hk hs rest _ _ _ _ _ h
  ·cases h

theorem y69 {S0 S S':St}{D D':DN}{j:Nat}{ev:Operand→AV}{o:Op}{v:AV}(hh:z1n C sf ops S0 S D j ev o=some (v,S',D')):Wl S S':=by
 unfold z1n at hh
 split at hh
 ·split at hh<;>try cases hh
  split at hh<;>try cases hh
  split at hh<;>cases hh
  rename_i h;exact z6j h
 ·split at hh<;>cases hh
  rename_i h;exact z6j h
 ·split at hh<;>cases hh
  rename_i h;exact z6j h
 ·split at hh<;>cases hh
  rename_i h;exact z6j h
 ·split at hh<;>try cases hh
  split at hh<;>try cases hh
  split at hh<;>cases hh
  rename_i h;exact z6j h
 ·split at hh
  ·split at hh<;>try cases hh
   split at hh<;>cases hh
   exact Wl.refl _
  ·split at hh<;>cases hh
   exact Wl.refl _
 ·split at hh<;>cases hh
  exact Wl.refl _
 ·split at hh
  ·split at hh<;>try cases hh
   split at hh<;>try cases hh
   split at hh<;>try cases hh
   split at hh<;>cases hh
   exact Wl.refl _
  ·split at hh<;>try cases hh
   split at hh<;>try cases hh
   split at hh<;>cases hh
   rename_i h;exact z6j h
  ·split at hh<;>cases hh
   exact Wl.refl _
 ·split at hh<;>cases hh
  exact Wl.refl _

theorem z8g {S0:St}:∀ (rest:List Oper) (j:Nat) (env:Env) (S:St) (D:DN) (env':Env) (S':St),z11 C sf ops S0 rest j env S D=some (env',S')→Wl S S'
 | [],j,env,S,D,env',S',h=>by simp only[z11,Option.some.injEq,Prod.mk.injEq]at h;obtain ⟨_,rfl⟩:=h;exact Wl.refl _
 | o::rest,j,env,S,D,env',S',h=>by
  simp only[z11]at h
  split at h
  ·split at h<;>try cases h
   rename_i hop;exact (y69 hop).trans (z8g rest _ _ _ _ _ _ h)
  ·exact z8g rest _ _ _ _ _ _ h
  ·cases h

theorem z9m (hk:HkW C)(hs:SelfW sf):∀ (c:Code) (env:Env) (S:St) (x:EX) (env':Env) (S':St),evC C sf c env S=some (x,env',S')→Wl S S':=by
 intro c
 induction c<;>intro env S x env' S' h
 case skip=>simp only[evC,Option.some.injEq,Prod.mk.injEq]at h;obtain ⟨_,_,rfl⟩:=h;exact Wl.refl _
 case region id ops d =>
  cases d
  ·simp only[evC]at h;exact z9k hk hs _ _ _ _ _ _ h
  ·simp only[evC]at h
   split at h
   ·split at h<;>try cases h
    rename_i h1
    exact (z8g _ _ _ _ _ _ _ h1).trans (z9k hk hs _ _ _ _ _ _ h)
   ·split at h<;>cases h
    rename_i h1
    exact z8g _ _ _ _ _ _ _ h1
 case seq a b iha ihb =>
  simp only[evC]at h
  split at h
  ·rename_i h1;exact (iha _ _ _ _ _ h1).trans (ihb _ _ _ _ _ h)
  ·exact iha _ _ _ _ _ h
 case cond c t e iht ihe =>
  simp only[evC]at h
  split at h<;>try cases h
  split at h
  ·exact iht _ _ _ _ _ h
  ·exact ihe _ _ _ _ _ h
 case block id c ih =>
  simp only[evC]at h
  split at h
  ·rename_i h1
   split at h<;>(cases h;exact ih _ _ _ _ _ h1)
  ·exact ih _ _ _ _ _ h
 case loop c ih=>simp only[evC]at h;exact hs.loop _ _ _ _ _ _ h
 case exit id=>simp only[evC,Option.some.injEq,Prod.mk.injEq]at h;obtain ⟨_,_,rfl⟩:=h;exact Wl.refl _
 case ret=>simp only[evC,Option.some.injEq,Prod.mk.injEq]at h;obtain ⟨_,_,rfl⟩:=h;exact Wl.refl _
 all_goals (simp only[evC]at h;cases h)

theorem z62 {h:Nat}:∀ {ws l:List Nat},h∈z2i ws l↔h∈ws∨h∈l
 | [],l=>by simp[z2i]
 | k::ws,l=>by
  simp only[z2i]
  rw[z62]
  split
  ·rename_i hc
   have hc:k∈l:=by simpa using hc
   constructor
   ·rintro (h1 | h1)
    ·exact .inl (List.mem_cons_of_mem _ h1)
    ·exact .inr h1
   ·rintro (h1 | h1)
    ·rcases List.mem_cons.1 h1 with rfl | h2
     ·exact .inr hc
     ·exact .inl h2
    ·exact .inr h1
  ·simp only[List.mem_cons]
   constructor
   ·rintro (h1 | h1 | h1)
    ·exact .inl (.inr h1)
    ·exact .inl (.inl h1)
    ·exact .inr h1
   ·rintro ((h1 | h1) | h1)
    ·exact .inr (.inl h1)
    ·exact .inl h1
    ·exact .inr (.inr h1)

theorem y3x {tb:Nat}:∀ (ws:List Nat) (hs:List (Option HB)),(z3m tb ws hs).length=hs.length
 | [],hs=>rfl
 | h::ws,hs=>by
  simp only[z3m]
  rw[y3x]
  split<;>simp
theorem y1z {tb k:Nat}:∀ (ws:List Nat) (hs:List (Option HB)),k∉ws→(z3m tb ws hs)[k]?=hs[k]?
 | [],hs,_=>rfl
 | h::ws,hs,hk=>by
  simp only[z3m]
  rw[y1z _ _ fun e=>hk (List.mem_cons_of_mem _ e)]
  split
  ·rw[List.getElem?_set_ne];intro e;exact hk (e ▸ List.mem_cons_self)
  ·rfl
mutual
theorem y03 {tb:Nat}:∀ (a:AV),scrub tb (scrub tb a)=scrub tb a
 | .agg l=>by simp[scrub,z3h l]
 | .tup l=>by simp[scrub,z3h l]
 | .vs l n t=>by
  simp only[scrub,z3h l]
  congr 1
  cases t with
  | none=>rfl
  | zero=>rfl
  | own k=>by_cases hk:k < tb<;>simp[Tok.scrub,hk]
 | .vp l=>by simp[scrub,z3h l]
 | .fn f x y=>by simp[scrub,z3h x,z3h y]
 | .ifc t v=>by simp[scrub,y03 v]
 | .bad | .int _ _ | .bool _ | .str _ | .raw _ | .ptr _ _ | .row _ _ _ _ | .mp _=>by simp[scrub]
theorem z3h {tb:Nat}:∀ (l:List AV),z0e tb (z0e tb l)=z0e tb l
 | []=>rfl
 | a::l=>by simp[z0e,y03 a,z3h l]
end
theorem y73 {tb:Nat}(x:HB):z0n tb (z0n tb x)=z0n tb x:=by
 cases x with
 | cells l t=>simp[z0n,z3h]
 | map es=>simp[z0n,y03]
 | iter s p=>rfl
theorem z7u {tb k:Nat}{x:HB}:∀ (ws:List Nat) (hs:List (Option HB)),hs[k]?=some (some x)→(z3m tb ws hs)[k]?=some (some (if k∈ws then z0n tb x else x))
 | [],hs,h=>by simp[z3m,h]
 | j::ws,hs,h=>by
  simp only[z3m]
  by_cases e:j=k
  ·subst e
   rw[h]
   simp only
   have hlt:=(List.getElem?_eq_some_iff.1 h).1
   rw[z7u ws _ (x:=z0n tb x) (by rw[List.getElem?_set_self hlt])]
   simp[y73]
  ·have hne:k≠j:=Ne.symm e
   have hm:(k∈j::ws)=(k∈ws):=by simp[hne]
   simp only[hm]
   refine z7u ws _ ?_
   split
   ·rw[List.getElem?_set_ne e];exact h
   ·exact h
theorem y3y {tb k:Nat}{y:HB}:∀ (ws:List Nat) (hs:List (Option HB)),(z3m tb ws hs)[k]?=some (some y)→∃ x,hs[k]?=some (some x)
 | [],hs,h=>⟨y,h⟩
 | j::ws,hs,h=>by
  simp only[z3m]at h
  obtain ⟨x,hx⟩:=y3y ws _ h
  split at hx
  ·rename_i z hz
   by_cases e:j=k
   ·subst e;exact ⟨z,hz⟩
   ·rw[List.getElem?_set_ne e]at hx;exact ⟨x,hx⟩
  ·exact ⟨x,hx⟩

theorem y8o {S0 S':St}(h:S0.ts.length≤S'.ts.length):S0.ts.length≤z8p S0 S':=by
 unfold z8p
 split
 ·exact Nat.le_refl _
 ·exact h

theorem z5o {S0 S':St}{r:AV}(h:Wl { S0 with wl:=[] } S'):Wl S0 (finish C S0 S' r).2:=by
 have h1:S0.hs.length≤S'.hs.length:=h.hl
 have h2:S0.ts.length≤S'.ts.length:=h.tl
 have h3:=y8o h2
 have hother:Wl S0 { S' with wl:=z2i S'.wl S0.wl } :=
  ⟨h1,h2,fun k hk=>z62.2 (.inr hk),fun k hk hn=>h.keep k hk fun e=>hn (z62.2 (.inl e))⟩
 unfold finish
 split
 ·split
  ·refine ⟨by simp[y3x];omega,by simp;omega,fun k hk=>z62.2 (.inr hk),fun k hk hn=>?_⟩
   simp only
   rw[List.getElem?_take_of_lt hk]
   have hnw:k∉S'.wl.filter fun h=>decide (h < S0.hs.length):=fun e=>hn (z62.2 (.inl e))
   rw[y1z _ _ hnw]
   refine h.keep k hk fun e=>hnw ?_
   rw[List.mem_filter]
   exact ⟨e,by simpa using hk⟩
  ·exact hother
 ·exact hother

theorem x42 (hk:HkW C)(hs:SelfW sf){g:FuncId}{args:List AV}{S S':St}{r:CR}(h:y1p C sf g args S=some (r,S')):Wl S S':=by
 unfold y1p at h
 split at h<;>try cases h
 split at h<;>try cases h
 split at h
 ·rename_i h1
  split at h<;>cases h
  exact z5o (z9m hk hs _ _ _ _ _ _ h1)
 ·rename_i h1
  split at h<;>cases h
  exact z5o (z9m hk hs _ _ _ _ _ _ h1)
 ·rename_i h1
  cases h
  exact z5o (z9m hk hs _ _ _ _ _ _ h1)
 ·cases h

theorem x4k (hk:HkW C)(hs:SelfW sf){c:Code}{env env':Env}{S S':St}{x:EX}(h:y1c C sf c env S=some (x,env',S')):Wl S S':=by
 unfold y1c at h
 split at h
 ·rename_i h1;exact (z9m hk hs _ _ _ _ _ _ h1).trans (hs.loop _ _ _ _ _ _ h)
 ·exact z9m hk hs _ _ _ _ _ _ h

theorem z6b (hk:HkW C):∀ n,SelfW (lev C n)
 | 0=>⟨fun _ _ _ _ _ h=>by simp[lev]at h,fun _ _ _ _ _ _ h=>by simp[lev]at h⟩
 | n+1=>⟨fun _ _ _ _ _ h=>x42 hk (z6b hk n) h,fun _ _ _ _ _ _ h=>x4k hk (z6b hk n) h⟩
end
end Go.Ev
namespace Go.Ev
open Go.RowKit

section
variable {C:Cx}{G:Gh}{w:World}{S:St}

def Gh.pubK (G:Gh)(b:Nat):Gh:={ G with K:=fun bl o=>G.K bl o∨∃ h,b≤h∧G.σ h=some bl }
theorem z9c (G:Gh)(w:World)(b:Nat):Ext G w (G.pubK b) w :=
 ⟨fun _ _ h=>.inl h,fun _ _ _=>rfl,fun _ _ h=>h,fun k bl c m z h=>⟨bl,c,m,h,.inl ⟨rfl,rfl,rfl⟩⟩⟩

theorem z3s {b:Nat}{a:AV}{v:Value}(h:VR G w a v)(hn:noH b a=true):VR ((G.pubK b).cut b) w a v:=(h.ext (z9c G w b)).cut hn

mutual
theorem z9s (hI:Inv G w S){b:Nat}:∀ (a:AV) {a':AV} {v:Value},pub C S.hs b a=some a'→VR G w a v→VR ((G.pubK b).cut b) w a' v
 | .agg l,a',v,h,hv=>by
  simp only[pub]at h
  obtain ⟨l',hl,rfl⟩:=Option.map_eq_some_iff.1 h
  cases hv with
  | agg _ cs hs hh=>
   obtain ⟨q1,q2⟩:=y07 hI l (f:=fun i=>cs.getD i undef) hl hh
   exact .agg _ cs (by rw[hs,q1]) q2
 | .tup l,a',v,h,hv=>by
  simp only[pub]at h
  obtain ⟨l',hl,rfl⟩:=Option.map_eq_some_iff.1 h
  cases hv with
  | tup _ cs hs hh=>
   obtain ⟨q1,q2⟩:=y07 hI l (f:=fun i=>cs.getD i undef) hl hh
   exact .tup _ cs (by rw[hs,q1]) q2
 | .row h off n c,a',v,hp,hv=>by
  simp only[pub]at hp
  split at hp
  ·rename_i hlt
   cases hp
   exact z3s hv (by simpa[noH] using hlt)
  ·rename_i hge
   split at hp<;>try cases hp
   rename_i l e hl
   split at hp<;>try cases hp
   rename_i sz hsz
   split at hp<;>try cases hp
   rename_i hc
   obtain ⟨hc1,hc2,hc3⟩:=hc
   split at hp<;>cases hp
   rename_i hno
   cases hv with
   | row _ _ _ _ bl hσ hnc =>
    obtain ⟨bl',o,h1,h2,h3⟩:=hI.blk _ _ hl
    rw[hσ]at h1;cases h1
    cases h3 with
    | cells _ _ cs hs hh =>
     have hlen:((l.drop off).take (n*sz)).length=n*sz:=by simp;omega
     refine .vs _ n .none _ c (fun i=>cs.getD (off+i) undef) hc2 (fun i x hx=>?_) (.inr ⟨⟨bl,off,none⟩,rfl,rfl,fun i hi=>⟨.inr ⟨h,by omega,hσ⟩,?_⟩⟩) trivial
     ·have hi:i < n*sz:=by
       have:=(List.getElem?_eq_some_iff.1 hx).1
       rwa[hlen]at this
      have hx':l[off+i]?=some x:=by
       rw[List.getElem?_take_of_lt hi,List.getElem?_drop]at hx;exact hx
      exact ((hh _ _ hx').ext (z9c G w b)).cut (z1a hno hx)
     ·rw[hlen]at hi
      have hlt:off+i < cs.size:=by rw[hs];omega
      simp[World.cell?,h2,Array.getD,hlt]
 | .vs l n t,a',v,h,hv=>by
  simp only[pub]at h;split at h<;>cases h
  rename_i hn;exact z3s hv hn
 | .vp l,a',v,h,hv=>by
  simp only[pub]at h;split at h<;>cases h
  rename_i hn;exact z3s hv hn
 | .ptr x y,a',v,h,hv=>by
  simp only[pub]at h;split at h<;>cases h
  rename_i hn;exact z3s hv hn
 | .mp x,a',v,h,hv=>by
  simp only[pub]at h;split at h<;>cases h
  rename_i hn;exact z3s hv hn
 | .fn f x y,a',v,h,hv=>by
  simp only[pub]at h;split at h<;>cases h
  rename_i hn;exact z3s hv hn
 | .ifc t x,a',v,h,hv=>by
  simp only[pub]at h;split at h<;>cases h
  rename_i hn;exact z3s hv hn
 | .bad,a',v,h,hv=>by
  simp only[pub]at h;split at h<;>cases h
  rename_i hn;exact z3s hv hn
 | .int _ _,a',v,h,hv=>by
  simp only[pub]at h;split at h<;>cases h
  rename_i hn;exact z3s hv hn
 | .bool _,a',v,h,hv=>by
  simp only[pub]at h;split at h<;>cases h
  rename_i hn;exact z3s hv hn
 | .str _,a',v,h,hv=>by
  simp only[pub]at h;split at h<;>cases h
  rename_i hn;exact z3s hv hn
 | .raw _,a',v,h,hv=>by
  simp only[pub]at h;split at h<;>cases h
  rename_i hn;exact z3s hv hn
theorem y07 (hI:Inv G w S){b:Nat}:∀ (l:List AV) {l':List AV} {f:Nat→Value},z97 C S.hs b l=some l'→(∀ (i:Nat) (a:AV),l[i]?=some a→VR G w a (f i))→l'.length=l.length∧∀ (i:Nat) (a:AV),l'[i]?=some a→VR ((G.pubK b).cut b) w a (f i)
 | [],l',f,h,hh=>by simp only[z97,Option.some.injEq]at h;subst h;simp
 | a::l,l',f,h,hh=>by
  simp only[z97]at h
  split at h<;>cases h
  rename_i a1 l1 h1 h2
  obtain ⟨q1,q2⟩:=y07 hI l (f:=fun i=>f (i+1)) h2 fun i a ha=>hh (i+1) a (by simpa using ha)
  refine ⟨by simp[q1],fun i x hx=>?_⟩
  cases i with
  | zero=>simp at hx;subst hx;exact z9s hI a h1 (hh 0 a rfl)
  | succ i=>exact q2 i x (by simpa using hx)
end

mutual
theorem VR.scrub_eq {tb:Nat}(hk:∀ k x,G.tk k=some x→k < tb):∀ (a:AV) {v:Value},VR G w a v→scrub tb a=a
 | .bad,v,h=>by simp[scrub]
 | .int k n,v,h=>by simp[scrub]
 | .bool b,v,h=>by simp[scrub]
 | .str b,v,h=>by simp[scrub]
 | .raw b,v,h=>by simp[scrub]
 | .agg l,v,h=>by
  cases h with
  | agg _ cs hs h=>simp only[scrub];rw[z4m hk l (f:=fun i=>cs.getD i undef) h]
 | .tup l,v,h=>by
  cases h with
  | tup _ cs hs h=>simp only[scrub];rw[z4m hk l (f:=fun i=>cs.getD i undef) h]
 | .vs l n t,v,h=>by
  cases h with
  | vs _ _ _ A c f hc h hh ht =>
   simp only[scrub]
   rw[z4m hk l (f:=f) h]
   cases t with
   | none=>rfl
   | zero=>rfl
   | own k =>
    obtain ⟨b,c',m,z,h1,_⟩:=ht
    simp[Tok.scrub,hk _ _ h1]
 | .vp l,v,h=>by
  cases h with
  | vp _ ad f h hh=>simp only[scrub];rw[z4m hk l (f:=f) h]
 | .ptr h o,v,hh=>by simp[scrub]
 | .row h o n c,v,hh=>by simp[scrub]
 | .mp h,v,hh=>by simp[scrub]
 | .fn f x y,v,h=>by
  cases h with
  | fn _ _ _ as bs ha hb h1 h2=>simp only[scrub];rw[z4m hk x (f:=fun i=>as.getD i undef) h1,z4m hk y (f:=fun i=>bs.getD i undef) h2]
 | .ifc t x,v,h=>by
  cases h with
  | ifc _ _ u h=>simp only[scrub];rw[VR.scrub_eq hk x h]
theorem z4m {tb:Nat}(hk:∀ k x,G.tk k=some x→k < tb):∀ (l:List AV) {f:Nat→Value},(∀ (i:Nat) (a:AV),l[i]?=some a→VR G w a (f i))→z0e tb l=l
 | [],f,h=>rfl
 | a::l,f,h=>by
  simp only[z0e]
  rw[VR.scrub_eq hk a (h 0 a rfl),z4m hk l (f:=fun i=>f (i+1)) fun i a ha=>h (i+1) a (by simpa using ha)]
end

theorem HR.scrub_eq {tb:Nat}(hk:∀ k x,G.tk k=some x→k < tb){x:HB}{o:Obj}(h:HR G w x o):z0n tb x=x:=by
 cases h with
 | cells l t cs hs h=>simp only[z0n];rw[z4m hk l (f:=fun i=>cs.getD i undef) h]
 | map es ms clock p hp hs hst h =>
  simp only[z0n]
  congr 1
  have:∀ e∈es,(scrub tb e.1,scrub tb e.2)=e:=by
   intro e he
   obtain ⟨i,hi⟩:=List.getElem?_of_mem he
   obtain ⟨m,h1,h2,h3⟩:=h i e.1 e.2 hi
   rw[VR.scrub_eq hk _ h2,VR.scrub_eq hk _ h3]
  rw[List.map_congr_left this,List.map_id'']
  intro x;rfl
 | iter s pos=>rfl

theorem HR.cutS {tb:Nat}{x:HB}{o:Obj}(h:HR G w x o):HR (G.cutT tb) w (z0n tb x) o:=by
 cases h with
 | cells l t cs hs h=>exact .cells _ t cs (by rw[hs,z3v (G:=G) (w:=w)]) fun i a ha=>z92 (Nat.le_refl _) l (f:=fun i=>cs.getD i undef) (z4n l (f:=fun i=>cs.getD i undef) h) i a ha
 | map es ms clock p hp hs hst h =>
  refine .map _ ms clock p hp (by simpa using hs) hst fun i k v hi=>?_
  simp only[List.getElem?_map,Option.map_eq_some_iff]at hi
  obtain ⟨e,he,hq⟩:=hi
  cases hq
  obtain ⟨m,h1,h2,h3⟩:=h i e.1 e.2 he
  exact ⟨m,h1,VR.cutT (Nat.le_refl _) _ (VR.scrub' _ h2),VR.cutT (Nat.le_refl _) _ (VR.scrub' _ h3)⟩
 | iter s pos=>exact .iter s pos

theorem z5p {G0 G1:Gh}{w0 w1:World}{S0 S1:St}(hI0:Inv G0 w0 S0)(hI1:Inv G1 w1 S1)(hE:Evo G0 w0 G1 w1)(hW:Wl { S0 with wl:=[] } S1){r:AV}{v:Value}(hv:VR G1 w1 r v) :
  ∃ G2,Inv G2 w1 (finish C S0 S1 r).2∧Evo G0 w0 G2 w1∧VR G2 w1 (finish C S0 S1 r).1 v:=by
 have hsame:∃ G2,Inv G2 w1 { S1 with wl:=z2i S1.wl S0.wl }∧Evo G0 w0 G2 w1∧VR G2 w1 r v:=⟨G1,hI1.congr (fun _ _=>Iff.rfl) rfl,hE,hv⟩
 unfold finish
 split
 ·rename_i r' hr'
  split
  ·rename_i hwr
   have hwr:∀ h,h∈S1.wl→h < S0.hs.length→∀ x,S1.hs[h]?=some (some x)→noHB S0.hs.length x=true:=by
    intro h h1 h2 x hx
    simp only[x3t,List.all_eq_true]at hwr
    have:=hwr h (List.mem_filter.2 ⟨h1,by simpa using h2⟩)
    rw[hx]at this
    exact this
   have hbl:S0.hs.length≤S1.hs.length:=hW.hl
   have htb:S0.ts.length≤z8p S0 S1:=y8o hW.tl
   generalize z8p S0 S1 = tb at *
   have hσ0:∀ h b,G0.σ h=some b→h < S0.hs.length:=fun h b hb=>hI0.σ_lt hb
   have htk0:∀ k x,G0.tk k=some x→k < tb:=by
    intro k x hx
    obtain ⟨b,c,m,z⟩:=x
    obtain ⟨h1,_⟩:=hI0.tdom _ _ _ _ _ hx
    exact Nat.lt_of_lt_of_le (List.getElem?_eq_some_iff.1 h1).1 htb
   -- the contents of an old handle
   have hold:∀ h x,h < S0.hs.length→S1.hs[h]?=some (some x)→noHB S0.hs.length x=true∧(h∉S1.wl→z0n tb x=x):=by
    intro h x hl hx
    by_cases hm:h∈S1.wl
    ·exact ⟨hwr h hm hl x hx,fun e=>absurd hm e⟩
    ·have:=hW.keep h hl hm
     rw[hx]at this
     obtain ⟨b,o,g1,g2,g3⟩:=hI0.blk h x this.symm
     exact ⟨g3.noHB hσ0,fun _=>g3.scrub_eq htk0⟩
   have hget:∀ h y,((z3m tb (S1.wl.filter fun h=>decide (h < S0.hs.length)) S1.hs).take S0.hs.length)[h]?=some (some y)→h < S0.hs.length∧∃ x,S1.hs[h]?=some (some x)∧y=z0n tb x:=by
    intro h y hy
    have hl:h < S0.hs.length:=by
     have:=(List.getElem?_eq_some_iff.1 hy).1
     simp at this;omega
    rw[List.getElem?_take_of_lt hl]at hy
    obtain ⟨x,hx⟩:=y3y _ _ hy
    refine ⟨hl,x,hx,?_⟩
    rw[z7u _ _ hx]at hy
    simp only[Option.some.injEq]at hy
    split at hy
    ·exact hy.symm
    ·rename_i hn
     rw[← hy]
     refine ((hold h x hl hx).2 fun hm=>hn ?_).symm
     exact List.mem_filter.2 ⟨hm,by simpa using hl⟩
   have hset:∀ h x,h < S0.hs.length→S1.hs[h]?=some (some x)→∃ y,((z3m tb (S1.wl.filter fun h=>decide (h < S0.hs.length)) S1.hs).take S0.hs.length)[h]?=some (some y):=by
    intro h x hl hx
    rw[List.getElem?_take_of_lt hl,z7u _ _ hx]
    exact ⟨_,rfl⟩
   have hσ2:∀ h b,(((G1.pubK S0.hs.length).cut S0.hs.length).cutT tb).σ h=some b→h < S0.hs.length∧G1.σ h=some b:=fun h b hb=>z5k (G:=G1.pubK S0.hs.length) hb
   have htk2:∀ k x,(((G1.pubK S0.hs.length).cut S0.hs.length).cutT tb).tk k=some x→k < tb∧G1.tk k=some x:=by
    intro k x hx
    simp only[Gh.cutT,Gh.cut,Gh.pubK]at hx
    split at hx
    ·rename_i h;exact ⟨h,hx⟩
    ·cases hx
   refine ⟨((G1.pubK S0.hs.length).cut S0.hs.length).cutT tb,?_,?_,VR.cutT (Nat.le_refl _) _ (VR.scrub' _ (z9s hI1 r hr' hv))⟩
   ·exact {
     blk:=fun h y hy=>by
      obtain ⟨hl,x,hx,rfl⟩:=hget h y hy
      obtain ⟨b,o,g1,g2,g3⟩:=hI1.blk h x hx
      exact ⟨b,o,by simp[Gh.cutT,Gh.cut,Gh.pubK,hl,g1],g2,((g3.ext (z9c G1 w1 S0.hs.length)).cut (hold h x hl hx).1).cutS⟩
     dom:=fun h b hb=>by
      obtain ⟨hl,h1⟩:=hσ2 h b hb
      obtain ⟨x,hx⟩:=hI1.dom _ _ h1
      exact hset h x hl hx
     inj:=fun h h' b h1 h2=>hI1.inj _ _ _ (hσ2 _ _ h1).2 (hσ2 _ _ h2).2
     fr:=fun h b o h1=>by
      obtain ⟨hl,h1⟩:=hσ2 _ _ h1
      rintro (hK | ⟨h',h2,h3⟩)
      ·exact hI1.fr _ _ _ h1 hK
      ·have:=hI1.inj _ _ _ h1 h3;omega
     base:=fun h b h1=>hI1.base _ _ (hσ2 _ _ h1).2
     tok:=fun k m z hk=>by
      have hk:(S1.ts.take tb)[k]?=some (m,z):=hk
      have hl:k < tb:=by
       have:=(List.getElem?_eq_some_iff.1 hk).1
       simp at this;omega
      rw[List.getElem?_take_of_lt hl]at hk
      obtain ⟨b,c,h1⟩:=hI1.tok _ _ _ hk
      exact ⟨b,c,by simp[Gh.cutT,Gh.cut,Gh.pubK,hl,h1]⟩
     tdom:=fun k b c m z hk=>by
      obtain ⟨hl,h1⟩:=htk2 _ _ hk
      obtain ⟨q1,q2,q3,q4,q5,q6,q7⟩:=hI1.tdom _ _ _ _ _ h1
      refine ⟨by show (S1.ts.take tb)[k]?=_;rw[List.getElem?_take_of_lt hl];exact q1,q2,q3,q4,q5,q6,fun o ho=>?_⟩
      rcases ho with hK | ⟨h',h2,h3⟩
      ·exact q7 _ hK
      ·exact absurd h3 (hI1.tσ _ _ _ _ _ _ h1)
     tinj:=fun k k' b c m z c' m' z' h1 h2=>hI1.tinj _ _ _ _ _ _ _ _ _ (htk2 _ _ h1).2 (htk2 _ _ h2).2
     tσ:=fun k b c m z h h1 h2=>hI1.tσ _ _ _ _ _ _ (htk2 _ _ h1).2 (hσ2 _ _ h2).2
     kin:=fun b o hK=>by
      rcases hK with hK | ⟨h',h2,h3⟩
      ·exact hI1.kin _ _ hK
      ·exact hI1.blk_lt h3
     bin:=hI1.bin }
   ·exact {
     k:=fun b o hK=>.inl (hE.k _ _ hK)
     cell:=hE.cell
     σ:=fun h b hb=>by
      have:=hE.σ _ _ hb
      simp[Gh.cutT,Gh.cut,Gh.pubK,hσ0 _ _ hb,this]
     σn:=fun h b hb=>hE.σn _ _ (hσ2 _ _ hb).2
     tk:=fun k b c m z hk=>by
      obtain ⟨b',c',m',h1,h2⟩:=hE.tk _ _ _ _ _ hk
      exact ⟨b',c',m',by simp[Gh.cutT,Gh.cut,Gh.pubK,htk0 _ _ hk,h1],h2⟩
     tkn:=fun k b c m z hk=>hE.tkn _ _ _ _ _ (htk2 _ _ hk).2
     kn:=fun b o hK=>by
      rcases hK with hK | ⟨h',h2,h3⟩
      ·exact hE.kn _ _ hK
      ·rcases hE.σn _ _ h3 with h4 | h4
       ·have:=hσ0 _ _ h4;omega
       ·exact .inr (.inl h4)
     B:=hE.B
     size:=hE.size
     os:=hE.os
     tape:=hE.tape
     output:=hE.output
     frame:=hE.frame }
  ·exact hsame
 ·exact hsame
end
end Go.Ev
namespace Go.Ev
open Go.RowKit

section
variable {C:Cx}{sf:Self}

theorem CodePost.after {ds:List Deferred}{G G1:Gh}{w w1:World}(hE:Evo G w G1 w1){x:EX}{env:Env}{S:St}{e:Exit}{a:Act}{w':World}(h:CodePost ds G1 w1 x env S e a w'):CodePost ds G w x env S e a w':=by
 obtain ⟨G2,q1,q2,q3⟩:=h
 exact ⟨G2,q1,hE.trans q2,q3⟩

theorem z3l (hC:CxOk C)(hs:SelfOk C sf):∀ (c:Code) (env:Env) (S:St) (x:EX) (env':Env) (S':St),okC c=true→evC C sf c env S=some (x,env',S') →
  ∀ (rd:Option Nat) (n:Nat) (ds:List Deferred) (G:Gh) (w:World) (a:Act),Inv G w S→GtR C G w→ER G w env a→a.defers=ds→∀ (Q:Exit→Act→World→Prop),(∀ e a' w',CodePost ds G w x env' S' e a' w'→Q e a' w')→c.wpIn (WF rd) n C.P Q a w:=by
 intro c
 induction c<;>intro env S x env' S' hok h rd n ds G w a hI hg he hd Q hQ
 case skip =>
  simp only[evC,Option.some.injEq,Prod.mk.injEq]at h
  obtain ⟨rfl,rfl,rfl⟩:=h
  exact wpIn_skip (hQ _ _ _ ⟨G,hI,Evo.refl _ _,he,hd,rfl⟩)
 case region id ops d =>
  cases d
  ·simp only[evC]at h
   refine wpIn_region ?_
   have:=y0h hC hs ops rd n ds (Q:=Q) 0 _ env S x env' S' G w a (by simp) h hI hg he hd hQ
   simpa using this
  ·simp only[evC]at h
   simp only[okC]at hok
   split at h
   ·rename_i hfin
    split at h<;>try cases h
    rename_i h1
    exact y9x hC hs hok hfin h1 h hI hg he hd id rd n hQ
   ·split at h<;>cases h
    rename_i h1
    exact y83 hC hs hok h1 hI hg he hd id rd n hQ
 case seq c1 c2 iha ihb =>
  simp only[okC,Bool.and_eq_true]at hok
  simp only[evC]at h
  refine wpIn_seq ?_
  split at h
  ·rename_i env1 S1 h1
   refine iha _ _ _ _ _ hok.1 h1 rd n ds G w a hI hg he hd _ ?_
   rintro e a1 w1 ⟨G1,q1,q2,q3,q4,q5⟩
   simp only[ExR]at q5
   subst q5
   exact ihb _ _ _ _ _ hok.2 h rd n ds G1 w1 a1 q1 (hg.mono q2) q3 q4 Q fun e a2 w2 hp=>hQ _ _ _ (hp.after q2)
  ·rename_i hne
   refine iha _ _ _ _ _ hok.1 h rd n ds G w a hI hg he hd _ ?_
   rintro e a1 w1 hp
   have hp':=hp
   obtain ⟨G1,q1,q2,q3,q4,q5⟩:=hp
   cases x with
   | normal=>exact absurd h (hne _ _)
   | exit i=>simp only[ExR]at q5;subst q5;exact hQ _ _ _ hp'
   | ret=>simp only[ExR]at q5;subst q5;exact hQ _ _ _ hp'
   | pan v=>obtain ⟨u,rfl,hu⟩:=q5;exact hQ _ _ _ hp'
 case cond c t e iht ihe =>
  simp only[okC,Bool.and_eq_true]at hok
  simp only[evC]at h
  split at h<;>try cases h
  rename_i b hb
  have hv:=he.eval hg c
  rw[hb]at hv
  refine wpIn_cond hv.bool_inv ?_
  split at h
  ·rename_i hbt
   rw[if_pos hbt]
   exact iht _ _ _ _ _ hok.1 h rd n ds G w a hI hg he hd Q hQ
  ·rename_i hbf
   rw[if_neg hbf]
   exact ihe _ _ _ _ _ hok.2 h rd n ds G w a hI hg he hd Q hQ
 case block id c ih =>
  simp only[okC]at hok
  simp only[evC]at h
  refine wpIn_block ?_
  split at h
  ·rename_i i env1 S1 h1
   refine ih _ _ _ _ _ hok h1 rd n ds G w a hI hg he hd _ ?_
   rintro e a1 w1 ⟨G1,q1,q2,q3,q4,q5⟩
   simp only[ExR]at q5
   subst q5
   simp only[Exit.inBlock]
   split at h
   ·rename_i hid
    rw[if_pos hid]
    cases h
    exact hQ _ _ _ ⟨G1,q1,q2,q3,q4,rfl⟩
   ·rename_i hid
    rw[if_neg hid]
    cases h
    exact hQ _ _ _ ⟨G1,q1,q2,q3,q4,rfl⟩
  ·rename_i hne
   refine ih _ _ _ _ _ hok h rd n ds G w a hI hg he hd _ ?_
   rintro e a1 w1 hp
   have hp':=hp
   obtain ⟨G1,q1,q2,q3,q4,q5⟩:=hp
   cases x with
   | normal=>simp only[ExR]at q5;subst q5;exact hQ _ _ _ hp'
   | exit i=>exact absurd h (hne _ _ _)
   | ret=>simp only[ExR]at q5;subst q5;exact hQ _ _ _ hp'
   | pan v=>obtain ⟨u,rfl,hu⟩:=q5;exact hQ _ _ _ hp'
 case loop c ih =>
  simp only[okC]at hok
  simp only[evC]at h
  obtain ⟨m,hm⟩:=hs.loop c env S x env' S' hok h
  exact wpIn_mono (wpIn_loop_rounds m (hm rd n ds G w a hI hg he hd)) hQ
 case exit id =>
  simp only[evC,Option.some.injEq,Prod.mk.injEq]at h
  obtain ⟨rfl,rfl,rfl⟩:=h
  exact wpIn_exit (hQ _ _ _ ⟨G,hI,Evo.refl _ _,he,hd,rfl⟩)
 case ret =>
  simp only[evC,Option.some.injEq,Prod.mk.injEq]at h
  obtain ⟨rfl,rfl,rfl⟩:=h
  exact wpIn_ret (hQ _ _ _ ⟨G,hI,Evo.refl _ _,he,hd,rfl⟩)
 all_goals (simp only[evC]at h;cases h)

def rv (tmps:Array Value):ResultVar→Sem Value
 | .tmp t=>pure (tmps.getD t undef)
 | .cell a t=>do loadVar t (← asAddr (tmps.getD a undef))
theorem y0p {F:Fence}{n:Nat}{P:Program}{c:Code}{Q Q':Exit→Act→World→Prop}(h:∀ e a w,Q e a w→Q' e a w):∀ (m:Nat) (a:Act) (w:World),Code.roundsIn F n P c Q m a w→Code.roundsIn F n P c Q' m a w
 | 0,_,_,hh=>hh
 | m+1,a,w,hh=>by
  rw[roundsIn_succ]at hh ⊢
  refine wpIn_mono hh fun e a w hp=>?_
  cases e<;>first | exact y0p h m a w hp | exact h _ _ _ hp
theorem y05 {G:Gh}{w:World}{S:St}(hI:Inv G w S){env:Env}{a:Act}(he:ER G w env a):∀ (l:List ResultVar) (r:List AV),z6d C env S l=some r →
  ∃ vs:List Value,VRs G w r vs∧(l.mapM (rv a.tmps)).run C.P w=.ok vs w
 | [],r,h=>by
  simp only[z6d,Option.some.injEq]at h
  subst h
  exact ⟨[],⟨rfl,by simp⟩,by simp⟩
 | .tmp t::l,r,h=>by
  simp only[z6d]at h
  split at h<;>cases h
  rename_i r1 h1
  obtain ⟨vs,q1,q2⟩:=y05 hI he l r1 h1
  have hrv:(rv a.tmps (.tmp t)).run C.P w=.ok (a.tmps.getD t undef) w:=by simp only[rv,Sem.run_pure]
  refine ⟨a.tmps.getD t undef::vs,⟨by simp[q1.1],fun i x hx=>?_⟩,by simp only[List.mapM_cons,Sem.run_bind,Sem.run_pure,hrv,Result.andThen,q2]⟩
  cases i with
  | zero =>
   simp only[List.getElem?_cons_zero,Option.some.injEq]at hx
   subst hx
   refine ⟨_,rfl,?_⟩
   rcases Nat.lt_or_ge t env.length with hl | hl
   ·have:=he.2 t _ (List.getElem?_eq_getElem hl)
    simpa[List.getD_eq_getElem?_getD,hl] using this
   ·rw[List.getD_eq_getElem?_getD,List.getElem?_eq_none hl];exact .bad _
  | succ i=>simpa using q1.2 i x (by simpa using hx)
 | .cell b t::l,r,h=>by
  simp only[z6d]at h
  split at h<;>try cases h
  rename_i hh off hb
  split at h<;>cases h
  rename_i v r1 hl h1
  obtain ⟨vs,q1,q2⟩:=y05 hI he l r1 h1
  have hbv:VR G w (.ptr hh off) (a.tmps.getD b undef):=by
   rcases Nat.lt_or_ge b env.length with hlt | hlt
   ·have:=he.2 b _ (List.getElem?_eq_getElem hlt)
    have e:env[b]=.ptr hh off:=by simpa[List.getD_eq_getElem?_getD,hlt] using hb
    rwa[e]at this
   ·rw[List.getD_eq_getElem?_getD,List.getElem?_eq_none hlt]at hb;cases hb
  obtain ⟨u,p1,p2⟩:=y34 hI hl hbv
  generalize hbe:a.tmps.getD b undef=bv at hbv p2
  cases hbv with
  | ptr _ _ bl hσ =>
   have p3:(loadVar t ⟨bl,off,none⟩).run C.P w=.ok u w:=by simpa[Instr.loadAt,Instr.sureAddr] using p2
   refine ⟨u::vs,⟨by simp[q1.1],fun i x hx=>?_⟩,?_⟩
   ·cases i with
    | zero=>simp at hx;subst hx;exact ⟨_,rfl,p1⟩
    | succ i=>simpa using q1.2 i x (by simpa using hx)
   ·have hrv:(rv a.tmps (.cell b t)).run C.P w=.ok u w:=by simp only[rv,hbe,asAddr,Sem.run_bind,Sem.run_pure,Result.andThen,p3]
    simp only[List.mapM_cons,Sem.run_bind,Sem.run_pure,hrv,Result.andThen,q2]

theorem z3n {G:Gh}{w:World}{S:St}(hI:Inv G w S){env:Env}{a:Act}(he:ER G w env a){fn:Func}{r:AV}(h:z0v C fn env S=some r):∃ v,VR G w r v∧(results fn a.tmps).run C.P w=.ok v w:=by
 unfold z0v at h
 have key:∀ l,z6d C env S fn.results.toList=some l→∃ vs:List Value,VRs G w l vs∧(results fn a.tmps).run C.P w=.ok (if h:vs.toArray.size=1 then vs.toArray[0] else .tuple vs.toArray) w:=by
  intro l hl
  obtain ⟨vs,q1,q2⟩:=y05 hI he _ _ hl
  refine ⟨vs,q1,?_⟩
  have e:results fn a.tmps=(do let vs ← fn.results.mapM (rv a.tmps);pure (if h:vs.size=1 then vs[0] else .tuple vs)):=rfl
  have hm:(fn.results.mapM (rv a.tmps)).run C.P w=.ok vs.toArray w:=by
   rw[Array.mapM_eq_mapM_toList]
   simp[q2,Result.andThen]
  rw[e]
  simp only[Sem.run_bind,hm,Result.andThen,Sem.run_pure]
 split at h
 ·rename_i v hv
  cases h
  obtain ⟨vs,q1,q2⟩:=key _ hv
  obtain ⟨u,g1,g2⟩:=q1.2 0 _ rfl
  match vs,q1.1,g1 with
  | [u'],_,g1=>simp at g1;subst g1;exact ⟨u',g2,by simpa using q2⟩
 ·rename_i l hne hl
  cases h
  obtain ⟨vs,q1,q2⟩:=key _ hl
  refine ⟨.tuple vs.toArray,.tup l _ (by simpa using q1.1) fun i x hx=>?_,?_⟩
  ·obtain ⟨u,g1,g2⟩:=q1.2 i x hx
   simp[g1];exact g2
  ·have:¬ vs.toArray.size=1:=by
    intro e
    have e2:l.length=1:=by rw[← q1.1];simpa using e
    match l,e2 with
    | [v],_=>exact hne v rfl
   rw[dif_neg this]at q2
   exact q2
 ·cases h

theorem z81 {G:Gh}{w:World}{args:List AV}{us:List Value}(has:VRs G w args us)(m:Nat):ER G w (args++List.replicate (m-args.length) .bad) { tmps:=us.toArray++Array.replicate (m-us.toArray.size) undef,defers:=[] }:=by
 refine ⟨by simp[has.1],fun i x hx=>?_⟩
 rcases Nat.lt_or_ge i args.length with hl | hl
 ·rw[List.getElem?_append_left hl]at hx
  obtain ⟨v,g1,g2⟩:=has.2 i x hx
  have hl2:i < us.length:=by rw[has.1];exact hl
  have e:(us.toArray++Array.replicate (m-us.toArray.size) undef).getD i undef=v:=by
   rw[Array.getD_eq_getD_getElem?,Array.getElem?_append_left (by simpa using hl2)]
   simp[g1]
  simp only[e];exact g2
 ·rw[List.getElem?_append_right hl]at hx
  have:=List.mem_of_getElem? hx
  simp at this
  rw[this.2];exact .bad _

theorem x44 (hC:CxOk C)(hw:HkW C)(hs:SelfOk C sf)(hsw:SelfW sf){g:FuncId}{args:List AV}{S S':St}{r:CR}(h:y1p C sf g args S=some (r,S')) :
  (∃ (fn:Func) (c:Code),C.P.funcs[g]?=some fn∧fn.body=some c)∧CallOk C g args S r S':=by
 unfold y1p at h
 split at h<;>try cases h
 rename_i fn hfn
 split at h<;>try cases h
 rename_i c hc
 refine ⟨⟨fn,c,hfn,hc⟩,?_⟩
 intro G w as hI hg has
 refine (callsIn_wide (n:=0)).1 (callsIn_of_wp hfn hc trivial ?_)
 have hI':Inv G w { S with wl:=[] }:=hI.congr (fun _ _=>Iff.rfl) rfl
 have he:ER G w (args++List.replicate (fn.ntmps-args.length) .bad) { tmps:=as.toArray++Array.replicate (fn.ntmps-as.toArray.size) undef,defers:=[] }:=by
  refine ⟨by simp[has.1],fun i x hx=>?_⟩
  rcases Nat.lt_or_ge i args.length with hl | hl
  ·rw[List.getElem?_append_left hl]at hx
   obtain ⟨v,g1,g2⟩:=has.2 i x hx
   have hl2:i < as.length:=by rw[has.1];exact hl
   have e:(as.toArray++Array.replicate (fn.ntmps-as.toArray.size) undef).getD i undef=v:=by
    rw[Array.getD_eq_getD_getElem?,Array.getElem?_append_left (by simpa using hl2)]
    simp[g1]
   simp only[e];exact g2
  ·rw[List.getElem?_append_right hl]at hx
   have:=List.mem_of_getElem? hx
   simp at this
   rw[this.2];exact .bad _
 have fin:∀ (x:EX) (env1:Env) (S1:St),evC C sf c (args++List.replicate (fn.ntmps-args.length) .bad) { S with wl:=[] }=some (x,env1,S1)→∀ e a' w',CodePost [] G w x env1 S1 e a' w' →
   (∀ v,(x=.normal∨x=.ret)→z0v C fn env1 S1=some v→r=.ret (finish C S S1 v).1∧S'=(finish C S S1 v).2)→(∀ v,x=.pan v→r=.pan (finish C S S1 v).1∧S'=(finish C S S1 v).2) →
   (x=.normal∨x=.ret→∃ v,z0v C fn env1 S1=some v)→(∀ i,x≠.exit i)→bodyPost C.P fn (z6h G w r S') e a' w':=by
  intro x env1 S1 hev e a' w' hp hr1 hr2 hr3 hr4
  obtain ⟨G1,q1,q2,q3,q4,q5⟩:=hp
  have hW:=z9m hw hsw _ _ _ _ _ _ hev
  have ret:(x=.normal∨x=.ret)→a'.defers=[]∧∃ v,(results fn a'.tmps).run C.P w'=.ok v w'∧z6h G w r S' (.returned v) w':=by
   intro hx
   obtain ⟨v,hv⟩:=hr3 hx
   obtain ⟨u,u1,u2⟩:=z3n q1 q3 hv
   obtain ⟨G2,p1,p2,p3⟩:=z5p (C:=C) hI q1 q2 hW u1
   obtain ⟨rfl,rfl⟩:=hr1 v hx hv
   exact ⟨q4,u,u2,G2,p1,p2,u,rfl,p3⟩
  cases x with
  | normal=>simp only[ExR]at q5;subst q5;exact ret (.inl rfl)
  | ret=>simp only[ExR]at q5;subst q5;exact ret (.inr rfl)
  | exit i=>exact absurd rfl (hr4 i)
  | pan v =>
   obtain ⟨u,rfl,hu⟩:=q5
   obtain ⟨G2,p1,p2,p3⟩:=z5p (C:=C) hI q1 q2 hW hu
   obtain ⟨rfl,rfl⟩:=hr2 v rfl
   exact ⟨q4,G2,p1,p2,u,rfl,p3⟩
 split at h
 ·rename_i env1 S1 hev
  split at h<;>cases h
  rename_i v hv
  exact z3l hC hs c _ _ _ _ _ (hC.codes g fn c hfn hc) hev none 0 [] G w _ hI' hg he rfl _ fun e a' w' hp=>fin _ _ _ hev e a' w' hp
   (fun v' _ h'=>by rw[hv]at h';cases h';exact ⟨rfl,rfl⟩) (fun v' h'=>by cases h') (fun _=>⟨v,hv⟩) (fun i h'=>by cases h')
 ·rename_i env1 S1 hev
  split at h<;>cases h
  rename_i v hv
  exact z3l hC hs c _ _ _ _ _ (hC.codes g fn c hfn hc) hev none 0 [] G w _ hI' hg he rfl _ fun e a' w' hp=>fin _ _ _ hev e a' w' hp
   (fun v' _ h'=>by rw[hv]at h';cases h';exact ⟨rfl,rfl⟩) (fun v' h'=>by cases h') (fun _=>⟨v,hv⟩) (fun i h'=>by cases h')
 ·rename_i v env1 S1 hev
  cases h
  exact z3l hC hs c _ _ _ _ _ (hC.codes g fn c hfn hc) hev none 0 [] G w _ hI' hg he rfl _ fun e a' w' hp=>fin _ _ _ hev e a' w' hp
   (fun v' h' _=>by rcases h' with h' | h'<;>cases h') (fun v' h'=>by cases h';exact ⟨rfl,rfl⟩) (fun h'=>by rcases h' with h' | h'<;>cases h') (fun i h'=>by cases h')
 ·cases h

theorem x4l (hC:CxOk C)(hs:SelfOk C sf){c:Code}{env env':Env}{S S':St}{x:EX}(hok:okC c=true)(h:y1c C sf c env S=some (x,env',S')) :
  ∃ m,∀ rd n ds G w a,Inv G w S→GtR C G w→ER G w env a→a.defers=ds→Code.roundsIn (WF rd) n C.P c (CodePost ds G w x env' S') m a w:=by
 unfold y1c at h
 split at h
 ·rename_i env1 S1 hev
  obtain ⟨m,hm⟩:=hs.loop c env1 S1 x env' S' hok h
  refine ⟨m+1,fun rd n ds G w a hI hg he hd=>?_⟩
  rw[roundsIn_succ]
  refine z3l hC hs c _ _ _ _ _ hok hev rd n ds G w a hI hg he hd _ ?_
  rintro e a1 w1 ⟨G1,q1,q2,q3,q4,q5⟩
  simp only[ExR]at q5
  subst q5
  have:=hm rd n ds G1 w1 a1 q1 (hg.mono q2) q3 q4
  exact y0p (fun e a w hp=>hp.after q2) m a1 w1 this
 ·rename_i hne
  refine ⟨1,fun rd n ds G w a hI hg he hd=>?_⟩
  rw[roundsIn_succ]
  refine z3l hC hs c _ _ _ _ _ hok h rd n ds G w a hI hg he hd _ ?_
  rintro e a1 w1 hp
  have hp':=hp
  obtain ⟨G1,q1,q2,q3,q4,q5⟩:=hp
  cases x with
  | normal=>exact absurd h (hne _ _)
  | exit i=>simp only[ExR]at q5;subst q5;exact hp'
  | ret=>simp only[ExR]at q5;subst q5;exact hp'
  | pan v=>obtain ⟨u,rfl,hu⟩:=q5;exact hp'

theorem z4y (hC:CxOk C)(hw:HkW C):∀ n,SelfOk C (lev C n)
 | 0=>⟨fun _ _ _ _ _ h=>by simp[lev]at h,fun _ _ _ _ _ _ _ h=>by simp[lev]at h⟩
 | n+1=>⟨fun _ _ _ _ _ h=>x44 hC hw (z4y hC hw n) (z6b hw n) h,fun _ _ _ _ _ _ hok h=>x4l hC (z4y hC hw n) hok h⟩
end
end Go.Ev
namespace Go.Ev

structure Self.Le (s t:Self):Prop where
 call:∀ (g:FuncId) args S r,s.call g args S=some r→t.call g args S=some r
 loop:∀ c env S r,s.loop c env S=some r→t.loop c env S=some r
theorem Self.Le.refl (s:Self):s.Le s:=⟨fun _ _ _ _ h=>h,fun _ _ _ _ h=>h⟩
theorem Self.Le.trans {s t u:Self}(h:s.Le t)(k:t.Le u):s.Le u:=⟨fun _ _ _ _ e=>k.call _ _ _ _ (h.call _ _ _ _ e),fun _ _ _ _ e=>k.loop _ _ _ _ (h.loop _ _ _ _ e)⟩

section
variable {C:Cx}{s t:Self}{ops:Array Oper}

theorem y9d (hc:∀ (g:FuncId) args S r,s.call g args S=some r→t.call g args S=some r){g:FuncId}{args:List AV}{S:St}{r:CR×St}(h:z7z C s g args S=some r):z7z C t g args S=some r:=by
 unfold z7z at *
 split at h
 ·rename_i v hv;exact h
 ·rename_i hv
  unfold y3p at *
  split at h
  ·exact h
  ·exact hc _ _ _ _ h

theorem x2t (hc:∀ (g:FuncId) args S r,s.call g args S=some r→t.call g args S=some r){S:St}{ev:Operand→AV}{o:Op}{r:CR×St}(h:opA C s S ev o=some r):opA C t S ev o=some r:=by
 unfold opA at *
 split at h
 ·split at h
  ·split at h<;>try cases h
   exact y9d hc h
  ·exact h
 ·exact h
 ·rename_i h1 h2
  exact h

theorem x3b (hc:∀ (g:FuncId) args S r,s.call g args S=some r→t.call g args S=some r){S0 S:St}{D:DN}{j:Nat}{ev:Operand→AV}{o:Op}{r:AV×St×DN}(h:z1n C s ops S0 S D j ev o=some r):z1n C t ops S0 S D j ev o=some r:=by
 unfold z1n at *
 split at h
 ·exact h
 ·exact h
 ·exact h
 ·exact h
 ·exact h
 ·exact h
 ·exact h
 ·split at h
  ·split at h<;>try cases h
   split at h<;>try cases h
   rename_i hno
   split at h<;>try cases h
   rename_i hcall
   rw[if_pos hno,y9d hc hcall]
   exact h
  ·exact h
  ·exact h
 ·exact h

end
end Go.Ev
namespace Go.Ev

noncomputable def lim (C:Cx):Self:=by
 classical exact {
  call:=fun g args S=>if h:∃ r n,(lev C n).call g args S=some r then some h.choose else none
  loop:=fun c env S=>if h:∃ r n,(lev C n).loop c env S=some r then some h.choose else none }

section
variable {C:Cx}{ops:Array Oper}
end
end Go.Ev
namespace Go.Ev

def St.nil:St:=⟨[],[],[]⟩

def z1v (C:Cx):Prop:=∀ g l,C.gt g=some l→Ev.noHL 0 l=true∧z1y 0 l=true

mutual
theorem y2j {tb:Nat}:∀ (a:AV),noT tb a=true→scrub tb a=a
 | .bad,_=>by simp[scrub]
 | .int k n,_=>by simp[scrub]
 | .bool b,_=>by simp[scrub]
 | .str b,_=>by simp[scrub]
 | .raw b,_=>by simp[scrub]
 | .agg l,h=>by simp only[noT]at h;simp only[scrub];rw[z17 l h]
 | .tup l,h=>by simp only[noT]at h;simp only[scrub];rw[z17 l h]
 | .vs l n t,h=>by
  simp only[noT,Bool.and_eq_true]at h
  simp only[scrub]
  rw[z17 l h.2]
  cases t with
  | none=>rfl
  | zero=>rfl
  | own k=>have h1:=h.1;simp at h1;simp[Tok.scrub,h1]
 | .vp l,h=>by simp only[noT]at h;simp only[scrub];rw[z17 l h]
 | .ptr h o,_=>by simp[scrub]
 | .row h o n c,_=>by simp[scrub]
 | .mp h,_=>by simp[scrub]
 | .fn f x y,h=>by simp only[noT,Bool.and_eq_true]at h;simp only[scrub];rw[z17 x h.1,z17 y h.2]
 | .ifc t x,h=>by simp only[noT]at h;simp only[scrub];rw[y2j x h]
theorem z17 {tb:Nat}:∀ (l:List AV),z1y tb l=true→z0e tb l=l
 | [],_=>rfl
 | a::l,h=>by simp only[z1y,Bool.and_eq_true]at h;simp only[z0e];rw[y2j a h.1,z17 l h.2]
end

section
variable {C:Cx}{G:Gh}{w:World}

def Gh.bare (G:Gh)(w:World):Gh:={ σ:=fun _=>none,tk:=fun _=>none,K:=G.K,B:=w.heap.size }

theorem VR.bare {a:AV}{v:Value}(h:VR G w a v)(hn:Ev.noH 0 a=true):VR (G.bare w) w (scrub 0 a) v:=by
 have h1:=VR.cutT (Nat.le_refl _) a (VR.scrub' (tb:=0) a (h.cut hn))
 refine VR.ext (G':=G.bare w) (w':=w) ?_ h1
 refine ⟨fun _ _ h=>h,fun _ _ _=>rfl,fun x b hx=>?_,fun k b c m z hk=>?_⟩
 ·simp only[Gh.cutT,Gh.cut]at hx
  rw[if_neg (by omega)]at hx
  cases hx
 ·simp only[Gh.cutT]at hk
  rw[if_neg (by omega)]at hk
  cases hk

theorem Inv.bare {S:St}(hI:Inv G w S):Inv (G.bare w) w St.nil where
 blk:=fun h hb hh=>by simp[St.nil]at hh
 dom:=fun h b hh=>by simp[Gh.bare]at hh
 inj:=fun h h' b hh=>by simp[Gh.bare]at hh
 fr:=fun h b o hh=>by simp[Gh.bare]at hh
 base:=fun h b hh=>by simp[Gh.bare]at hh
 tok:=fun k m z hh=>by simp[St.nil]at hh
 tdom:=fun k b c m z hh=>by simp[Gh.bare]at hh
 tinj:=fun k k' b c m z c' m' z' hh=>by simp[Gh.bare]at hh
 tσ:=fun k b c m z h hh=>by simp[Gh.bare]at hh
 kin:=hI.kin
 bin:=Nat.le_refl _

theorem VRs.bare:∀ {l:List AV} {us:List Value},VRs G w l us→Ev.noHL 0 l=true→VRs (G.bare w) w (z0e 0 l) us
 | [],us,h,_=>⟨h.1,fun i a hi=>by simp[z0e]at hi⟩
 | a::l,us,h,hn=>by
  simp only[Ev.noHL,Bool.and_eq_true]at hn
  match us,h with
  | [],h=>simp[VRs]at h
  | u::us,h =>
   have ih:VRs (G.bare w) w (z0e 0 l) us:=VRs.bare (l:=l) (us:=us) ⟨by simpa using h.1,fun i x hi=>by simpa using h.2 (i+1) x (by simpa using hi)⟩ hn.2
   refine ⟨by simp[z0e,ih.1],fun i x hi=>?_⟩
   cases i with
   | zero =>
    simp[z0e]at hi
    subst hi
    obtain ⟨v,h1,h2⟩:=h.2 0 a rfl
    simp at h1
    subst h1
    exact ⟨u,rfl,h2.bare hn.1⟩
   | succ i=>simpa using ih.2 i x (by simpa[z0e] using hi)

theorem CallOk.frame (hgt:z1v C){g:FuncId}{args:List AV}{r:CR}(h:CallOk C g (z0e 0 args) St.nil r St.nil)(ha:Ev.noHL 0 args=true)(S:St):CallOk C g args S r S:=by
 intro G w as hI hg has
 have hg0:GtR C (G.bare w) w:=fun x l hl=>by
  have h1:=(hg x l hl).bare (by simp[Ev.noH,(hgt x l hl).1])
  have h2:scrub 0 (.vp l)=.vp l:=by
   simp only[scrub]
   congr 1
   exact z17 l (hgt x l hl).2
  rwa[h2]at h1
 obtain hc:=h (G.bare w) w as hI.bare hg0 (has.bare ha)
 refine hc.mono fun e w' hp=>?_
 obtain ⟨G0',q1,q2,q3⟩:=hp
 have hσ:∀ k b,G0'.σ k≠some b:=fun k b hk=>by obtain ⟨hb,hx⟩:=q1.dom _ _ hk;simp[St.nil]at hx
 have htk:∀ k x,G0'.tk k≠some x:=fun k x hk=>by obtain ⟨b,c,m,z⟩:=x;have:=(q1.tdom _ _ _ _ _ hk).1;simp[St.nil]at this
 have hkn:∀ b o,G0'.K b o→G.K b o∨w.heap.size≤b:=fun b o hk=>by
  rcases q2.kn b o hk with h1 | h1 | ⟨k,c,m,z,h1⟩
  ·exact .inl h1
  ·exact .inr h1
  ·simp[Gh.bare]at h1
 have hold:∀ b,b < w.heap.size→w'.heap[b]?=w.heap[b]?:=fun b hb=>q2.frame b hb (fun x hx=>by simp[Gh.bare]at hx) (fun k c m z hx=>by simp[Gh.bare]at hx)
 have ext1:Ext G0' w' { G with K:=G0'.K } w':=⟨fun _ _ h=>h,fun _ _ _=>rfl,fun k b hk=>absurd hk (hσ k b),fun k b c m z hk=>absurd hk (htk k _)⟩
 have ext2:Ext G w { G with K:=G0'.K } w':=⟨fun b o hk=>q2.k b o hk,fun b o hk=>q2.cell b o hk,fun _ _ h=>h,fun k b c m z hk=>⟨b,c,m,hk,.inl ⟨rfl,rfl,rfl⟩⟩⟩
 refine ⟨{ G with K:=G0'.K },?_,?_,?_⟩
 ·exact {
   blk:=fun k hb hk=>by
    obtain ⟨b,o,h1,h2,h3⟩:=hI.blk k hb hk
    exact ⟨b,o,h1,(hold b (hI.blk_lt h1)).trans h2,h3.ext ext2⟩
   dom:=hI.dom
   inj:=hI.inj
   fr:=fun k b o hk hK=>by
    rcases hkn b o hK with h1 | h1
    ·exact hI.fr k b o hk h1
    ·have:=hI.blk_lt hk;omega
   base:=hI.base
   tok:=hI.tok
   tdom:=fun k b c m z hk=>by
    obtain ⟨h1,h2,h3,h4,h5,⟨cs,e,⟨fz,h6,h7⟩,h8,h9⟩,h10⟩:=hI.tdom k b c m z hk
    refine ⟨h1,h2,h3,h4,h5,⟨cs,e,⟨fz,(hold b (hI.tk_lt hk)).trans h6,h7⟩,h8,h9⟩,fun o hK=>?_⟩
    rcases hkn b o hK with h11 | h11
    ·exact h10 o h11
    ·have:=hI.tk_lt hk;omega
   tinj:=hI.tinj
   tσ:=hI.tσ
   kin:=q1.kin
   bin:=Nat.le_trans hI.bin q2.size }
 ·exact {
   k:=q2.k
   cell:=q2.cell
   σ:=fun _ _ h=>h
   σn:=fun _ _ h=>.inl h
   tk:=fun k b c m z hk=>⟨b,c,m,hk,.inl ⟨rfl,rfl,rfl⟩⟩
   tkn:=fun k b c m z hk=>.inl ⟨c,m,z,hk⟩
   kn:=fun b o hk=>by
    rcases hkn b o hk with h1 | h1
    ·exact .inl h1
    ·exact .inr (.inl h1)
   B:=rfl
   size:=q2.size
   os:=q2.os
   tape:=q2.tape
   output:=q2.output
   frame:=fun b hb _ _=>hold b hb }
 ·cases r with
  | ret a=>obtain ⟨v,h1,h2⟩:=q3;exact ⟨v,h1,h2.ext ext1⟩
  | pan a=>obtain ⟨v,h1,h2⟩:=q3;exact ⟨v,h1,h2.ext ext1⟩
end
end Go.Ev
namespace Go.Ev

def y7u (H:TypeId→List AV→Prop)(sz:TypeId→Nat):List Field→List AV→Prop
 | [],l=>l=[]
 | f::fs,l=>∃ a b,l=a++b∧a.length=sz f.type∧H f.type a∧y7u H sz fs b

def z19 (P:Program):Nat→TypeId→List AV→Prop
 | 0,_,_=>False
 | n+1,t,l=>match P.underlying t with
  | some .bool=>∃ b,l=[.bool b]
  | some (.int k)=>∃ z,l=[.int k z]∧(Lit.int k z).wf=true
  | some .string=>∃ s,l=[.str s]∧s.length≤maxLen
  | some (.slice e)=>∃ ls:List (List AV),l=[.vs ls.flatten ls.length .none]∧ls.length≤maxLen∧∀ x∈ls,x.length=P.cellsOf e∧z19 P n e x
  | some (.struct fs)=>y7u (z19 P n) P.cellsOf fs.toList l
  | some (.array m e)=>∃ ls:List (List AV),l=ls.flatten∧ls.length=m∧∀ x∈ls,x.length=P.cellsOf e∧z19 P n e x
  | _=>True

def y2d (P:Program):Nat→List Field→Nat→Bool
 | o,[],n=>o == n
 | o,f::fs,n=>f.offset == o && y2d P (o+P.cellsOf f.type) fs n
def y55 (P:Program)(t:TypeId):Bool :=
 match P.underlying t with
 | some (.struct fs)=>y2d P 0 fs.toList (P.cellsOf t)
 | some (.array m e)=>m*P.cellsOf e == P.cellsOf t
 | _=>true

section
variable {P:Program}{G:Gh}{w:World}

theorem VRs.nil:VRs G w [] []:=⟨rfl,fun i a h=>by simp at h⟩
theorem VRs.one {a:AV}{v:Value}(h:VR G w a v):VRs G w [a] [v] :=
 ⟨rfl,fun i x hx=>by cases i with
  | zero=>simp at hx;subst hx;exact ⟨v,rfl,h⟩
  | succ i=>simp at hx⟩
theorem VRs.append' {l m:List AV}{us vs:List Value}(h1:VRs G w l us)(h2:VRs G w m vs):VRs G w (l++m) (us++vs):=by
 refine ⟨by simp[h1.1,h2.1],fun i x hx=>?_⟩
 rcases Nat.lt_or_ge i l.length with hl | hl
 ·rw[List.getElem?_append_left hl]at hx
  obtain ⟨v,q1,q2⟩:=h1.2 i x hx
  exact ⟨v,by rw[List.getElem?_append_left (by rw[h1.1];exact hl)];exact q1,q2⟩
 ·rw[List.getElem?_append_right hl]at hx
  obtain ⟨v,q1,q2⟩:=h2.2 _ x hx
  exact ⟨v,by rw[List.getElem?_append_right (by rw[h1.1];exact hl),h1.1];exact q1,q2⟩

def y9i (G:Gh)(w:World):Prop:=∀ b o,b < w.heap.size→G.K b o

theorem getElem?_flatten_all {α:Type}{sz:Nat}:∀ (ls:List (List α)),(∀ x∈ls,x.length=sz)→∀ i a,ls.flatten[i]?=some a→∃ x,ls[i / sz]?=some x∧x[i % sz]?=some a∧i / sz < ls.length∧0 < sz
 | [],h,i,a,hi=>by simp at hi
 | x::ls,h,i,a,hi=>by
  have hx:x.length=sz:=h x (by simp)
  rw[List.flatten_cons]at hi
  rcases Nat.lt_or_ge i sz with hl | hl
  ·rw[List.getElem?_append_left (by rw[hx];exact hl)]at hi
   exact ⟨x,by simp[Nat.div_eq_of_lt hl],by rw[Nat.mod_eq_of_lt hl];exact hi,by simp[Nat.div_eq_of_lt hl],by omega⟩
  ·rw[List.getElem?_append_right (by rw[hx];exact hl)]at hi
   obtain ⟨y,q1,q2,q3,q4⟩:=getElem?_flatten_all ls (fun x hx=>h x (by simp[hx])) _ a hi
   rw[hx]at q1 q2 q3
   have e1:i / sz=(i-sz) / sz+1:=Nat.div_eq_sub_div q4 hl
   have e2:i % sz=(i-sz) % sz:=by rw[Nat.mod_eq_sub_mod hl]
   exact ⟨y,by rw[e1];simpa using q1,by rw[e2];exact q2,by rw[e1];simpa using q3,q4⟩

theorem x47 {a:Addr}(h:a.spot=none)(i:Nat):a.add i=⟨a.block,a.off+i,none⟩:=by
 unfold Addr.add
 split
 ·rename_i hi;subst hi;cases a;simp at h;simp[h]
 ·rfl
theorem add_add (a:Addr)(i j:Nat):(a.add i).add j=a.add (i+j):=by
 unfold Addr.add
 by_cases hi:i=0<;>by_cases hj:j=0
 ·simp[hi,hj]
 ·simp[hi,hj]
 ·simp[hi,hj]
 ·simp[hi,hj,Nat.add_assoc]
theorem cell_spot {a:Addr}{v:Value}(h:w.cell? a=some v):a.spot=none∧a.block < w.heap.size:=by
 unfold World.cell? at h
 split at h
 ·rename_i hb
  split at h
  ·cases h
  ·rename_i hs
   exact ⟨by cases hsp:a.spot<;>simp_all,(Array.getElem?_eq_some_iff.1 hb).1⟩
 ·cases h

theorem x1n (hK:y9i G w){a:Addr}{sz:Nat}{cs:List (List Value)}(h:∀ (i:Nat) (c:List Value),cs[i]?=some c→w.cells? 0 (a.add (i*sz)) sz=some c){ls:List (List AV)}(hl:ls.length=cs.length)
  (hv:∀ (i:Nat) (x:List AV) (c:List Value),ls[i]?=some x→cs[i]?=some c→VRs G w x c) (hsz:∀ x∈ls,x.length=sz) :
  ∃ f:Nat→Value,(∀ i x,ls.flatten[i]?=some x→VR G w x (f i))∧(ls.flatten=[]∨∃ ad,some a=some ad∧Held G w ad ls.flatten.length f):=by
 have key:∀ i x,ls.flatten[i]?=some x→∃ v,w.cell? (a.add i)=some v∧VR G w x v:=by
  intro i x hx
  obtain ⟨y,q1,q2,q3,q4⟩:=getElem?_flatten_all ls hsz i x hx
  have hlt:i / sz < cs.length:=by omega
  obtain ⟨v,q5,q6⟩:=(hv _ y cs[i / sz] q1 (List.getElem?_eq_getElem hlt)).2 _ x q2
  obtain ⟨_,g1,g2⟩:=World.cells?_some (h _ cs[i / sz] (List.getElem?_eq_getElem hlt))
  have:=g2 (i % sz) (Nat.mod_lt _ q4)
  have e:(a.add (i / sz*sz)).add (i % sz)=a.add i:=by
   rw[add_add,Nat.mul_comm,Nat.div_add_mod]
  rw[e,q5]at this
  exact ⟨v,this,q6⟩
 refine ⟨fun i=>(w.cell? (a.add i)).getD undef,fun i x hx=>?_,?_⟩
 ·obtain ⟨v,h1,h2⟩:=key i x hx
  simp only[h1,Option.getD_some];exact h2
 ·by_cases h0:ls.flatten=[]
  ·exact .inl h0
  ·refine .inr ⟨a,rfl,?_⟩
   have hpos:0 < ls.flatten.length:=by
    rcases Nat.eq_zero_or_pos ls.flatten.length with h1 | h1
    ·exact absurd (List.length_eq_zero_iff.1 h1) h0
    ·exact h1
   obtain ⟨v0,h1,_⟩:=key 0 _ (List.getElem?_eq_getElem hpos)
   have hsp:a.spot=none:=(cell_spot (by simpa[Addr.add] using h1)).1
   refine ⟨hsp,fun i hi=>?_⟩
   obtain ⟨v,h3,_⟩:=key i _ (List.getElem?_eq_getElem hi)
   have e:=x47 hsp i
   rw[e]at h3
   refine ⟨hK _ _ (cell_spot h3).2,?_⟩
   simp only[e,h3];rfl

theorem x0r {α:Type}{R:Nat→α→Prop}:∀ n:Nat,(∀ i,i < n→∃ x,R i x)→∃ l:List α,l.length=n∧∀ (i:Nat) (x:α),l[i]?=some x→R i x
 | 0,_=>⟨[],rfl,fun i x h=>by simp at h⟩
 | n+1,h=>by
  obtain ⟨l,h1,h2⟩:=x0r n fun i hi=>h i (by omega)
  obtain ⟨x,hx⟩:=h n (by omega)
  refine ⟨l++[x],by simp[h1],fun i y hy=>?_⟩
  rcases Nat.lt_or_ge i l.length with hl | hl
  ·rw[List.getElem?_append_left hl]at hy;exact h2 i y hy
  ·rw[List.getElem?_append_right hl]at hy
   have h0:i-l.length=0:=by
    have:=(List.getElem?_eq_some_iff.1 hy).1
    simp at this;omega
   rw[h0]at hy
   simp at hy;subst hy
   have:i=n:=by omega
   rw[this];exact hx

theorem VRs.flat:∀ (ls:List (List AV)) (cs:List (List Value)),ls.length=cs.length→(∀ (i:Nat) (x:List AV) (c:List Value),ls[i]?=some x→cs[i]?=some c→VRs G w x c)→VRs G w ls.flatten cs.flatten
 | [],[],_,_=>VRs.nil
 | x::ls,c::cs,h,hh=>by
  simp only[List.flatten_cons]
  exact (hh 0 x c rfl rfl).append' (VRs.flat ls cs (by simpa using h) fun i x c hx hc=>hh (i+1) x c (by simpa using hx) (by simpa using hc))

theorem y93:∀ (fs:List Field) (o n:Nat),y2d P o fs n=true→o≤n
 | [],o,n,h=>by simp[y2d]at h;omega
 | f::fs,o,n,h=>by
  simp only[y2d,Bool.and_eq_true]at h
  have:=y93 fs _ _ h.2
  omega

theorem y5h {H:TypeId→List AV→Prop}{cs:List Value}:∀ (fs:List Field) (o:Nat),y2d P o fs cs.length=true →
  (∀ f∈fs,∃ l,H f.type l∧VRs G w l ((cs.drop f.offset).take (P.cellsOf f.type)))→∃ l,y7u H P.cellsOf fs l∧VRs G w l (cs.drop o)
 | [],o,hs,h=>by
  simp[y2d]at hs
  exact ⟨[],rfl,by rw[hs];simpa using VRs.nil⟩
 | f::fs,o,hs,h=>by
  simp only[y2d,Bool.and_eq_true,beq_iff_eq]at hs
  obtain ⟨l,h1,h2⟩:=h f (by simp)
  obtain ⟨l',h3,h4⟩:=y5h fs _ hs.2 fun f hf=>h f (by simp[hf])
  have hle:=y93 fs _ _ hs.2
  refine ⟨l++l',⟨l,l',rfl,?_,h1,h3⟩,?_⟩
  ·rw[← h2.1,List.length_take,List.length_drop,hs.1];omega
  ·have:=h2.append' h4
   rw[hs.1,← List.drop_drop,List.take_append_drop]at this
   exact this

theorem chunks {α:Type}(cs:List α)(sz:Nat):∀ m,cs.length=m*sz→((List.range m).map fun i=>(cs.drop (i*sz)).take sz).flatten=cs:=by
 intro m
 induction m generalizing cs with
 | zero=>intro h;simp at h;simp[h]
 | succ m ih =>
  intro h
  rw[List.range_succ_eq_map,List.map_cons,List.flatten_cons,List.map_map]
  have:=ih (cs.drop sz) (by rw[List.length_drop,h,Nat.succ_mul];omega)
  have e:(fun i=>(cs.drop (i*sz)).take sz) ∘ Nat.succ=fun i=>((cs.drop sz).drop (i*sz)).take sz:=by
   funext i
   simp only[Function.comp,List.drop_drop,Nat.succ_mul]
   congr 2
   omega
  rw[e,this]
  simp

theorem y36 {H:Type}{enc:TypeId×Value→H}{sp:Nat→Bool}{hd:Bool}{T:TypeId→Prop}(K:Kids P T)(hK:y9i G w)(hseq:∀ t,T t→y55 P t=true):∀ (n:Nat) (t:TypeId) (cs:List Value) (r:DataW H×List MemPlace),T t →
  DataW.trod enc P w 0 sp hd n t cs=some r→∃ l,z19 P n t l∧VRs G w l cs
 | 0,t,cs,r,hT,h=>by simp[DataW.trod]at h
 | n+1,t,cs,r,hT,h=>by
  have ih:=y36 (sp:=sp) (hd:=hd) (enc:=enc) K hK hseq n
  have any:(∀ fs,P.underlying t≠some (.struct fs))→(∀ m e,P.underlying t≠some (.array m e))→(∀ e,P.underlying t≠some (.slice e))→P.underlying t≠some .bool→P.underlying t≠some .string→(∀ k,P.underlying t≠some (.int k))→∃ l,z19 P (n+1) t l∧VRs G w l cs:=by
   intro h1 h2 h3 h4 h5 h6
   refine ⟨cs.map fun _=>.bad,?_,by simp,fun i x hx=>?_⟩
   ·unfold z19
    split
    ·exact absurd ‹_› h4
    ·exact absurd ‹_› (h6 _)
    ·exact absurd ‹_› h5
    ·exact absurd ‹_› (h3 _)
    ·exact absurd ‹_› (h1 _)
    ·exact absurd ‹_› (h2 _ _)
    ·trivial
   ·simp only[List.getElem?_map,Option.map_eq_some_iff]at hx
    obtain ⟨v,h1,rfl⟩:=hx
    exact ⟨v,h1,.bad v⟩
  cases hu:P.underlying t with
  | none=>exact any (by simp[hu]) (by simp[hu]) (by simp[hu]) (by simp[hu]) (by simp[hu]) (by simp[hu])
  | some u =>
   cases u with
   | bool =>
    obtain ⟨b,rfl,_⟩:=DataW.trod_bool hu h
    exact ⟨[.bool b],by simp[z19,hu],VRs.one (.bool b)⟩
   | int k =>
    obtain ⟨z,rfl,_,hz⟩:=DataW.trod_int hu h
    exact ⟨[.int k z],by simp only[z19,hu];exact ⟨z,rfl,hz⟩,VRs.one (.int k z)⟩
   | string =>
    obtain ⟨s,rfl,_,hs⟩:=DataW.trod_string hu h
    refine ⟨[.str s.data.toList],by simp only[z19,hu];exact ⟨_,rfl,by rw[Array.length_toList];exact hs⟩,VRs.one ?_⟩
    have:=VR.str (G:=G) (w:=w) s.data.toList
    simpa using this
   | slice e =>
    rcases DataW.trod_slice hu h with ⟨rfl,_⟩ | ⟨a,len,cap,elems,rest,n',hn,rfl,_,_,hc1,hc2,he,hel,_⟩
    ·refine ⟨[.vs [] 0 .none],?_,VRs.one (.vs [] 0 .none none 0 (fun _=>undef) (Nat.le_refl _) (by simp) (.inl rfl) trivial)⟩
     simp only[z19,hu]
     exact ⟨[],rfl,Nat.zero_le _,by simp⟩
    ·obtain rfl:n'=n:=by omega
     obtain ⟨q,hq1,hq2⟩:=x0r (α:=List AV×List Value) (R:=fun i x=>w.cells? 0 (a.add (i*P.cellsOf e)) (P.cellsOf e)=some x.2∧z19 P n' e x.1∧x.1.length=P.cellsOf e∧VRs G w x.1 x.2) len fun i hi=>by
      have h1:=hel i hi
      rw[List.getElem?_eq_getElem (by omega)]at h1
      obtain ⟨c,hc,hy⟩:=Option.bind_eq_some_iff.1 h1
      obtain ⟨l,h1,h2⟩:=ih _ _ _ (K.slice hT hu) hy
      obtain ⟨_,h3,_⟩:=World.cells?_some hc
      exact ⟨(l,c),hc,h1,by rw[← h2.1,h3],h2⟩
     have hg1:∀ (i:Nat) (x:List AV),(q.map (·.1))[i]?=some x→∃ y,q[i]?=some y∧y.1=x:=fun i x hx=>by simpa[List.getElem?_map,Option.map_eq_some_iff] using hx
     have hg2:∀ (i:Nat) (x:List Value),(q.map (·.2))[i]?=some x→∃ y,q[i]?=some y∧y.2=x:=fun i x hx=>by simpa[List.getElem?_map,Option.map_eq_some_iff] using hx
     have hmem:∀ x∈q.map (·.1),x.length=P.cellsOf e∧z19 P n' e x:=fun x hx=>by
      obtain ⟨i,hi⟩:=List.getElem?_of_mem hx
      obtain ⟨y,h1,rfl⟩:=hg1 i x hi
      exact ⟨(hq2 i y h1).2.2.1,(hq2 i y h1).2.1⟩
     obtain ⟨f,hf1,hf2⟩:=x1n hK (a:=a) (sz:=P.cellsOf e) (cs:=q.map (·.2)) (ls:=q.map (·.1))
      (fun i c hc=>by obtain ⟨y,h1,rfl⟩:=hg2 i c hc;exact (hq2 i y h1).1)
      (by simp)
      (fun i x c hx hc=>by
       obtain ⟨y,h1,rfl⟩:=hg1 i x hx
       obtain ⟨z,h2,rfl⟩:=hg2 i c hc
       rw[h1]at h2;cases h2
       exact (hq2 i y h1).2.2.2)
      (fun x hx=>(hmem x hx).1)
     refine ⟨[.vs (q.map (·.1)).flatten (q.map (·.1)).length .none],?_,VRs.one ?_⟩
     ·simp only[z19,hu]
      exact ⟨q.map (·.1),rfl,by simp;omega,hmem⟩
     ·have hlen:(q.map (·.1)).length=len:=by simp[hq1]
      rw[hlen]
      exact .vs _ _ _ _ _ f (by omega) hf1 hf2 trivial
   | struct fs =>
    have hs:=hseq t hT
    unfold y55 at hs
    rw[hu]at hs
    obtain ⟨xs,n',hn,_,hlen,hxs,hel⟩:=DataW.trod_struct hu h
    obtain rfl:n'=n:=by omega
    simp only at hs
    rw[← hlen]at hs
    obtain ⟨l,h1,h2⟩:=y5h (P:=P) (G:=G) (w:=w) (H:=z19 P n') fs.toList 0 hs fun f hf=>by
     obtain ⟨i,hi⟩:=List.getElem?_of_mem hf
     have hi':fs[i]?=some f:=by simpa using hi
     have h1:=hel i f hi'
     have hlt:i < xs.length:=by rw[hxs];exact (Array.getElem?_eq_some_iff.1 hi').1
     rw[List.getElem?_eq_getElem hlt]at h1
     exact ih _ _ _ ((K.struct hT hu).1 f hf) h1
    exact ⟨l,by simpa only[z19,hu] using h1,by simpa using h2⟩
   | array m e =>
    have hs:=hseq t hT
    unfold y55 at hs
    rw[hu]at hs
    simp only[beq_iff_eq]at hs
    obtain ⟨xs,n',hn,_,hlen,hxs,hel⟩:=DataW.trod_array hu h
    obtain rfl:n'=n:=by omega
    obtain ⟨ls,hl1,hl2⟩:=x0r (α:=List AV) (R:=fun i l=>z19 P n' e l∧VRs G w l ((cs.drop (i*P.cellsOf e)).take (P.cellsOf e))) m fun i hi=>by
     have h1:=hel i hi
     rw[List.getElem?_eq_getElem (by omega)]at h1
     exact ih _ _ _ (K.array hT hu).1 h1
    refine ⟨ls.flatten,?_,?_⟩
    ·simp only[z19,hu]
     refine ⟨ls,rfl,hl1,fun x hx=>?_⟩
     obtain ⟨i,hi⟩:=List.getElem?_of_mem hx
     have hlt:=(List.getElem?_eq_some_iff.1 hi).1
     refine ⟨?_,(hl2 i x hi).1⟩
     rw[← (hl2 i x hi).2.1,List.length_take,List.length_drop,hlen,← hs]
     have:(i+1)*P.cellsOf e≤m*P.cellsOf e:=Nat.mul_le_mul_right _ (by omega)
     rw[Nat.succ_mul]at this
     omega
    ·have:=VRs.flat (G:=G) (w:=w) ls ((List.range m).map fun i=>(cs.drop (i*P.cellsOf e)).take (P.cellsOf e)) (by simp[hl1]) fun i x c hx hc=>by
      simp only[List.getElem?_map,Option.map_eq_some_iff]at hc
      obtain ⟨j,hj,rfl⟩:=hc
      have hij:i=j:=by
       obtain ⟨h1,h2⟩:=List.getElem?_eq_some_iff.1 hj
       simpa using h2
      subst hij
      exact (hl2 i x hx).2
     rwa[chunks cs _ m (by rw[hlen,hs])]at this
   | _=>exact any (by simp[hu]) (by simp[hu]) (by simp[hu]) (by simp[hu]) (by simp[hu]) (by simp[hu])
end
end Go.Ev
