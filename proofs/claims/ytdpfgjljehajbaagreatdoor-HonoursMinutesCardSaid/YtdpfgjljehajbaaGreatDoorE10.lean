/- Contracts of functions of the program and of the reference. -/
import Derived.Test.YtdpfgjljehajbaaGreatDoorE5
set_option linter.unusedVariables false
set_option linter.unusedSimpArgs false
namespace Go.Ev
open Go.RowKit
theorem x1b {C:Cx}{G0 G1:Gh}{w0 w1:World}{hs0:List (Option HB)}{S1:St}{nb:Nat}(hn:hs0.length≤nb)(hI0:Inv G0 w0 ⟨hs0,[],[]⟩)(hI1:Inv G1 w1 S1)(hE:Evo G0 w0 G1 w1)
  (hb:(S1.hs.take nb).all (okBlk nb)=true) {r r':AV} {v:Value} (hr':pub C S1.hs nb r=some r') (hv:VR G1 w1 r v) :
  ∃ G2,Inv G2 w1 ⟨(S1.hs.take nb).map (Option.map (z0n 0)),[],[]⟩∧Evo G0 w0 G2 w1∧VR G2 w1 (scrub 0 r') v:=by
 have hσ0:∀ h b,G0.σ h=some b→h < nb:=fun h b hb=>by
  have:=hI0.σ_lt hb
  simp only at this
  omega
 have htk0:∀ k x,G0.tk k≠some x:=by
  intro k x hx
  obtain ⟨b,c,m,z⟩:=x
  obtain ⟨h1,_⟩:=hI0.tdom _ _ _ _ _ hx
  simp at h1
 have hget:∀ h y,((S1.hs.take nb).map (Option.map (z0n 0)))[h]?=some (some y)→h < nb∧∃ x,S1.hs[h]?=some (some x)∧y=z0n 0 x:=by
  intro h y hy
  rw[List.getElem?_map,Option.map_eq_some_iff]at hy
  obtain ⟨x,hx,h2⟩:=hy
  have hl:h < nb:=by
   have:=(List.getElem?_eq_some_iff.1 hx).1
   simp at this;omega
  rw[List.getElem?_take_of_lt hl]at hx
  rw[Option.map_eq_some_iff]at h2
  obtain ⟨z,rfl,rfl⟩:=h2
  exact ⟨hl,z,hx,rfl⟩
 have hok:∀ h x,h < nb→S1.hs[h]?=some (some x)→noHB nb x=true:=by
  intro h x hl hx
  have h1:(S1.hs.take nb)[h]?=some (some x):=by rw[List.getElem?_take_of_lt hl];exact hx
  exact List.all_eq_true.1 hb _ (List.mem_of_getElem? h1)
 have hσ2:∀ h b,(((G1.pubK nb).cut nb).cutT 0).σ h=some b→h < nb∧G1.σ h=some b:=by
  intro h b hx
  simp only[Gh.cutT,Gh.cut,Gh.pubK]at hx
  split at hx
  ·rename_i h1;exact ⟨h1,hx⟩
  ·cases hx
 have htk2:∀ k x,(((G1.pubK nb).cut nb).cutT 0).tk k≠some x:=by
  intro k x hx
  simp[Gh.cutT,Gh.cut,Gh.pubK]at hx
 refine ⟨((G1.pubK nb).cut nb).cutT 0,?_,?_,VR.cutT (Nat.le_refl _) _ (VR.scrub' _ (z9s hI1 r hr' hv))⟩
 ·exact {
   blk:=fun h y hy=>by
    obtain ⟨hl,x,hx,rfl⟩:=hget h y hy
    obtain ⟨b,o,g1,g2,g3⟩:=hI1.blk h x hx
    exact ⟨b,o,by simp[Gh.cutT,Gh.cut,Gh.pubK,hl,g1],g2,((g3.ext (z9c G1 w1 nb)).cut (hok h x hl hx)).cutS⟩
   dom:=fun h b hb=>by
    obtain ⟨hl,h1⟩:=hσ2 h b hb
    obtain ⟨x,hx⟩:=hI1.dom _ _ h1
    exact ⟨z0n 0 x,by simp only[];rw[List.getElem?_map,List.getElem?_take_of_lt hl,hx];rfl⟩
   inj:=fun h h' b h1 h2=>hI1.inj _ _ _ (hσ2 _ _ h1).2 (hσ2 _ _ h2).2
   fr:=fun h b o h1=>by
    obtain ⟨hl,h1⟩:=hσ2 _ _ h1
    rintro (hK | ⟨h',h2,h3⟩)
    ·exact hI1.fr _ _ _ h1 hK
    ·have:=hI1.inj _ _ _ h1 h3;omega
   base:=fun h b h1=>hI1.base _ _ (hσ2 _ _ h1).2
   tok:=fun k m z hk=>by simp at hk
   tdom:=fun k b c m z hk=>absurd hk (htk2 _ _)
   tinj:=fun k k' b c m z c' m' z' h1 h2=>absurd h1 (htk2 _ _)
   tσ:=fun k b c m z h h1 h2=>absurd h1 (htk2 _ _)
   kin:=fun b o hK=>by
    rcases hK with hK | ⟨h',h2,h3⟩
    ·exact hI1.kin _ _ hK
    ·exact hI1.blk_lt h3
   bin:=hI1.bin }
 ·exact {
   k:=fun b o hK=>.inl (hE.k _ _ hK)
   cell:=hE.cell
   σ:=fun h b hb=>by
    have:=hE.σ _ _ hb
    simp[Gh.cutT,Gh.cut,Gh.pubK,hσ0 _ _ hb,this]
   σn:=fun h b hb=>hE.σn _ _ (hσ2 _ _ hb).2
   tk:=fun k b c m z hk=>absurd hk (htk0 _ _)
   tkn:=fun k b c m z hk=>absurd hk (htk2 _ _)
   kn:=fun b o hK=>by
    rcases hK with hK | ⟨h',h2,h3⟩
    ·exact hE.kn _ _ hK
    ·rcases hE.σn _ _ h3 with h4 | h4
     ·have:=hσ0 _ _ h4;omega
     ·exact .inr (.inl h4)
   B:=hE.B
   size:=hE.size
   os:=hE.os
   tape:=hE.tape
   output:=hE.output
   frame:=hE.frame }
section
variable (C:WCx)
def z7w (ne:Nat)(g:FuncId)(Q:CR→List (Option HB)→Prop):Kont:=fun x e s=>match C.P.funcs[g]? with
 | some fn=>match x with
  | .normal=>z2b (z0v C.pc fn e s) fun r=>z2b (pub C.pc s.hs ne r) fun r'=>cIf ((s.hs.take ne).all (okBlk ne)) (Q (.ret (scrub 0 r')) ((s.hs.take ne).map (Option.map (z0n 0)))) False
  | .ret=>z2b (z0v C.pc fn e s) fun r=>z2b (pub C.pc s.hs ne r) fun r'=>cIf ((s.hs.take ne).all (okBlk ne)) (Q (.ret (scrub 0 r')) ((s.hs.take ne).map (Option.map (z0n 0)))) False
  | _=>False
 | none=>False
def wpE (ne:Nat)(g:FuncId)(args:List AV)(hs:List (Option HB))(Q:CR→List (Option HB)→Prop):Prop:=match C.P.funcs[g]? with
 | some fn=>match fn.body with
  | some c=>wpC C c (args++List.replicate (fn.ntmps-args.length) .bad) ⟨hs,[],[]⟩ (z7w C ne g Q)
  | none=>False
 | none=>False
end
section
variable {C:WCx}
theorem x7t (ho:C.Ones)(hC:CxOk C.cx){ne:Nat}{g:FuncId}{args:List AV}{hs:List (Option HB)}(hn:hs.length=C.bs)(hne:hs.length≤ne){Q:CR→List (Option HB)→Prop}(h:wpE C ne g args hs Q):∃ r hs',CallOk C.cx g args ⟨hs,[],[]⟩ r ⟨hs',[],[]⟩∧Q r hs':=by
 unfold wpE at h
 split at h
 case h_2=>exact h.elim
 rename_i fn hfn
 split at h
 case h_2=>exact h.elim
 rename_i c hc
 obtain ⟨x,e,s,h1,h2⟩:=z89 ho hC _ _ _ _ h
 unfold z7w at h2
 rw[hfn]at h2
 simp only at h2
 have main:(z2b (z0v C.pc fn e s) fun r=>z2b (pub C.pc s.hs ne r) fun r'=>cIf ((s.hs.take ne).all (okBlk ne)) (Q (.ret (scrub 0 r')) ((s.hs.take ne).map (Option.map (z0n 0)))) False)→(x=.normal∨x=.ret) →
   ∃ r hs',CallOk C.cx g args ⟨hs,[],[]⟩ r ⟨hs',[],[]⟩∧Q r hs':=by
  intro h2 hx
  obtain ⟨v,q1,h2⟩:=z1j h2
  obtain ⟨r',q2,h2⟩:=z1j h2
  obtain ⟨q3,h2⟩:=z0r h2
  refine ⟨_,_,?_,h2⟩
  intro G w us hI hg has
  refine (callsIn_wide (n:=0)).1 (callsIn_of_wp hfn hc trivial ?_)
  have hb:G.Under C.bs:=⟨fun h hge=>by
   cases hs':G.σ h with
   | none=>rfl
   | some b =>
    have:=hI.σ_lt hs'
    simp only[hn]at this
    omega,fun k=>by
   cases hs:G.tk k with
   | none=>rfl
   | some x=>obtain ⟨b,c,m,z⟩:=x;have:=(hI.tdom _ _ _ _ _ hs).1;simp at this⟩
  have he:=z81 has fn.ntmps
  refine h1.run (hC.codes g fn c hfn hc) G w hb hg none 0 [] G w _ (Evo.refl G w) hI he rfl _ ?_
  rintro e0 a' w' ⟨G1,p1,p2,p3,p4,p5⟩
  have ret:a'.defers=[]∧∃ v,(results fn a'.tmps).run C.P w'=.ok v w'∧z6h G w (.ret (scrub 0 r')) ⟨(s.hs.take ne).map (Option.map (z0n 0)),[],[]⟩ (.returned v) w':=by
   obtain ⟨u,u1,u2⟩:=z3n p1 p3 ((z7v (C:=C) _ _ _).trans q1)
   obtain ⟨G2,r1,r2,r3⟩:=x1b (C:=C.pc) hne hI p1 p2 q3 q2 u1
   exact ⟨p4,u,u2,G2,r1,r2,u,rfl,r3⟩
  rcases hx with rfl | rfl
  ·simp only[ExR]at p5;subst p5;exact ret
  ·simp only[ExR]at p5;subst p5;exact ret
 cases x with
 | normal=>exact main h2 (.inl rfl)
 | ret=>exact main h2 (.inr rfl)
 | exit i=>exact h2.elim
 | pan v=>exact h2.elim
end

mutual
def mvA (m:Nat):AV→AV
 | .agg l=>.agg (mvL m l)
 | .tup l=>.tup (mvL m l)
 | .vs l n t=>.vs (mvL m l) n t
 | .vp l=>.vp (mvL m l)
 | .ptr h o=>.ptr (h+m) o
 | .row h o n c=>.row (h+m) o n c
 | .mp h=>.mp (h+m)
 | .fn f a b=>.fn f (mvL m a) (mvL m b)
 | .ifc t a=>.ifc t (mvA m a)
 | a=>a
def mvL (m:Nat):List AV→List AV
 | []=>[]
 | a::l=>mvA m a::mvL m l
end
def mvB (m:Nat):HB→HB
 | .cells l t=>.cells (mvL m l) t
 | .map es=>.map (es.map fun e=>(mvA m e.1,mvA m e.2))
 | .iter s p=>.iter s p
def mvR (m:Nat):CR→CR
 | .ret a=>.ret (mvA m a)
 | .pan a=>.pan (mvA m a)
theorem z2j (m:Nat):∀ l:List AV,(mvL m l).length=l.length
 | []=>rfl
 | a::l=>by simp[mvL,z2j m l]
theorem y6j (m:Nat):∀ (l:List AV) (i:Nat),(mvL m l)[i]?=(l[i]?).map (mvA m)
 | [],i=>by simp[mvL]
 | a::l,0=>by simp[mvL]
 | a::l,i+1=>by simpa[mvL] using y6j m l i
theorem z9g {m:Nat}{l:List AV}{i:Nat}{a:AV}(h:(mvL m l)[i]?=some a):∃ b,l[i]?=some b∧a=mvA m b:=by
 rw[y6j,Option.map_eq_some_iff]at h
 obtain ⟨b,h1,rfl⟩:=h
 exact ⟨b,h1,rfl⟩
structure Shf (m:Nat) (G G':Gh):Prop where
 σ:∀ h b,G.σ h=some b→G'.σ (h+m)=some b
 K:∀ b o,G.K b o→G'.K b o
 tk:∀ k x,G.tk k≠some x
section
variable {m:Nat}{G G':Gh}{w:World}
theorem VR.shift (hS:Shf m G G'){a:AV}{v:Value}(h:VR G w a v):VR G' w (mvA m a) v:=by
 induction h with
 | bad v=>exact .bad v
 | int k n=>exact .int k n
 | bool b=>exact .bool b
 | str s=>exact .str s
 | raw r=>exact .raw r
 | agg l cs hs h ih =>
  refine .agg _ cs (by rw[z2j];exact hs) fun i a ha=>?_
  obtain ⟨b,h1,rfl⟩:=z9g ha
  exact ih i b h1
 | tup l cs hs h ih =>
  refine .tup _ cs (by rw[z2j];exact hs) fun i a ha=>?_
  obtain ⟨b,h1,rfl⟩:=z9g ha
  exact ih i b h1
 | vs l n t A c f hc h hh ht ih =>
  refine .vs _ n t A c f hc (fun i a ha=>?_) ?_ ?_
  ·obtain ⟨b,h1,rfl⟩:=z9g ha
   exact ih i b h1
  ·rcases hh with rfl | ⟨ad,h1,h2⟩
   ·exact .inl rfl
   ·refine .inr ⟨ad,h1,h2.1,fun i hi=>?_⟩
    rw[z2j]at hi
    exact ⟨hS.K _ _ (h2.2 i hi).1,(h2.2 i hi).2⟩
  ·cases t with
   | none=>trivial
   | zero=>exact ht
   | own k=>obtain ⟨b,c',m',z,h1,_⟩:=ht;exact absurd h1 (hS.tk _ _)
 | vp l ad f h hh ih =>
  refine .vp _ ad f (fun i a ha=>?_) ⟨hh.1,fun i hi=>?_⟩
  ·obtain ⟨b,h1,rfl⟩:=z9g ha
   exact ih i b h1
  ·rw[z2j]at hi
   exact ⟨hS.K _ _ (hh.2 i hi).1,(hh.2 i hi).2⟩
 | ptr h off b hb=>exact .ptr _ off b (hS.σ _ _ hb)
 | row h off n c b hb hc=>exact .row _ off n c b (hS.σ _ _ hb) hc
 | mp h b hb=>exact .mp _ b (hS.σ _ _ hb)
 | fn f a b us vs ha hb h1 h2 ih1 ih2 =>
  refine .fn f _ _ us vs (by rw[z2j];exact ha) (by rw[z2j];exact hb) (fun i x hx=>?_) fun i x hx=>?_
  ·obtain ⟨y,q1,rfl⟩:=z9g hx
   exact ih1 i y q1
  ·obtain ⟨y,q1,rfl⟩:=z9g hx
   exact ih2 i y q1
 | ifc t a v h ih=>exact .ifc t _ v ih
theorem HR.shift (hS:Shf m G G'){x:HB}{o:Obj}(h:HR G w x o):HR G' w (mvB m x) o:=by
 cases h with
 | cells l t cs hs h =>
  refine .cells _ t cs (by rw[z2j];exact hs) fun i a ha=>?_
  obtain ⟨b,h1,rfl⟩:=z9g ha
  exact (h i b h1).shift hS
 | map es ms clock p hp hs hst h =>
  refine .map _ ms clock p hp (by rw[List.length_map];exact hs) hst fun i k v hi=>?_
  rw[List.getElem?_map,Option.map_eq_some_iff]at hi
  obtain ⟨⟨k0,v0⟩,h1,h2⟩:=hi
  cases h2
  obtain ⟨q,q1,q2,q3⟩:=h i k0 v0 h1
  exact ⟨q,q1,q2.shift hS,q3.shift hS⟩
 | iter s pos=>exact .iter s pos
end

theorem CallOk.reloc {C:Cx}(hgt:z1v C){g:FuncId}{args:List AV}{r:CR}{hs1:List (Option HB)}(h:CallOk C g (z0e 0 args) St.nil r ⟨hs1,[],[]⟩)(ha:Ev.noHL 0 args=true)(S:St) :
  CallOk C g args S (mvR S.hs.length r) { S with hs:=S.hs++hs1.map (Option.map (mvB S.hs.length)) }:=by
 intro G w us0 hI hg has
 have hg0:GtR C (G.bare w) w:=fun x l hl=>by
  have h1:=(hg x l hl).bare (by simp[Ev.noH,(hgt x l hl).1])
  have h2:scrub 0 (.vp l)=.vp l:=by
   simp only[scrub]
   congr 1
   exact z17 l (hgt x l hl).2
  rwa[h2]at h1
 have hc:=h (G.bare w) w us0 hI.bare hg0 (has.bare ha)
 refine hc.mono fun e w' hp=>?_
 obtain ⟨G0',q1,q2,q3⟩:=hp
 have htk:∀ k x,G0'.tk k≠some x:=fun k x hk=>by obtain ⟨b,c,m,z⟩:=x;have:=(q1.tdom _ _ _ _ _ hk).1;simp at this
 have hσn:∀ k b,G0'.σ k=some b→w.heap.size≤b:=fun k b hk=>by
  rcases q2.σn _ _ hk with h1 | h1
  ·simp[Gh.bare]at h1
  ·exact h1
 have hkn:∀ b o,G0'.K b o→G.K b o∨w.heap.size≤b:=fun b o hk=>by
  rcases q2.kn b o hk with h1 | h1 | ⟨k,c,m,z,h1⟩
  ·exact .inl h1
  ·exact .inr h1
  ·simp[Gh.bare]at h1
 have hold:∀ b,b < w.heap.size→w'.heap[b]?=w.heap[b]?:=fun b hb=>q2.frame b hb (fun x hx=>by simp[Gh.bare]at hx) (fun k c m z hx=>by simp[Gh.bare]at hx)
 let n:=S.hs.length
 let G3:Gh:={ σ:=fun x=>if x < n then G.σ x else G0'.σ (x-n),tk:=G.tk,K:=G0'.K,B:=G.B }
 have s1:∀ x,x < n→G3.σ x=G.σ x:=fun x hx=>if_pos hx
 have s2:∀ x,¬ x < n→G3.σ x=G0'.σ (x-n):=fun x hx=>if_neg hx
 have hS:Shf n G0' G3:=⟨fun x b hx=>by rw[s2 _ (by omega),Nat.add_sub_cancel];exact hx,fun _ _ hk=>hk,htk⟩
 have ext2:Ext G w G3 w':=⟨fun b o hk=>q2.k b o hk,fun b o hk=>q2.cell b o hk,fun x b hx=>by rw[s1 _ (hI.σ_lt hx)];exact hx,fun k b c m z hk=>⟨b,c,m,hk,.inl ⟨rfl,rfl,rfl⟩⟩⟩
 refine ⟨G3,?_,?_,?_⟩
 ·exact {
   blk:=fun k hb hk=>by
    simp only at hk
    rcases Nat.lt_or_ge k n with hkn' | hkn'
    ·rw[List.getElem?_append_left hkn']at hk
     obtain ⟨b,o,h1,h2,h3⟩:=hI.blk k hb hk
     exact ⟨b,o,by rw[s1 _ hkn'];exact h1,(hold b (hI.blk_lt h1)).trans h2,h3.ext ext2⟩
    ·rw[List.getElem?_append_right hkn',List.getElem?_map,Option.map_eq_some_iff]at hk
     obtain ⟨x,hx,h2⟩:=hk
     rw[Option.map_eq_some_iff]at h2
     obtain ⟨y,rfl,rfl⟩:=h2
     obtain ⟨b,o,h1,h2,h3⟩:=q1.blk (k-n) y hx
     exact ⟨b,o,by rw[s2 _ (by omega)];exact h1,h2,h3.shift hS⟩
   dom:=fun k b hk=>by
    rcases Nat.lt_or_ge k n with hkn' | hkn'
    ·rw[s1 _ hkn']at hk
     obtain ⟨x,hx⟩:=hI.dom _ _ hk
     exact ⟨x,by simp only;rw[List.getElem?_append_left hkn'];exact hx⟩
    ·rw[s2 _ (by omega)]at hk
     obtain ⟨x,hx⟩:=q1.dom _ _ hk
     simp only at hx
     refine ⟨mvB n x,?_⟩
     simp only
     rw[List.getElem?_append_right hkn',List.getElem?_map,hx]
     rfl
   inj:=fun k k' b h1 h2=>by
    rcases Nat.lt_or_ge k n with hk | hk<;>rcases Nat.lt_or_ge k' n with hk' | hk'
    ·rw[s1 _ hk]at h1;rw[s1 _ hk']at h2;exact hI.inj _ _ _ h1 h2
    ·rw[s1 _ hk]at h1;rw[s2 _ (by omega)]at h2
     have:=hI.blk_lt h1;have:=hσn _ _ h2;omega
    ·rw[s2 _ (by omega)]at h1;rw[s1 _ hk']at h2
     have:=hI.blk_lt h2;have:=hσn _ _ h1;omega
    ·rw[s2 _ (by omega)]at h1 h2
     have:=q1.inj _ _ _ h1 h2;omega
   fr:=fun k b o hk hK=>by
    rcases Nat.lt_or_ge k n with hk' | hk'
    ·rw[s1 _ hk']at hk
     rcases hkn b o hK with h1 | h1
     ·exact hI.fr k b o hk h1
     ·have:=hI.blk_lt hk;omega
    ·rw[s2 _ (by omega)]at hk
     exact q1.fr _ _ _ hk hK
   base:=fun k b hk=>by
    show G.B≤b
    rcases Nat.lt_or_ge k n with hk' | hk'
    ·rw[s1 _ hk']at hk;exact hI.base _ _ hk
    ·rw[s2 _ (by omega)]at hk
     exact Nat.le_trans hI.bin (hσn _ _ hk)
   tok:=hI.tok
   tdom:=fun k b c m z hk=>by
    obtain ⟨h1,h2,h3,h4,h5,⟨cs,e,⟨fz,h6,h7⟩,h8,h9⟩,h10⟩:=hI.tdom k b c m z hk
    refine ⟨h1,h2,h3,h4,h5,⟨cs,e,⟨fz,(hold b (hI.tk_lt hk)).trans h6,h7⟩,h8,h9⟩,fun o hK=>?_⟩
    rcases hkn b o hK with h11 | h11
    ·exact h10 o h11
    ·have:=hI.tk_lt hk;omega
   tinj:=hI.tinj
   tσ:=fun k b c m z x hk hx=>by
    rcases Nat.lt_or_ge x n with hx' | hx'
    ·rw[s1 _ hx']at hx;exact hI.tσ _ _ _ _ _ _ hk hx
    ·rw[s2 _ (by omega)]at hx
     have:=hI.tk_lt hk;have:=hσn _ _ hx;omega
   kin:=q1.kin
   bin:=Nat.le_trans hI.bin q2.size }
 ·exact {
   k:=q2.k
   cell:=q2.cell
   σ:=ext2.σ
   σn:=fun x b hx=>by
    rcases Nat.lt_or_ge x n with hx' | hx'
    ·rw[s1 _ hx']at hx;exact .inl hx
    ·rw[s2 _ (by omega)]at hx;exact .inr (hσn _ _ hx)
   tk:=fun k b c m z hk=>⟨b,c,m,hk,.inl ⟨rfl,rfl,rfl⟩⟩
   tkn:=fun k b c m z hk=>.inl ⟨c,m,z,hk⟩
   kn:=fun b o hk=>by
    rcases hkn b o hk with h1 | h1
    ·exact .inl h1
    ·exact .inr (.inl h1)
   B:=rfl
   size:=q2.size
   os:=q2.os
   tape:=q2.tape
   output:=q2.output
   frame:=fun b hb _ _=>hold b hb }
 ·cases r with
  | ret a=>obtain ⟨v,h1,h2⟩:=q3;exact ⟨v,h1,h2.shift hS⟩
  | pan a=>obtain ⟨v,h1,h2⟩:=q3;exact ⟨v,h1,h2.shift hS⟩

abbrev SpcN:=List AV→Option (Prop×CR×List (Option HB))
structure CtN (C0:Cx) (g:FuncId) (R:SpcN):Prop where
 body:∃ (fn:Func) (c:Code),C0.P.funcs[g]?=some fn∧fn.body=some c
 ok:∀ args (D:Prop) r hs,R args=some (D,r,hs)→D→noHL 0 args=true∧CallOk C0 g (z0e 0 args) St.nil r ⟨hs,[],[]⟩
def y7k (R:SpcN)(args:List AV)(S:St)(k:CR→St→Prop):Prop:=match R args with
 | some (D,r,hs)=>D∧k (mvR S.hs.length r) { S with hs:=S.hs++hs.map (Option.map (mvB S.hs.length)) }
 | none=>False
theorem x2h (R:SpcN):One (y7k R):=by
 intro args S
 unfold y7k
 cases h:R args with
 | none=>exact ⟨(.ret .bad,S),False,fun k=>by simp⟩
 | some p=>obtain ⟨D,r,hs⟩:=p;exact ⟨(_,_),D,fun k=>Iff.rfl⟩
theorem Wl.app (S:St)(l:List (Option HB)):Wl S { S with hs:=S.hs++l }:=⟨by simp,Nat.le_refl _,fun _ h=>h,fun h hl _=>by simp only;rw[List.getElem?_append_left hl]⟩
theorem CtN.hook {C0:Cx}(hgt:z1v C0){g:FuncId}{R:SpcN}(h:CtN C0 g R):HookOk C0 g (y7k R) where
 one:=x2h R
 body:=h.body
 ok:=fun args S r S' hw=>by
  unfold y7k at hw
  split at hw
  ·rename_i D r' hs hR
   obtain ⟨hD,rfl,rfl⟩:=hw
   obtain ⟨h1,h2⟩:=h.ok args D r' hs hR hD
   exact ⟨h2.reloc hgt h1 S,Wl.app S _⟩
  ·exact hw.elim
section
variable {B:Base}{l:List (FuncId×Spc)}{lm:List (Nat×List Nat)}{tp ct:List Nat}{sm:List (Nat×Nat)}
theorem y0k (hB:BaseOk B)(hl:Cts B l){g:FuncId}{args:List AV}{hs:List (Option HB)}{r:CR}(h:wpE (B.wcx l lm tp ct sm) hs.length g args [] fun r' h'=>r'=r∧h'=hs):CallOk B.c0 g args St.nil r ⟨hs,[],[]⟩:=by
 obtain ⟨r',h',h1,rfl,rfl⟩:=x7t (C:=B.wcx l lm tp ct sm) (z7l hB hl) (y0m hB hl) rfl (Nat.zero_le _) h
 exact h1
theorem CtN.of_wp (hB:BaseOk B)(hl:Cts B l){g:FuncId}{R:SpcN}(hb:∃ (fn:Func) (c:Code),B.P.funcs[g]?=some fn∧fn.body=some c)
  (h:∀ args (D:Prop) r hs,R args=some (D,r,hs)→D→noHL 0 args=true∧wpE (B.wcx l lm tp ct sm) hs.length g (z0e 0 args) [] fun r' h'=>r'=r∧h'=hs):CtN B.c0 g R :=
 ⟨hb,fun args D r hs hR hD=>⟨(h args D r hs hR hD).1,y0k hB hl (h args D r hs hR hD).2⟩⟩
end
end Go.Ev
