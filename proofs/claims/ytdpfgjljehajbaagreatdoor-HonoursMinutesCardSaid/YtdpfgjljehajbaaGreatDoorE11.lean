/- Contracts of functions of the program and of the reference. -/
import Derived.Test.YtdpfgjljehajbaaGreatDoorE10
import Derived.Test.YtdpfgjljehajbaaGreatDoorE7
import Derived.Test.YtdpfgjljehajbaaGreatDoorE6
set_option linter.unusedVariables false
set_option linter.unusedSimpArgs false
namespace Go.Ev
open Go.RowKit
def Gh.seg (G:Gh)(m nb:Nat):Gh:={ σ:=fun k=>if k < nb then G.σ (k+m) else none,tk:=fun _=>none,K:=G.K,B:=G.B }
theorem y02 {G:Gh}{m nb k b:Nat}(h:(G.seg m nb).σ k=some b):k < nb∧G.σ (k+m)=some b:=by
 simp only[Gh.seg]at h
 split at h
 ·rename_i h1;exact ⟨h1,h⟩
 ·cases h
theorem y0o {G:Gh}{m nb k b:Nat}(hk:k < nb)(h:G.σ (k+m)=some b):(G.seg m nb).σ k=some b:=by
 simp only[Gh.seg,if_pos hk,h]
section
variable {G:Gh}{w:World}{m nb:Nat}
theorem z5n {l:List AV}{i:Nat}{a:AV}(h:l[i]?=some a):(mvL m l)[i]?=some (mvA m a):=by rw[y6j,h];rfl
theorem VR.unmv {a':AV}{v:Value}(h:VR G w a' v):∀ a,a'=mvA m a→Ev.noH nb a=true→Ev.noT 0 a=true→VR (G.seg m nb) w a v:=by
 induction h with
 | bad v=>intro a e h1 h2;cases a<;>simp[mvA]at e;exact .bad v
 | int k n=>intro a e h1 h2;cases a<;>simp[mvA]at e;obtain ⟨rfl,rfl⟩:=e;exact .int _ _
 | bool b=>intro a e h1 h2;cases a<;>simp[mvA]at e;subst e;exact .bool _
 | str s=>intro a e h1 h2;cases a<;>simp[mvA]at e;subst e;exact .str _
 | raw r=>intro a e h1 h2;cases a<;>simp[mvA]at e;subst e;exact .raw _
 | agg l cs hs h ih =>
  intro a e h1 h2
  cases a<;>simp[mvA]at e
  subst e
  simp only[Ev.noH]at h1
  simp only[Ev.noT]at h2
  rw[z2j]at hs
  exact .agg _ cs hs fun i x hx=>ih i _ (z5n hx) x rfl (z1a h1 hx) (z3k h2 hx)
 | tup l cs hs h ih =>
  intro a e h1 h2
  cases a<;>simp[mvA]at e
  subst e
  simp only[Ev.noH]at h1
  simp only[Ev.noT]at h2
  rw[z2j]at hs
  exact .tup _ cs hs fun i x hx=>ih i _ (z5n hx) x rfl (z1a h1 hx) (z3k h2 hx)
 | vs l n t A c f hc h hh ht ih =>
  intro a e h1 h2
  cases a with
  | vs l0 n0 t0 =>
   simp only[mvA,AV.vs.injEq]at e
   obtain ⟨e,rfl,rfl⟩:=e
   subst e
   simp only[Ev.noH]at h1
   simp only[Ev.noT,Bool.and_eq_true]at h2
   refine .vs _ _ _ A c f hc (fun i x hx=>ih i _ (z5n hx) x rfl (z1a h1 hx) (z3k h2.2 hx)) ?_ ?_
   ·rcases hh with hh | ⟨ad,g1,g2⟩
    ·left
     cases l0 with
     | nil=>rfl
     | cons=>simp[mvL]at hh
    ·rw[z2j]at g2
     exact .inr ⟨ad,g1,g2⟩
   ·cases t with
    | none=>trivial
    | zero=>exact ht
    | own k=>simp at h2
  | _=>simp[mvA]at e
 | vp l ad f h hh ih =>
  intro a e h1 h2
  cases a<;>simp[mvA]at e
  subst e
  simp only[Ev.noH]at h1
  simp only[Ev.noT]at h2
  rw[z2j]at hh
  exact .vp _ ad f (fun i x hx=>ih i _ (z5n hx) x rfl (z1a h1 hx) (z3k h2 hx)) hh
 | ptr h off b hb =>
  intro a e h1 h2
  cases a<;>simp[mvA]at e
  obtain ⟨rfl,rfl⟩:=e
  simp only[Ev.noH,decide_eq_true_eq]at h1
  exact .ptr _ _ b (y0o h1 hb)
 | row h off n c b hb hc =>
  intro a e h1 h2
  cases a<;>simp[mvA]at e
  obtain ⟨rfl,rfl,rfl,rfl⟩:=e
  simp only[Ev.noH,decide_eq_true_eq]at h1
  exact .row _ _ _ _ b (y0o h1 hb) hc
 | mp h b hb =>
  intro a e h1 h2
  cases a<;>simp[mvA]at e
  subst e
  simp only[Ev.noH,decide_eq_true_eq]at h1
  exact .mp _ b (y0o h1 hb)
 | fn f x y us vs ha hb g1 g2 ih1 ih2 =>
  intro a e h1 h2
  cases a<;>simp[mvA]at e
  obtain ⟨rfl,e1,e2⟩:=e
  subst e1;subst e2
  simp only[Ev.noH,Bool.and_eq_true]at h1
  simp only[Ev.noT,Bool.and_eq_true]at h2
  rw[z2j]at ha hb
  exact .fn _ _ _ us vs ha hb (fun i x hx=>ih1 i _ (z5n hx) x rfl (z1a h1.1 hx) (z3k h2.1 hx)) (fun i x hx=>ih2 i _ (z5n hx) x rfl (z1a h1.2 hx) (z3k h2.2 hx))
 | ifc t x v h ih =>
  intro a e h1 h2
  cases a<;>simp[mvA]at e
  obtain ⟨rfl,rfl⟩:=e
  simp only[Ev.noH]at h1
  simp only[Ev.noT]at h2
  exact .ifc _ _ v (ih _ rfl h1 h2)
theorem HR.unmv {x:HB}{o:Obj}(h:HR G w (mvB m x) o)(h1:Go.Ev.noHB nb x=true)(h2:y1a 0 x=true):HR (G.seg m nb) w x o:=by
 cases x with
 | cells l t =>
  simp only[mvB]at h
  cases h with
  | cells _ _ cs hs h =>
   rw[z2j]at hs
   exact .cells l t cs hs fun i a ha=>(h i _ (z5n ha)).unmv a rfl (z1a (by simpa[Go.Ev.noHB] using h1) ha) (z3k (by simpa[y1a] using h2) ha)
 | map es =>
  simp only[mvB]at h
  simp only[Go.Ev.noHB,List.all_eq_true]at h1
  simp only[y1a,List.all_eq_true]at h2
  cases h with
  | map _ ms clock p hp hs hst h =>
   rw[List.length_map]at hs
   refine .map es ms clock p hp hs hst fun i k v hi=>?_
   obtain ⟨q,q1,q2,q3⟩:=h i (mvA m k) (mvA m v) (by rw[List.getElem?_map,hi];rfl)
   have hm:=List.mem_of_getElem? hi
   have a1:=h1 _ hm
   have a2:=h2 _ hm
   simp only[Bool.and_eq_true]at a1 a2
   exact ⟨q,q1,q2.unmv k rfl a1.1 a2.1,q3.unmv v rfl a1.2 a2.2⟩
 | iter s p =>
  simp only[mvB]at h
  cases h
  exact .iter s p
theorem VRs.unmv {l:List AV}{us:List Value}(h:VRs G w (mvL m l) us)(h1:Ev.noHL nb l=true)(h2:z1y 0 l=true):VRs (G.seg m nb) w l us:=by
 refine ⟨by rw[h.1,z2j],fun i x hx=>?_⟩
 obtain ⟨v,g1,g2⟩:=h.2 i _ (z5n hx)
 exact ⟨v,g1,g2.unmv x rfl (z1a h1 hx) (z3k h2 hx)⟩
end
theorem Ext.seg {G:Gh}{w:World}(m nb:Nat):Ext (G.bare w) w (G.seg m nb) w:=⟨fun _ _ h=>h,fun _ _ _=>rfl,fun _ _ h=>(by cases h),fun _ _ _ _ _ h=>(by cases h)⟩
def x0x (n:Nat):Option HB→Bool
 | some b=>noHB n b && y1a 0 b
 | none=>false
section
variable {C:Cx}
theorem CallOk.seg (hgt:z1v C){g:FuncId}{args:List AV}{r:CR}{hs hs':List (Option HB)}{m nb:Nat}(h:CallOk C g args ⟨hs,[],[]⟩ r ⟨hs',[],[]⟩)
  (ha:noHL nb args=true) (hat:z1y 0 args=true) (hok:hs.all (x0x nb)=true) (hl:hs.length=nb) (hl':hs'.length=nb) {S S':St}
  (hS:∀ i x,hs[i]?=some (some x)→S.hs[i+m]?=some (some (mvB m x))) (hb:m+nb≤S.hs.length) (h1:S'.hs.length=S.hs.length) (h2:∀ k,k < m∨m+nb≤k→S'.hs[k]?=S.hs[k]?)
  (h3:∀ i,i < nb→S'.hs[i+m]?=(hs'[i]?).map (Option.map (mvB m))) (h4:S'.ts=S.ts):CallOk C g (mvL m args) S (mvR m r) S':=by
 intro G w us hI hg has
 have hx:∀ i,i < nb→∃ x,hs[i]?=some (some x)∧noHB nb x=true∧y1a 0 x=true:=fun i hi=>by
  have h5:i < hs.length:=by omega
  have h6:=List.all_eq_true.1 hok _ (List.getElem_mem h5)
  cases hx:hs[i] with
  | none=>rw[hx]at h6;cases h6
  | some x =>
   rw[hx]at h6
   simp only[x0x,Bool.and_eq_true]at h6
   exact ⟨x,by rw[List.getElem?_eq_getElem h5,hx],h6.1,h6.2⟩
 have hI0:Inv (G.seg m nb) w ⟨hs,[],[]⟩:={
  blk:=fun k y hk=>by
   simp only at hk
   have hlt:k < nb:=by have:=(List.getElem?_eq_some_iff.1 hk).1;omega
   obtain ⟨x,e1,e2,e3⟩:=hx k hlt
   rw[hk]at e1
   cases e1
   obtain ⟨b,o,g1,g2,g3⟩:=hI.blk _ _ (hS k y hk)
   exact ⟨b,o,y0o hlt g1,g2,g3.unmv e2 e3⟩
  dom:=fun k b hk=>by
   obtain ⟨hlt,_⟩:=y02 hk
   obtain ⟨x,e1,_⟩:=hx k hlt
   exact ⟨x,e1⟩
  inj:=fun k k' b e1 e2=>by
   have:=hI.inj _ _ _ (y02 e1).2 (y02 e2).2
   omega
  fr:=fun k b o e1=>hI.fr _ _ _ (y02 e1).2
  base:=fun k b e1=>hI.base _ _ (y02 e1).2
  tok:=fun k m z hk=>by simp at hk
  tdom:=fun k b c m z hk=>by simp[Gh.seg]at hk
  tinj:=fun k k' b c m z c' m' z' hk=>by simp[Gh.seg]at hk
  tσ:=fun k b c m z h hk=>by simp[Gh.seg]at hk
  kin:=hI.kin
  bin:=hI.bin }
 have hg0:GtR C (G.seg m nb) w:=fun x l hl=>by
  have e1:=((hg x l hl).bare (by simp only[Ev.noH];exact (hgt x l hl).1)).ext (Ext.seg (G:=G) (w:=w) m nb)
  have e2:scrub 0 (.vp l)=.vp l:=by
   simp only[scrub]
   congr 1
   exact z17 l (hgt x l hl).2
  rwa[e2]at e1
 have hc:=h (G.seg m nb) w us hI0 hg0 (has.unmv ha hat)
 refine hc.mono fun e w' hp=>?_
 obtain ⟨G0',q1,q2,q3⟩:=hp
 have hσ:∀ k b,G0'.σ k=some b→k < nb∧G.σ (k+m)=some b:=fun k b hk=>by
  have hlt:k < nb:=by
   obtain ⟨y,hy⟩:=q1.dom _ _ hk
   have:=(List.getElem?_eq_some_iff.1 hy).1
   simp only at this;omega
  obtain ⟨x,e1,_⟩:=hx k hlt
  obtain ⟨b0,o,g1,g2,g3⟩:=hI.blk _ _ (hS k x e1)
  have:=q2.σ _ _ (y0o hlt g1)
  rw[hk]at this
  cases this
  exact ⟨hlt,g1⟩
 have hσ':∀ k b,k < nb→G.σ (k+m)=some b→G0'.σ k=some b:=fun k b hk h5=>q2.σ _ _ (y0o hk h5)
 have htk:∀ k x,G0'.tk k≠some x:=fun k x hk=>by obtain ⟨b,c,m,z⟩:=x;have:=(q1.tdom _ _ _ _ _ hk).1;simp at this
 have hkn:∀ b o,G0'.K b o→G.K b o∨w.heap.size≤b:=fun b o hk=>by
  rcases q2.kn b o hk with h5 | h5 | ⟨k,c,m,z,h5⟩
  ·exact .inl h5
  ·exact .inr h5
  ·simp[Gh.seg]at h5
 have hold:∀ b,b < w.heap.size→(∀ k,k < nb→G.σ (k+m)≠some b)→w'.heap[b]?=w.heap[b]?:=fun b hb h5=>q2.frame b hb (fun k hk=>h5 k (y02 hk).1 (y02 hk).2) (fun k c m z hk=>by simp[Gh.seg]at hk)
 have hin:∀ k b,(k < m∨m+nb≤k)→G.σ k=some b→∀ j,j < nb→G.σ (j+m)≠some b:=fun k b hk e1 j hj e2=>by
  have:=hI.inj _ _ _ e1 e2;omega
 have ext2:Ext G w { G with K:=G0'.K } w':=⟨fun b o hk=>q2.k b o hk,fun b o hk=>q2.cell b o hk,fun _ _ h=>h,fun k b c m z hk=>⟨b,c,m,hk,.inl ⟨rfl,rfl,rfl⟩⟩⟩
 have hSh:Shf m G0' { G with K:=G0'.K }:=⟨fun k b hk=>(hσ k b hk).2,fun _ _ h=>h,htk⟩
 have hcase:∀ k,(k < m∨m+nb≤k)∨∃ i,i < nb∧k=i+m:=fun k=>by
  rcases Nat.lt_or_ge k m with h5 | h5
  ·exact .inl (.inl h5)
  ·rcases Nat.lt_or_ge k (m+nb) with h6 | h6
   ·exact .inr ⟨k-m,by omega,by omega⟩
   ·exact .inl (.inr h6)
 refine ⟨{ G with K:=G0'.K },?_,?_,?_⟩
 ·exact {
   blk:=fun k y hk=>by
    rcases hcase k with h5 | ⟨i,hi,rfl⟩
    ·rw[h2 k h5]at hk
     obtain ⟨b,o,g1,g2,g3⟩:=hI.blk k y hk
     exact ⟨b,o,g1,(hold b (hI.blk_lt g1) (hin k b h5 g1)).trans g2,g3.ext ext2⟩
    ·rw[h3 i hi,Option.map_eq_some_iff]at hk
     obtain ⟨x,e1,e2⟩:=hk
     rw[Option.map_eq_some_iff]at e2
     obtain ⟨z,rfl,rfl⟩:=e2
     obtain ⟨b,o,g1,g2,g3⟩:=q1.blk i z e1
     exact ⟨b,o,(hσ i b g1).2,g2,g3.shift hSh⟩
   dom:=fun k b hk=>by
    rcases hcase k with h5 | ⟨i,hi,rfl⟩
    ·rw[h2 k h5]
     exact hI.dom k b hk
    ·rw[h3 i hi]
     obtain ⟨x,hx⟩:=q1.dom i b (hσ' i b hi hk)
     simp only at hx
     exact ⟨mvB m x,by rw[hx];rfl⟩
   inj:=hI.inj
   fr:=fun k b o hk hK=>by
    rcases hcase k with h5 | ⟨i,hi,rfl⟩
    ·rcases hkn b o hK with h6 | h6
     ·exact hI.fr k b o hk h6
     ·have:=hI.blk_lt hk;omega
    ·exact q1.fr i b o (hσ' i b hi hk) hK
   base:=hI.base
   tok:=fun k m z hk=>hI.tok k m z (by rw[← h4];exact hk)
   tdom:=fun k b c m z hk=>by
    obtain ⟨e1,e2,e3,e4,e5,⟨cs,e,⟨fz,e6,e7⟩,e8,e9⟩,e10⟩:=hI.tdom k b c m z hk
    refine ⟨by rw[h4];exact e1,e2,e3,e4,e5,⟨cs,e,⟨fz,(hold b (hI.tk_lt hk) fun j _ hj=>hI.tσ _ _ _ _ _ _ hk hj).trans e6,e7⟩,e8,e9⟩,fun o hK=>?_⟩
    rcases hkn b o hK with h11 | h11
    ·exact e10 o h11
    ·have:=hI.tk_lt hk;omega
   tinj:=hI.tinj
   tσ:=hI.tσ
   kin:=q1.kin
   bin:=Nat.le_trans hI.bin q2.size }
 ·exact {
   k:=q2.k
   cell:=q2.cell
   σ:=fun _ _ h=>h
   σn:=fun _ _ h=>.inl h
   tk:=fun k b c m z hk=>⟨b,c,m,hk,.inl ⟨rfl,rfl,rfl⟩⟩
   tkn:=fun k b c m z hk=>.inl ⟨c,m,z,hk⟩
   kn:=fun b o hk=>by
    rcases hkn b o hk with h5 | h5
    ·exact .inl h5
    ·exact .inr (.inl h5)
   B:=rfl
   size:=q2.size
   os:=q2.os
   tape:=q2.tape
   output:=q2.output
   frame:=fun b hb hx _=>hold b hb fun k _=>hx (k+m) }
 ·cases r with
  | ret a=>obtain ⟨v,g1,g2⟩:=q3;exact ⟨v,g1,g2.shift hSh⟩
  | pan a=>obtain ⟨v,g1,g2⟩:=q3;exact ⟨v,g1,g2.shift hSh⟩
end
mutual
theorem y7q (m:Nat):∀ a:AV,noH 0 a=true→mvA m a=a
 | .bad,_=>rfl
 | .int _ _,_=>rfl
 | .bool _,_=>rfl
 | .str _,_=>rfl
 | .raw _,_=>rfl
 | .agg l,h=>by simp only[mvA,z2h m l (by simpa[noH] using h)]
 | .tup l,h=>by simp only[mvA,z2h m l (by simpa[noH] using h)]
 | .vs l _ _,h=>by simp only[mvA,z2h m l (by simpa[noH] using h)]
 | .vp l,h=>by simp only[mvA,z2h m l (by simpa[noH] using h)]
 | .ptr _ _,h=>by simp[noH]at h
 | .row _ _ _ _,h=>by simp[noH]at h
 | .mp _,h=>by simp[noH]at h
 | .fn _ x y,h=>by
  simp only[noH,Bool.and_eq_true]at h
  simp only[mvA,z2h m x h.1,z2h m y h.2]
 | .ifc _ v,h=>by simp only[mvA,y7q m v (by simpa[noH] using h)]
theorem z2h (m:Nat):∀ l:List AV,noHL 0 l=true→mvL m l=l
 | [],_=>rfl
 | a::l,h=>by
  simp only[noHL,Bool.and_eq_true]at h
  simp only[mvL,y7q m a h.1,z2h m l h.2]
end
mutual
theorem y5b {n n':Nat}(hn:n≤n'):∀ a:AV,noH n a=true→noH n' a=true
 | .bad,_=>rfl
 | .int _ _,_=>rfl
 | .bool _,_=>rfl
 | .str _,_=>rfl
 | .raw _,_=>rfl
 | .agg l,h=>by simp only [noH] at *; exact z5c hn l h
 | .tup l,h=>by simp only [noH] at *; exact z5c hn l h
 | .vs l _ _,h=>by simp only [noH] at *; exact z5c hn l h
 | .vp l,h=>by simp only [noH] at *; exact z5c hn l h
 | .ptr h0 _,h=>by simp only [noH,decide_eq_true_eq] at *; omega
 | .row h0 _ _ _,h=>by simp only [noH,decide_eq_true_eq] at *; omega
 | .mp h0,h=>by simp only [noH,decide_eq_true_eq] at *; omega
 | .fn _ x y,h=>by
  simp only [noH,Bool.and_eq_true] at *
  exact ⟨z5c hn x h.1,z5c hn y h.2⟩
 | .ifc _ v,h=>by simp only [noH] at *; exact y5b hn v h
theorem z5c {n n':Nat}(hn:n≤n'):∀ l:List AV,noHL n l=true→noHL n' l=true
 | [],_=>rfl
 | a::l,h=>by
  simp only [noHL,Bool.and_eq_true] at *
  exact ⟨y5b hn a h.1,z5c hn l h.2⟩
end

abbrev SpcM:=List AV→List AV→List (AV×AV)→Option (Prop×CR×List (AV×AV))
def z5m (l:List AV):Prop:=noHL 0 l=true∧z1y 0 l=true
def z6y (es:List (AV×AV)):Prop:=noHB 0 (.map es)=true∧y1a 0 (.map es)=true
def z8m (tM:TypeId)(nc:Nat)(R:SpcM)(args:List AV)(S:St)(k:CR→St→Prop):Prop:=match args with
 | .ptr (h+1) 0::rest=>match S.hs[h]?,S.hs[h+1]? with
  | some (some (.map es)),some (some (.cells l t))=>match R rest (l.take nc) es with
   | some (D,r,es')=>D∧(t=tM∧l=l.take nc++[.mp h])∧k r ⟨S.hs.set h (some (.map es')),S.ts,z2i [h,h+1] S.wl⟩
   | none=>False
  | _,_=>False
 | _=>False
theorem x2i (tM:TypeId)(nc:Nat)(R:SpcM):One (z8m tM nc R):=by
 intro args S
 unfold z8m
 split
 case h_2=>exact ⟨(.ret .bad,S),False,fun k=>by simp⟩
 split
 case h_2=>exact ⟨(.ret .bad,S),False,fun k=>by simp⟩
 rename_i h rest _ _ es l t _ _
 cases hR:R rest (l.take nc) es with
 | none=>exact ⟨(.ret .bad,S),False,fun k=>by simp⟩
 | some p=>exact ⟨(p.2.1,⟨S.hs.set h (some (.map p.2.2)),S.ts,z2i [h,h+1] S.wl⟩),p.1∧(t=tM∧l=l.take nc++[.mp h]),fun k=>by simp[and_assoc]⟩
def z2c (tM:TypeId)(cs:List AV)(es:List (AV×AV)):List (Option HB):=[some (.map es),some (.cells (cs++[.mp 0]) tM)]
structure CtM (C0:Cx) (tM:TypeId) (nc g:Nat) (R:SpcM):Prop where
 body:∃ (fn:Func) (c:Code),C0.P.funcs[g]?=some fn∧fn.body=some c
 ok:∀ rest cs es (D:Prop) r es',R rest cs es=some (D,r,es')→D→z5m rest∧z5m cs∧z6y es∧z6y es'∧(∀ m,mvR m r=r) ∧
  CallOk C0 g (.ptr 1 0::rest) ⟨z2c tM cs es,[],[]⟩ r ⟨z2c tM cs es',[],[]⟩
theorem x2w (m:Nat){es:List (AV×AV)}(h:noHB 0 (.map es)=true):mvB m (.map es)=.map es:=by
 simp only[mvB,HB.map.injEq]
 simp only[noHB,List.all_eq_true,Bool.and_eq_true]at h
 conv=>rhs;rw[← List.map_id es]
 refine List.map_congr_left fun e he=>?_
 have:=h e he
 simp only[y7q m _ this.1,y7q m _ this.2,id]
theorem y3b (m:Nat):∀ l l':List AV,mvL m (l++l')=mvL m l++mvL m l'
 | [],l'=>rfl
 | a::l,l'=>by simp[mvL,y3b m l l']
theorem z7p (n:Nat):∀ l l':List AV,z1y n (l++l')=(z1y n l && z1y n l')
 | [],l'=>by simp[z1y]
 | a::l,l'=>by simp[z1y,z7p n l l',Bool.and_assoc]
theorem y4n (n:Nat):∀ l l':List AV,noHL n (l++l')=(noHL n l && noHL n l')
 | [],l'=>by simp[noHL]
 | a::l,l'=>by simp[noHL,y4n n l l',Bool.and_assoc]
theorem CtM.hook {C0:Cx}(hgt:z1v C0){tM:TypeId}{nc g:Nat}{R:SpcM}(h:CtM C0 tM nc g R):HookOk C0 g (z8m tM nc R) where
 one:=x2i tM nc R
 body:=h.body
 ok:=fun args S r S' hw=>by
  unfold z8m at hw
  split at hw
  case h_2=>exact hw.elim
  rename_i hh rest
  split at hw
  case h_2=>exact hw.elim
  rename_i es l t hb1 hb2
  split at hw
  case h_2=>exact hw.elim
  rename_i D r' es' hR
  obtain ⟨hD,⟨rfl,hl⟩,rfl,rfl⟩:=hw
  obtain ⟨p1,p2,p3,p4,p5,p6⟩:=h.ok _ _ _ D r' es' hR hD
  generalize l.take nc=cs at hl p2 p6
  subst hl
  have hlt:hh+1 < S.hs.length:=(List.getElem?_eq_some_iff.1 hb2).1
  refine ⟨?_,?_⟩
  ·have key:=CallOk.seg (nb:=2) (m:=hh) hgt p6 (S:=S) (S':=⟨S.hs.set hh (some (.map es')),S.ts,z2i [hh,hh+1] S.wl⟩) ?_ ?_ ?_ rfl rfl ?_ (by omega) (by simp) ?_ ?_ rfl
   ·have e1:mvL hh (AV.ptr 1 0::rest)=AV.ptr (hh+1) 0::rest:=by simp only[mvL,mvA,z2h hh rest p1.1,Nat.add_comm]
    rw[e1,p5]at key
    exact key
   ·simp only[noHL,noH,z5c (Nat.zero_le 2) rest p1.1];rfl
   ·simp only[z1y,noT,p1.2];rfl
   ·simp only[z2c,List.all_cons,List.all_nil,x0x,y4n,z7p,Bool.and_true,Bool.and_eq_true]
    refine ⟨⟨?_,p3.2⟩,?_,?_⟩
    ·have:=p3.1
     simp only[noHB,List.all_eq_true,Bool.and_eq_true]at this ⊢
     exact fun x hx=>⟨y5b (Nat.zero_le 2) _ (this x hx).1,y5b (Nat.zero_le 2) _ (this x hx).2⟩
    ·simp only[noHB,y4n,z5c (Nat.zero_le 2) cs p2.1];rfl
    ·simp only[y1a,z7p,p2.2];rfl
   ·intro i x hx
    match i,hx with
    | 0,hx =>
     simp[z2c]at hx
     subst hx
     rw[Nat.zero_add,hb1,x2w hh p3.1]
    | 1,hx =>
     simp[z2c]at hx
     subst hx
     rw[Nat.add_comm,hb2]
     simp only[mvB,y3b,z2h hh cs p2.1,mvL,mvA,Nat.zero_add]
    | i+2,hx=>simp[z2c]at hx
   ·intro k hk
    simp only
    rw[List.getElem?_set_ne (by omega)]
   ·intro i hi
    match i,hi with
    | 0,hi =>
     simp only[Nat.zero_add]
     rw[List.getElem?_set_self (by omega)]
     simp only[z2c,List.getElem?_cons_zero,Option.map_some,x2w hh p4.1]
    | 1,hi =>
     simp only
     rw[Nat.add_comm 1 hh,List.getElem?_set_ne (by omega),hb2]
     simp only[z2c,List.getElem?_cons_succ,List.getElem?_cons_zero,Option.map_some,mvB,y3b,z2h hh cs p2.1,mvL,mvA,Nat.zero_add]
  ·refine ⟨by simp,Nat.le_refl _,fun x hx=>(z7j _ _ _).2 (.inr hx),fun x hx hn=>?_⟩
   simp only
   rw[List.getElem?_set_ne]
   rintro rfl
   exact hn ((z7j _ _ _).2 (.inl (by simp)))
theorem CSem.of_Pce {C:Cx}{C':Cx}{nb:Nat}{c:Code}{env e:Env}{S s:St}{x:EX}(hP:C'.P=C.P)(hgt:C'.gt=C.gt)(h:Pce C' c env S x e s):CSem C nb c env S x e s :=
 ⟨fun hok G0 w0 hb hg rd n ds G w a hE hI he hd Q hQ=>by
  rw[← hP]
  exact h.run hok rd n ds G w a hI (fun x l hl=>(hg.mono hE) x l (by rw[← hgt];exact hl)) he hd Q fun e' a' w' ⟨G',q1,q2,q3,q4,q5⟩=>hQ _ _ _ ⟨G',q1,hE.trans q2,q3,q4,q5⟩⟩
end Go.Ev
namespace Go.Ev
open Go.RowKit
def keysOf (es:List (AV×AV)):List Int:=(z4s es).getD []
theorem y65 {es:List (AV×AV)}{ks:List Int}(h:z4s es=some ks):keysOf es=ks:=by unfold keysOf;rw[h];rfl
def z8r (kf:FuncId)(args:List AV)(S:St)(k:CR→St→Prop):Prop :=
 match args with
 | [.fn (.func g) [] [.ptr h 0]]=>match Nat.beq g kf with
  | true=>match z1e S h with
   | some ([.mp m],_)=>match S.hs[m]? with
    | some (some (.map es))=>(∃ ks,z4s es=some ks∧ks.length≤1000000)∧k (.ret (.vs ((z1h (keysOf es)).map (.int .i64)) (keysOf es).length .none)) S
    | _=>False
   | _=>False
  | false=>False
 | _=>False
theorem y9n (kf:FuncId):One (z8r kf):=by
 intro args S
 unfold z8r
 split
 case h_2=>exact ⟨(.ret .bad,S),False,fun k=>by simp⟩
 split
 case h_2=>exact ⟨(.ret .bad,S),False,fun k=>by simp⟩
 split
 case h_2=>exact ⟨(.ret .bad,S),False,fun k=>by simp⟩
 split
 case h_2=>exact ⟨(.ret .bad,S),False,fun k=>by simp⟩
 exact ⟨(_,_),_,fun k=>Iff.rfl⟩
theorem y6w:∀ l:List Int,z5d (l.map (AV.int .i64))=l.map (AV.int .i64)
 | []=>rfl
 | a::l=>by simp[z5d,zap,y6w l]
theorem y3w (n:Nat):∀ l:List Int,z0e n (l.map (AV.int .i64))=l.map (AV.int .i64)
 | []=>rfl
 | a::l=>by simp[z0e,scrub,y3w n l]
theorem CallOk.dropTok {C:Cx}{g:FuncId}{args:List AV}{S:St}{a:AV}{x:Nat×(Nat×Nat)}(h:CallOk C g args S (.ret a) { S with ts:=S.ts++[x] })(ha:scrub 0 a=a):CallOk C g args S (.ret a) S:=fun G w us hI hg has =>
 (h G w us hI hg has).mono fun e w' ⟨G',q1,q2,u,q3,q4⟩=>by
  obtain ⟨a1,a2⟩:=Ev.dropTok hI q1 q2.ext rfl (fun k hk=>by simp only;rw[List.getElem?_append_left hk])
  refine ⟨G'.cutT S.ts.length,a1,q2.dropTok (fun k x hk=>by obtain ⟨b,c,m,z⟩:=x;exact (List.getElem?_eq_some_iff.1 (hI.tdom _ _ _ _ _ hk).1).1),u,q3,?_⟩
  rw[← ha]at q4 ⊢
  exact VR.cutT (Nat.zero_le _) a q4
theorem y70 {C0:Cx}{g kf:FuncId}{it:TypeId}(hb:∃ (fn:Func) (c:Code),C0.P.funcs[g]?=some fn∧fn.body=some c)
  (H:∀ args S r S',z3o kf it args S=some (r,S')→CallOk C0 g args S r S'):HookOk C0 g (z8r kf) where
 one:=y9n kf
 body:=hb
 ok:=fun args S r S' hw=>by
  unfold z8r at hw
  split at hw
  case h_2=>exact hw.elim
  rename_i gg hh
  split at hw
  case h_2=>exact hw.elim
  rename_i hgk
  have hgk:=Nat.eq_of_beq_eq_true hgk
  subst hgk
  split at hw
  case h_2=>exact hw.elim
  rename_i m bt hblk
  split at hw
  case h_2=>exact hw.elim
  rename_i es hes
  obtain ⟨⟨ks,hks,hlen⟩,rfl,rfl⟩:=hw
  rw[y65 hks]
  refine ⟨?_,Wl.refl _⟩
  have hl:=(z03 ks).length_eq
  cases hi:z1h ks with
  | nil =>
   rw[hi]at hl
   have e:z3o gg it [.fn (.func gg) [] [.ptr hh 0]] S=some (.ret (.vs [] 0 .zero),S):=by
    unfold z3o
    simp only[if_pos,hblk,hes,hks,hi]
   have:=(H _ _ _ _ e).zap
   simp only[List.length_nil]at hl
   rw[← hl]
   exact this
  | cons n r =>
   have e:z3o gg it [.fn (.func gg) [] [.ptr hh 0]] S=some (.ret (.vs ((n::r).map (.int .i64)) ks.length (.own S.ts.length)),{ S with ts:=S.ts++[(ks.length,(1,it))] }):=by
    unfold z3o
    simp only[if_pos,hblk,hes,hks,hi,if_pos hlen]
   have:=(H _ _ _ _ e).zap
   simp only[y7v,zap,y6w]at this
   exact this.dropTok (by simp only[scrub,y3w,Tok.scrub])
def y3g (kf:FuncId)(bt:TypeId)(args:List AV)(S:St)(k:CR→St→Prop):Prop :=
 match args with
 | [.mp m]=>k (.ret (.fn (.func kf) [] [.ptr S.hs.length 0])) (S.push (.cells [.mp m] bt))
 | _=>False
theorem x24 (kf:FuncId)(bt:TypeId):One (y3g kf bt):=by
 intro args S
 unfold y3g
 split
 case h_2=>exact ⟨(.ret .bad,S),False,fun k=>by simp⟩
 rename_i m
 exact ⟨(_,_),True,fun k=>⟨fun h=>⟨trivial,h⟩,fun h=>h.2⟩⟩
theorem x07 {C0:Cx}{g kf:FuncId}{bt:TypeId}(hb:∃ (fn:Func) (c:Code),C0.P.funcs[g]?=some fn∧fn.body=some c)(H:y41 C0.P g kf bt):HookOk C0 g (y3g kf bt) where
 one:=x24 kf bt
 body:=hb
 ok:=fun args S r S' hw=>by
  unfold y3g at hw
  split at hw
  case h_2=>exact hw.elim
  rename_i m
  obtain ⟨rfl,rfl⟩:=hw
  refine ⟨?_,⟨by simp[St.push],Nat.le_refl _,fun _ h=>h,fun x hx _=>by simp only[St.push];rw[List.getElem?_append_left hx]⟩⟩
  intro G w us hI hg has
  obtain ⟨v,hv1,hv2⟩:=has.2 0 _ rfl
  have has1:us=[v]:=by
   match us,has.1,hv1 with
   | [u],_,hv1=>simp at hv1;rw[hv1]
  subst has1
  cases hv2 with
  | mp _ b hσ =>
   refine (H b w).mono ?_
   rintro e w' ⟨rfl,rfl⟩
   have ha:Adds w (w.alloc (.cells #[.map (some b)] bt)) (.cells #[.map (some b)] bt (0,0)):=Adds.alloc _ _
   have h1:=Inv.push ha hI (hb:=.cells [.mp m] bt) (.cells [.mp m] bt #[.map (some b)] rfl fun i a hi=>by
    match i,hi with
    | 0,hi=>simp at hi;subst hi;exact .mp m b hσ
    | i+1,hi=>simp at hi)
   have h2:=Evo.bind ha hI hI.σ_len
   refine ⟨_,h1,h2,_,rfl,?_⟩
   refine .fn (.func kf) [] _ #[] #[.pointer (some ⟨w.heap.size,0,none⟩)] rfl rfl (by simp) fun i x hi=>?_
   match i,hi with
   | 0,hi=>simp at hi;subst hi;exact .ptr _ _ _ (upd_same _ _ _)
   | i+1,hi=>simp at hi
end Go.Ev
namespace Go.Ev
def RunsM (C0:Cx)(tM:TypeId)(g:FuncId)(Post:List (AV×AV)→Prop)(rest cs:List AV)(es:List (AV×AV))(r:CR)(es':List (AV×AV)):Prop :=
 Post es'∧CallOk C0 g (.ptr 1 0::rest) ⟨z2c tM cs es,[],[]⟩ r ⟨z2c tM cs es',[],[]⟩
open Classical in
noncomputable def y6g (C0:Cx)(tM:TypeId)(g:FuncId)(Post:List (AV×AV)→Prop)(rest cs:List AV)(es:List (AV×AV))(r:CR):List (AV×AV) :=
 if h:∃ es',RunsM C0 tM g Post rest cs es r es' then h.choose else es
theorem x2r {C0:Cx}{tM:TypeId}{g:FuncId}{Post:List (AV×AV)→Prop}{rest cs:List AV}{es:List (AV×AV)}{r:CR}(h:∃ es',RunsM C0 tM g Post rest cs es r es') :
  RunsM C0 tM g Post rest cs es r (y6g C0 tM g Post rest cs es r):=by
 unfold y6g
 rw[dif_pos h]
 exact h.choose_spec
theorem RunsM.of_wp {B:Base}{l:List (FuncId×Spc)}{lm:List (Nat×List Nat)}{tp ct:List Nat}{sm:List (Nat×Nat)}(hB:BaseOk B)(hl:Cts B l){tM:TypeId}{g:FuncId}{Post:List (AV×AV)→Prop}{rest cs:List AV}{es:List (AV×AV)}{r:CR}
  (h:wpS (B.wcxP 2 l lm tp ct sm) g (.ptr 1 0::rest) (z2c tM cs es) fun r' hs'=>r'=r∧∃ es',Post es'∧hs'=z2c tM cs es'):∃ es',RunsM B.c0 tM g Post rest cs es r es':=by
 obtain ⟨r',h',h1,rfl,es',h2,rfl⟩:=x17 (y15 hB hl) (y53 hB hl) (show (z2c tM cs es).length=2 from rfl) h
 exact ⟨es',h2,h1⟩
abbrev SpcO:=List AV→Option (Prop×Bool×CR×(AV→CR)×List HB×List AV)
def y29 (tM:TypeId)(R:SpcO)(args:List AV)(S:St)(k:CR→St→Prop):Prop:=match R args with
 | some (D,b,r0,r,gs,cs)=>D∧cIf b (k r0 S) (k (r (.ptr (S.hs.length+gs.length+1) 0)) { S with hs:=S.hs++(gs.map some++[some (.map []),some (.cells (cs++[.mp (S.hs.length+gs.length)]) tM)]) })
 | none=>False
theorem x2g (tM:TypeId)(R:SpcO):One (y29 tM R):=by
 intro args S
 unfold y29
 cases h:R args with
 | none=>exact ⟨(.ret .bad,S),False,fun k=>by simp⟩
 | some p =>
  obtain ⟨D,b,r0,r,gb,cs⟩:=p
  cases b
  ·exact ⟨(_,_),D,fun k=>Iff.rfl⟩
  ·exact ⟨(_,_),D,fun k=>Iff.rfl⟩
structure CtO (C0:Cx) (tM:TypeId) (g:FuncId) (R:SpcO):Prop where
 body:∃ (fn:Func) (c:Code),C0.P.funcs[g]?=some fn∧fn.body=some c
 ok:∀ args (D:Prop) b r0 r gs cs,R args=some (D,b,r0,r,gs,cs)→D→noHL 0 args=true∧z5m cs∧(∀ x∈gs,∀ m,mvB m x=x)∧(∀ m n,mvR m (r (.ptr n 0))=r (.ptr (n+m) 0)) ∧
  (b=true→CallOk C0 g (z0e 0 args) St.nil r0 St.nil)∧(b=false→CallOk C0 g (z0e 0 args) St.nil (r (.ptr (gs.length+1) 0)) ⟨gs.map some++[some (.map []),some (.cells (cs++[.mp gs.length]) tM)],[],[]⟩)
theorem CtO.hook {C0:Cx}(hgt:z1v C0){tM:TypeId}{g:FuncId}{R:SpcO}(h:CtO C0 tM g R):HookOk C0 g (y29 tM R) where
 one:=x2g tM R
 body:=h.body
 ok:=fun args S r S' hw=>by
  unfold y29 at hw
  split at hw
  case h_2=>exact hw.elim
  rename_i D b r0 r1 gs cs hR
  obtain ⟨hD,hw⟩:=hw
  obtain ⟨p1,p2,p3,p4,p5,p6⟩:=h.ok _ D b r0 r1 gs cs hR hD
  cases b with
  | true =>
   obtain ⟨rfl,rfl⟩:=hw
   exact ⟨CallOk.frame hgt (p5 rfl) p1 S,Wl.refl S⟩
  | false =>
   obtain ⟨rfl,rfl⟩:=hw
   have key:=CallOk.reloc hgt (p6 rfl) p1 S
   refine ⟨?_,Wl.app S _⟩
   rw[p4]at key
   have e1:mvB S.hs.length (.cells (cs++[.mp gs.length]) tM)=.cells (cs++[.mp (S.hs.length+gs.length)]) tM:=by
    simp only[mvB,y3b,z2h _ cs p2.1,mvL,mvA,Nat.add_comm]
   have e2:mvB S.hs.length (.map [])=.map []:=rfl
   have e3:(gs.map some).map (Option.map (mvB S.hs.length))=gs.map some:=by
    rw[List.map_map]
    exact List.map_congr_left fun x hx=>by simp only[Function.comp,Option.map_some,p3 x hx]
   rw[List.map_append,e3]at key
   simp only[List.map_cons,List.map_nil,Option.map_some,e1,e2]at key
   rw[show S.hs.length+gs.length+1=gs.length+1+S.hs.length by omega]
   exact key
end Go.Ev
namespace Go.Ev
open Go.RowKit
section
variable {C:WCx}
theorem RW.of_wpN (ho:C.Ones)(hC:CxOk C.cx)(hm:∀ c e,C.mask c e=e)(hcut:∀ c,C.cut c=false){nb:Nat}{l:Option Nat}{Y:Yk}{c:Code}{env:Env}{S:St}{z:Zs}{k:KontR}(hn:w7u c=true)
  (h:wpC C c env S fun x e s=>k x e s z):RW C.cx nb l Y c env S z k:=by
 obtain ⟨x,e,s,h1,h2⟩:=w8f ho hm hcut c env S _ hn h
 exact RW.of_ev hC (y61 _) h1 h2
theorem w9j (ho:C.Ones)(hm:∀ c e,C.mask c e=e)(hcut:∀ c,C.cut c=false){ps:Array Tmp}{asg body:Code}{env:Env}{it:List AV}{S:St}{kk:Option Code→St→Prop}(hl:it.length=ps.size)(hna:w7u asg=true)(hnb:w7u body=true)
  (h:wpC C asg (setPs env ps.toList it) S fun x e s=>x=.normal∧wpC C body e s fun x2 e2 s2=>(∀ v,x2≠.pan v)∧kk (jOf x2) s2):∃ j S',y0q C.cx noSelf ps asg body env it S=some (j,S')∧kk j S':=by
 obtain ⟨x,e,s,h1,rfl,h2⟩:=w8f ho hm hcut asg _ S _ hna h
 obtain ⟨x2,e2,s2,h3,h4,h5⟩:=w8f ho hm hcut body _ s _ hnb h2
 refine ⟨jOf x2,s2,?_,h5⟩
 unfold y0q
 rw[if_pos hl,h1]
 simp only[h3]
end
def w7z (C:Cx)(sf:Self)(ps:Array Tmp)(asg body:Code)(env:Env):RdG:=fun it S=>match y0q C sf ps asg body env it ⟨S.hs,S.ts,[]⟩ with
 | some (j,S')=>if (S'.hs.take S.hs.length).all (okBlk S.hs.length)=true then some (j,⟨S'.hs.take S.hs.length,S'.ts,[]⟩) else none
 | none=>none
theorem w8o {C:WCx}(ho:C.Ones)(hm:∀ c e,C.mask c e=e)(hcut:∀ c,C.cut c=false){ps:Array Tmp}{asg body:Code}{env:Env}{it:List AV}{S:St}{kk:Option Code→St→Prop}{N:Nat}(hN:S.hs.length=N)(hl:it.length=ps.size)(hna:w7u asg=true)(hnb:w7u body=true)
  (h:wpC C asg (setPs env ps.toList it) ⟨S.hs,S.ts,[]⟩ fun x e s=>x=.normal∧wpC C body e s fun x2 e2 s2=>(∀ v,x2≠.pan v)∧(s2.hs.take N).all (okBlk N)=true∧kk (jOf x2) ⟨s2.hs.take N,s2.ts,[]⟩):∃ j S',w7z C.cx noSelf ps asg body env it S=some (j,S')∧kk j S':=by
 subst hN
 obtain ⟨j,S',h1,h2,h3⟩:=w9j (kk:=fun j s2=>(s2.hs.take S.hs.length).all (okBlk S.hs.length)=true∧kk j ⟨s2.hs.take S.hs.length,s2.ts,[]⟩) ho hm hcut hl hna hnb h
 refine ⟨j,_,?_,h3⟩
 unfold w7z
 rw[h1]
 simp only[h2,if_true]
section
variable {C:Cx}
theorem YOk.of_roundC {sf:Self}(hC:CxOk C)(hsf:SelfOk C sf){nb:Nat}{ps:Array Tmp}{asg body:Code}(hoa:okC asg=true)(hob:okC body=true){env:Env}
  {l:Nat} {fnid:FuncId} {tmps:Array Value} {dfs:Nat} {G0:Gh} {w0:World}
  (hb:Bas C nb (some l) { state:=.ready,pending:=none,fn:=fnid,tmps:=tmps,params:=ps,assign:=asg,body:=body,defers:=dfs } G0 w0) (he:ER G0 w0 env { tmps:=tmps,defers:=[] }) :
  YOk C l { state:=.ready,pending:=none,fn:=fnid,tmps:=tmps,params:=ps,assign:=asg,body:=body,defers:=dfs } G0 w0 (YG (w7z C sf ps asg body env)):=by
 intro args S z k hy G w us hI hE hrec hus
 obtain ⟨hz,j,S2,hR,hk⟩:=hy
 unfold w7z at hR
 split at hR<;>try cases hR
 rename_i j1 S1 h1
 split at hR<;>cases hR
 rename_i hall
 obtain ⟨f0,t0,a0,b0,y1,y2⟩:=YOk.of_roundG hC hsf hoa hob hb he args ⟨S.hs,S.ts,[]⟩ z (fun b S' z'=>b=j.isNone∧S'=S1∧z'={ z with j:=j }) ⟨hz,j,S1,h1,rfl,rfl,rfl⟩ G w us (hI.congr (fun _ _=>Iff.rfl) rfl) hE hrec hus
 refine ⟨f0,t0,a0,b0,y1,fun rd n=>(y2 rd n).mono ?_⟩
 rintro e w' ⟨b,S',z',G',⟨rfl,rfl,rfl⟩,q1,q2,q3,q4,q5⟩
 refine ⟨_,_,_,G'.cut S.hs.length,hk,q1,q2,?_,?_,q5⟩
 ·refine q3.cut (S0:=⟨S'.hs.take S.hs.length,S'.ts,[]⟩) (n:=S.hs.length) (fun q x hx=>?_) (fun q x hq hx=>?_) rfl (fun q x hx=>?_)
  ·simp only at hx
   have hlt:=(List.getElem?_eq_some_iff.1 hx).1
   rw[List.length_take]at hlt
   rw[List.getElem?_take_of_lt (by omega)]at hx
   exact ⟨by omega,hx⟩
  ·simp only
   rw[List.getElem?_take_of_lt hq];exact hx
  ·simp only at hx
   have:=List.all_eq_true.1 hall _ (List.mem_of_getElem? hx)
   exact fun o b _ _ hr=>hr.cut this
 ·exact {
   k:=q4.k,cell:=q4.cell
   σ:=fun x b hx=>by
    have hlt:=hI.σ_lt hx
    simp only[Gh.cut,if_pos hlt];exact q4.σ x b hx
   σn:=fun x b hx=>q4.σn x b (z5k hx).2
   tk:=q4.tk,tkn:=q4.tkn,kn:=q4.kn,B:=q4.B,size:=q4.size,os:=q4.os,tape:=q4.tape,output:=q4.output,frame:=q4.frame }
theorem RW.rangeC {sf:Self}(hC:CxOk C)(hsf:SelfOk C sf){nb0:Nat}{Y:Yk}{g:Operand}{ps:Array Tmp}{asg body:Code}(hoa:okC asg=true)(hob:okC body=true){env:Env}{S S':St}{m:Nat}{k:KontR}{f:FuncId}{ca cb:List AV}{j:Option Code}
  (hg:z1l C env g=.fn (.func f) ca cb) (hseq:SeqG C f ca cb (w7z C sf ps asg body env) S j S') (hlen:S.hs.length≤4096) (hk:w0u k env S' (m+1) j) :
  RW C nb0 none Y (.rangeFunc g ps asg body) env S ⟨none,m⟩ k:=by
 refine ⟨fun _ r0' G0 w0 hb hy n ds G w a hs0=>?_⟩
 have hgD:=hs0.gt hb
 have hg':GtR C G w:=hgD
 have hfv:=hs0.er.eval hgD g
 rw[hg]at hfv
 generalize hv:a.eval g=v at hfv
 cases hfv with
 | fn _ _ _ xs ys ha hb' h1 h2 =>
 refine wpIn_rangeFunc ?_
 intro fnid _
 -- two blocks are laid
 obtain ⟨r0,hr0⟩:∃ r0:Loop,{ state:=.ready,pending:=none,fn:=fnid,tmps:=a.tmps,params:=ps,assign:=asg,body:=body,defers:=w.heap.size }=r0:=⟨_,rfl⟩
 obtain ⟨w1,hw1⟩:∃ w1,(w.alloc (.deferred (some []))).alloc (.loop r0)=w1:=⟨_,rfl⟩
 have hwa:(w.alloc (.deferred (some []))).heap.size=w.heap.size+1:=by simp
 have hD1:w1.heap[w.heap.size]?=some (.deferred (some [])):=by
  rw[← hw1];exact (Below.heap_alloc _ _ _ (by simp)).trans (World.alloc_heap_new w _)
 have hL1:w1.heap[w.heap.size+1]?=some (.loop r0):=by
  rw[← hw1];have:=World.alloc_heap_new (w.alloc (.deferred (some []))) (.loop r0);rwa[hwa]at this
 have hI:=hs0.inv
 have hE1:Evo G w G w1:=by
  rw[← hw1]
  exact (Evo.adds (Adds.alloc w _) hI).trans (Evo.adds (Adds.alloc _ _) (Inv.adds (Adds.alloc w _) hI))
 have hI1:Inv G w1 S:=by
  rw[← hw1]
  exact Inv.adds (Adds.alloc _ _) (Inv.adds (Adds.alloc w _) hI)
 have hfD:Free G w.heap.size:=hI.free (Nat.le_refl _)
 have hfL:Free G (w.heap.size+1):=hI.free (by omega)
 have hsz1:w1.heap.size=w.heap.size+2:=by rw[← hw1];simp
 have hrec0:Obj.loop r0=z3p r0 none:=by rw[← hr0];rfl
 have hbas:Bas C 4096 (some (w.heap.size+1)) r0 G w1:=⟨⟨fun h hh=>by
  cases hs:G.σ h with
  | none=>rfl
  | some b=>have:=hI.σ_lt hs;omega,fun h=>absurd h (by omega)⟩,hg'.mono hE1,fun x hx=>by cases hx;exact ⟨by rw[hL1,hrec0],hfL⟩⟩
 have herp:ER G w1 env { tmps:=a.tmps,defers:=[] }:=(show ER G w env { tmps:=a.tmps,defers:=[] } from ⟨hs0.er.1,hs0.er.2⟩).mono hE1
 have hyok:YOk C (w.heap.size+1) r0 G w1 (YG (w7z C sf ps asg body env)):=by
  rw[← hr0]
  rw[← hr0]at hbas
  exact YOk.of_roundC hC hsf hoa hob hbas herp
 have hcap:VRs G w1 (ca++[AV.fn (.yield (w.heap.size+1)) [] []]++cb) (xs.toList++[Value.func (.yield (w.heap.size+1)) #[] #[]]++ys.toList):=by
  have hfv2:VR G w (z1l C env g) (a.eval g):=hs0.er.eval hgD g
  have hp:=hfv2.mono hE1
  rw[hg,hv]at hp
  cases hp with
  | fn _ _ _ _ _ ha2 hb2 g1 g2 =>
  refine VRs.append (VRs.append ⟨by simpa using ha2,fun i z hz=>?_⟩ ⟨rfl,fun i z hz=>?_⟩) ⟨by simpa using hb2,fun i z hz=>?_⟩
  ·have hlt:=(List.getElem?_eq_some_iff.1 hz).1
   have hlt2:i < xs.size:=by rw[ha2];exact hlt
   exact ⟨xs[i],by simp[hlt2],by simpa[Array.getD,hlt2] using g1 i z hz⟩
  ·cases i with
   | zero =>
    simp at hz
    subst hz
    exact ⟨_,rfl,.fn _ [] [] #[] #[] rfl rfl (by simp) (by simp)⟩
   | succ i=>simp at hz
  ·have hlt:=(List.getElem?_eq_some_iff.1 hz).1
   have hlt2:i < ys.size:=by rw[hb2];exact hlt
   exact ⟨ys[i],by simp[hlt2],by simpa[Array.getD,hlt2] using g2 i z hz⟩
 have hcall:=hseq.ok _ r0 _ _ hbas hyok hI1 _ hcap
 obtain ⟨fn,cc,b1,b2,b3⟩:=hseq.body
 have b1':C.P.funcs[f]?=some fn:=b1
 refine ⟨w.heap.size+1,[mkD w.heap.size],w1,{ target:=.fn (.func f) ys,args:=xs++#[.func (.yield (w.heap.size+1)) #[] #[]] },w1,f,xs++#[.func (.yield (w.heap.size+1)) #[] #[]]++ys,w1,?_,?_,fun _ _=>trivial,?_,fun h=>(by simp[Fence.wide]at h),?_⟩
 ·have:=run_enterLoop_outer (P:=C.P) (w:=w) fnid a.tmps ps asg body
  rw[hr0,hw1]at this
  exact this
 ·simp only[resolve,hv]
  simp[go_sem,Deferred.ofValue]
 ·simp[invoke,go_sem,callFunc,b1',b2,b3]
  intro e;rw[e]at b3;simp at b3
 ·have earr:(xs.toList++[Value.func (.yield (w.heap.size+1)) #[] #[]]++ys.toList).toArray=xs++#[.func (.yield (w.heap.size+1)) #[] #[]]++ys:=by apply Array.ext';simp
  rw[earr]at hcall
  refine (y1o none (n-1) hcall).mono ?_
  rintro e w2 ⟨v2,G2,rfl,p1,p2,p3⟩
  simp only[rangePost]
  -- back in the whole state
  have hl1:w.heap.size+1 < w1.heap.size:=by omega
  have hf2:Free G2 (w.heap.size+1):=p2.free hfL hl1
  have hIs:Inv G2 (sh (some (w.heap.size+1)) r0 w2) S':=p1.putObj hf2 p3 (z2d _ _) (z2d _ _)
  have hsh:(sh (some (w.heap.size+1)) r0 w2).heap[w.heap.size+1]?=some (z3p r0 none):=World.putObj_heap_same (z1d p3)
  have hst2:({ r0 with state:=if j.isNone then .ready else .done,pending:=j }:Loop).state≠.busy:=by simp only;split<;>simp
  have hend:=run_endLoop (P:=C.P) p3 hst2
  refine ⟨j,_,hend,?_⟩
  obtain ⟨w4,hw4⟩:∃ w4,w2.putObj (w.heap.size+1) (.loop { ({ r0 with state:=if j.isNone then .ready else .done,pending:=j }:Loop) with state:=.exhausted })=w4:=⟨_,rfl⟩
  rw[hw4]
  have hw4':(sh (some (w.heap.size+1)) r0 w2).putObj (w.heap.size+1) (.loop { ({ r0 with state:=if j.isNone then .ready else .done,pending:=j }:Loop) with state:=.exhausted })=w4:=by
   rw[← hw4];simp only[sh];rw[z2f]
  have hI4:Inv G2 w4 S':=by rw[← hw4'];exact hIs.putObj hf2 hsh (z2d _ _) rfl
  have hE4:Evo G w G2 w4:=by rw[← hw4'];exact (hE1.trans p2).putObj_new (by omega) hsh (z2d _ _) rfl
  have hD4:w4.heap[w.heap.size]?=some (.deferred (some [])):=by
   rw[← hw4',World.putObj_heap_other (by omega)]
   exact p2.at hfD hD1
  have hfD5:Free G2 w.heap.size:=p2.free hfD (by omega)
  have hsit:Sit none r0' G0 w0 ds ⟨none,m+1⟩ G2 w4 S' env { a with defers:=[mkD w.heap.size]++a.defers }:={
   evo:=hs0.evo.trans hE4
   inv:=hI4
   er:=⟨hs0.er.1,(hs0.er.mono hE4).2⟩
   rc:=fun x hx=>by cases hx
   df:=by
    obtain ⟨ms,m1,m2,m3,m4⟩:=hs0.df
    refine ⟨w.heap.size::ms,by simp[m1],by simp[m2],List.nodup_cons.2 ⟨fun hm=>?_,m3⟩,fun r hr=>?_⟩
    ·have:=z1d (m4 _ hm).2.1;omega
    ·rcases List.mem_cons.1 hr with rfl | hr
     ·exact ⟨hs0.evo.size,hD4,hfD5⟩
     ·obtain ⟨t1,t2,t3⟩:=m4 r hr
      exact ⟨t1,hE4.at t3 t2,hE4.free t3 (z1d t2)⟩ }
  cases j with
  | none=>exact ⟨.normal,_,_,_,G2,hsit,rfl,hk⟩
  | some jc =>
   cases jc with
   | ret=>exact wpIn_ret ⟨.ret,_,_,_,G2,hsit,rfl,hk⟩
   | exit i=>exact wpIn_exit ⟨.exit i,_,_,_,G2,hsit,rfl,hk⟩
   | _=>exact hk.elim
end
theorem SeqG.of_RW {C:Cx}{rd:RdG}(hC:CxOk C){f:FuncId}{fn:Func}{c:Code}(hf:C.P.funcs[f]?=some fn)(hc:fn.body=some c)(hr:fn.results=#[])
  {ca cb:List AV} {S S':St} {j:Option Code} (h:∀ l,RW C 4096 (some l) (YG rd) c ((ca++[AV.fn (.yield l) [] []]++cb)++List.replicate (fn.ntmps-(ca++[AV.fn (.yield l) [] []]++cb).length) .bad) S ⟨none,0⟩
   fun x e s z=>(x=.normal∨x=.ret)∧z=⟨j,0⟩∧(s.hs.take S.hs.length).all (okBlk S.hs.length)=true∧S'=⟨s.hs.take S.hs.length,s.ts,[]⟩):SeqG C f ca cb rd S j S' where
 body:=⟨fn,c,hf,hc,hC.names f fn c hf hc⟩
 ok:=fun l r0 G0 w0 hb hy hI us hus=>by
  refine (callsIn_wide (n:=0)).1 (callsIn_of_wp hf hc trivial ?_)
  have he:=z81 hus fn.ntmps
  have hb0:=(hb.rc l rfl).1
  have hs0:sh (some l) r0 w0=w0:=by simp only[sh];exact z56 hb0
  have hsit:Sit (some l) r0 G0 w0 [] ⟨none,0⟩ G0 w0 S _ _:=⟨by rw[hs0];exact Evo.refl _ _,hI,he,fun x hx=>by cases hx;exact hb0,⟨[],rfl,rfl,List.nodup_nil,fun r hr=>by simp at hr⟩⟩
  refine wpIn_mono ((h l).run (hC.codes f fn c hf hc) r0 G0 w0 hb (fun x hx=>by cases hx;exact hy) 0 [] G0 w0 _ hsit) ?_
  rintro e' a' w' ⟨x',env',s,z',G',p1,p2,hx,rfl,q1,rfl⟩
  obtain ⟨ms,m1,m2,m3,m4⟩:=p1.df
  rw[List.length_eq_zero_iff]at m1
  subst m1
  have hrec:=p1.rc l rfl
  have fin:a'.defers=[]∧∃ v,(results fn a'.tmps).run C.P w'=.ok v w'∧∃ v' G',(Ending.returned v)=.returned v'∧Inv G' w' ⟨s.hs.take S.hs.length,s.ts,[]⟩∧Evo G0 w0 G' (sh (some l) r0 w')∧w'.heap[l]?=some (z3p r0 j):=by
   refine ⟨by simpa using m2,undef,?_,undef,G'.cut S.hs.length,rfl,?_,?_,hrec⟩
   ·unfold results
    rw[hr]
    simp[go_sem,undef]
   ·refine p1.inv.cut (S0:=⟨s.hs.take S.hs.length,s.ts,[]⟩) (n:=S.hs.length) (fun q x hx=>?_) (fun q x hq hx=>?_) rfl (fun q x hx=>?_)
    ·simp only at hx
     have hlt:=(List.getElem?_eq_some_iff.1 hx).1
     rw[List.length_take]at hlt
     rw[List.getElem?_take_of_lt (by omega)]at hx
     exact ⟨by omega,hx⟩
    ·simp only
     rw[List.getElem?_take_of_lt hq];exact hx
    ·simp only at hx
     have:=List.all_eq_true.1 q1 _ (List.mem_of_getElem? hx)
     exact fun o b _ _ hr=>hr.cut this
   ·have hE:=p1.evo
    exact {
     k:=hE.k,cell:=hE.cell
     σ:=fun x b hx=>by
      have hlt:=hI.σ_lt hx
      simp only[Gh.cut,if_pos hlt];exact hE.σ x b hx
     σn:=fun x b hx=>hE.σn x b (z5k hx).2
     tk:=hE.tk,tkn:=hE.tkn,kn:=hE.kn,B:=hE.B,size:=hE.size,os:=hE.os,tape:=hE.tape,output:=hE.output,frame:=hE.frame }
  rcases hx with rfl | rfl
  ·simp only[ExR]at p2;subst p2;exact fin
  ·simp only[ExR]at p2;subst p2;exact fin
end Go.Ev
