/- An evaluator of the model, part 6: ranges over functions. -/
import Derived.Test.YtdpfgjljehajbaaGreatDoorE5
import Derived.RangeFuncRecord
set_option linter.unusedVariables false
set_option linter.unusedSimpArgs false
namespace Go.Ev
open Go.RowKit

def nc:Obj→Bool
 | .cells ..=>false
 | _=>true

section
variable {G G' G0:Gh}{w w' w0:World}{S:St}{l:Nat}{o o' x:Obj}
theorem z1d (h:w.heap[l]?=some o):l < w.heap.size:=(Array.getElem?_eq_some_iff.1 h).1
theorem x0h (h:w.heap[l]?=some o)(ho:nc o=true)(off:Nat)(sp:Option (Nat×Nat)):w.cell? ⟨l,off,none⟩=none:=by
 unfold World.cell?
 simp only[h]
 cases o<;>first | rfl | (simp[nc]at ho)
theorem z7y (h:w.heap[l]?=some o)(ho:nc o=true)(hx:nc x=true)(b off:Nat):(w.putObj l x).cell? ⟨b,off,none⟩=w.cell? ⟨b,off,none⟩:=by
 by_cases e:b=l
 ·subst e
  rw[x0h h ho off none,x0h (World.putObj_heap_same (z1d h)) hx off none]
 ·unfold World.cell?
  simp only[World.putObj_heap_other e]
theorem z4u (h:w.heap[l]?=some o)(ho:nc o=true)(hx:nc x=true):Ext G w G (w.putObj l x) :=
 ⟨fun _ _ h=>h,fun b i _=>z7y h ho hx b i,fun _ _ h=>h,fun k b c m z h=>⟨b,c,m,h,.inl ⟨rfl,rfl,rfl⟩⟩⟩
theorem z2f (w:World)(l:Nat)(a b:Obj):(w.putObj l a).putObj l b=w.putObj l b:=by
 simp[World.putObj]
theorem z56 (h:w.heap[l]?=some o):w.putObj l o=w:=by
 have e:w.heap.setIfInBounds l o=w.heap:=by
  apply Array.ext_getElem?
  intro i
  by_cases hi:i=l
  ·subst hi;rw[Array.getElem?_setIfInBounds_self_of_lt (z1d h),h]
  ·rw[Array.getElem?_setIfInBounds_ne (Ne.symm hi)]
 unfold World.putObj
 rw[e]

structure Free (G:Gh) (l:Nat):Prop where
 σ:∀ h,G.σ h≠some l
 tk:∀ k c m z,G.tk k≠some (l,c,m,z)

theorem Inv.putObj (hI:Inv G w S)(hf:Free G l)(h:w.heap[l]?=some o)(ho:nc o=true)(hx:nc x=true):Inv G (w.putObj l x) S where
 blk:=fun j hb hj=>by
  obtain ⟨b,o1,g1,g2,g3⟩:=hI.blk j hb hj
  exact ⟨b,o1,g1,(World.putObj_heap_other (fun e:b=l=>hf.σ j (by rw[g1,e]))).trans g2,g3.ext (z4u h ho hx)⟩
 dom:=hI.dom
 inj:=hI.inj
 fr:=hI.fr
 base:=hI.base
 tok:=hI.tok
 tdom:=fun k b c m z hk=>by
  obtain ⟨h1,h2,h3,h4,h5,⟨cs,e,⟨fz,h6,h7⟩,h8,h9⟩,h10⟩:=hI.tdom k b c m z hk
  exact ⟨h1,h2,h3,h4,h5,⟨cs,e,⟨fz,(World.putObj_heap_other (fun e:b=l=>hf.tk k c m z (by rw[hk,e]))).trans h6,h7⟩,h8,h9⟩,h10⟩
 tinj:=hI.tinj
 tσ:=hI.tσ
 kin:=fun b i hK=>by rw[World.putObj_size];exact hI.kin b i hK
 bin:=by rw[World.putObj_size];exact hI.bin
theorem ER.putObj {env:Env}{a:Act}(he:ER G w env a)(h:w.heap[l]?=some o)(ho:nc o=true)(hx:nc x=true):ER G (w.putObj l x) env a :=
 ⟨he.1,fun i y hy=>(he.2 i y hy).ext (z4u h ho hx)⟩
theorem Evo.putObj_both (hE:Evo G w G' w')(hl:w.heap[l]?=some o)(ho:nc o=true)(hl':w'.heap[l]?=some o')(ho':nc o'=true)(hx:nc x=true):Evo G (w.putObj l x) G' (w'.putObj l x) where
 k:=hE.k
 cell:=fun b i hK=>by rw[z7y hl' ho' hx,z7y hl ho hx];exact hE.cell b i hK
 σ:=hE.σ
 σn:=fun h b hb=>by rw[World.putObj_size];exact hE.σn h b hb
 tk:=hE.tk
 tkn:=fun k b c m z hk=>by rw[World.putObj_size];exact hE.tkn k b c m z hk
 kn:=fun b i hK=>by rw[World.putObj_size];exact hE.kn b i hK
 B:=hE.B
 size:=by rw[World.putObj_size,World.putObj_size];exact hE.size
 os:=hE.os
 tape:=hE.tape
 output:=hE.output
 frame:=fun b hb h1 h2=>by
  rw[World.putObj_size]at hb
  by_cases e:b=l
  ·subst e
   rw[World.putObj_heap_same (z1d hl'),World.putObj_heap_same (z1d hl)]
  ·rw[World.putObj_heap_other e,World.putObj_heap_other e];exact hE.frame b hb h1 h2
theorem Evo.putObj_new (hE:Evo G w G' w')(hr:w.heap.size≤l)(hl:w'.heap[l]?=some o)(ho:nc o=true)(hx:nc x=true):Evo G w G' (w'.putObj l x) where
 k:=hE.k
 cell:=fun b i hK=>by rw[z7y hl ho hx];exact hE.cell b i hK
 σ:=hE.σ
 σn:=hE.σn
 tk:=hE.tk
 tkn:=hE.tkn
 kn:=hE.kn
 B:=hE.B
 size:=by rw[World.putObj_size];exact hE.size
 os:=hE.os
 tape:=hE.tape
 output:=hE.output
 frame:=fun b hb h1 h2=>by rw[World.putObj_heap_other (by omega)];exact hE.frame b hb h1 h2
theorem Evo.free (hE:Evo G w G' w')(hf:Free G l)(hl:l < w.heap.size):Free G' l :=
 ⟨fun h hh=>by
  rcases hE.σn h l hh with h1 | h1
  ·exact hf.σ h h1
  ·omega,fun k c m z hh=>by
  rcases hE.tkn k l c m z hh with ⟨c',m',z',h1⟩ | h1
  ·exact hf.tk k _ _ _ h1
  ·omega⟩
theorem Evo.at (hE:Evo G w G' w')(hf:Free G l)(hl:w.heap[l]?=some o):w'.heap[l]?=some o :=
 (hE.frame l (z1d hl) hf.σ fun k c m z=>hf.tk k c m z).trans hl
theorem Free.cut (hf:Free G l)(m:Nat):Free (G.cut m) l :=
 ⟨fun h hh=>hf.σ h (z5k hh).2,fun k c m' z hh=>hf.tk k c m' z hh⟩
theorem Free.pre (hf:Free G l)(nb:Nat):Free (G.pre nb) l:=⟨fun h hh=>hf.σ h (z6w hh).2,fun k c m z hh=>z6x hh⟩
theorem Inv.free (hI:Inv G w S)(hl:w.heap.size≤l):Free G l:=⟨fun h hh=>by have:=hI.blk_lt hh;omega,fun k c m z hh=>by have:=hI.tk_lt hh;omega⟩
end

theorem y8 {G:Gh}{w:World}{S:St}{nb:Nat}{hs':List (Option HB)}{G0':Gh}{w':World}(hI:Inv G w S)(hok:(S.hs.take nb).all (z8f nb)=true)(hlen:hs'.length=nb)(hnb:nb≤S.hs.length)
  (q1:Inv G0' w' ⟨hs',[],[]⟩) (q2:Evo (G.pre nb) w G0' w') (wl:List Nat) :
  ∃ G',Inv G' w' ⟨hs'++S.hs.drop nb,S.ts,wl⟩∧Evo G w G' w'∧∀ a v,VR G0' w' a v→VR G' w' a v:=by
 have hpres:∀ k,k < nb→∃ x,S.hs[k]?=some (some x):=fun k hk=>by
  have h1:k < S.hs.length:=by omega
  have h2:(S.hs.take nb)[k]?=some S.hs[k]:=by rw[List.getElem?_take_of_lt hk];exact List.getElem?_eq_getElem h1
  have h3:=List.all_eq_true.1 hok _ (List.mem_of_getElem? h2)
  rw[List.getElem?_eq_getElem h1]
  cases hx:S.hs[k] with
  | none=>rw[hx]at h3;cases h3
  | some x=>exact ⟨x,rfl⟩
 have hσ:∀ k b,G0'.σ k=some b→k < nb∧G.σ k=some b:=fun k b hk=>by
  have hl:k < nb:=by
   obtain ⟨hb,hx⟩:=q1.dom _ _ hk
   have:=(List.getElem?_eq_some_iff.1 hx).1
   simp at this;omega
  obtain ⟨x,hx⟩:=hpres k hl
  obtain ⟨b0,o,h1,h2,h3⟩:=hI.blk k x hx
  have:=q2.σ _ _ (z9d hl h1)
  rw[hk]at this
  cases this
  exact ⟨hl,h1⟩
 have htk:∀ k x,G0'.tk k≠some x:=fun k x hk=>by obtain ⟨b,c,m,z⟩:=x;have:=(q1.tdom _ _ _ _ _ hk).1;simp at this
 have hkn:∀ b o,G0'.K b o→G.K b o∨w.heap.size≤b:=fun b o hk=>by
  rcases q2.kn b o hk with h1 | h1 | ⟨k,c,m,z,h1⟩
  ·exact .inl h1
  ·exact .inr h1
  ·exact absurd h1 z6x
 have hold:∀ b,b < w.heap.size→(∀ k,k < nb→G.σ k≠some b)→w'.heap[b]?=w.heap[b]?:=fun b hb hx=>q2.frame b hb (fun k hk=>hx k (z6w hk).1 (z6w hk).2) (fun k c m z hk=>z6x hk)
 have ext1:Ext G0' w' { G with K:=G0'.K } w':=⟨fun _ _ h=>h,fun _ _ _=>rfl,fun k b hk=>(hσ k b hk).2,fun k b c m z hk=>absurd hk (htk k _)⟩
 have ext2:Ext G w { G with K:=G0'.K } w':=⟨fun b o hk=>q2.k b o hk,fun b o hk=>q2.cell b o hk,fun _ _ h=>h,fun k b c m z hk=>⟨b,c,m,hk,.inl ⟨rfl,rfl,rfl⟩⟩⟩
 have hgetlt:∀ k,k < nb→(hs'++S.hs.drop nb)[k]?=hs'[k]?:=fun k hk=>List.getElem?_append_left (by omega)
 have hgetge:∀ k,nb≤k→(hs'++S.hs.drop nb)[k]?=S.hs[k]?:=fun k hk=>by
  rw[List.getElem?_append_right (by omega),List.getElem?_drop]
  congr 1
  omega
 have hin:∀ k b,nb≤k→G.σ k=some b→∀ j,j < nb→G.σ j≠some b:=fun k b hk h1 j hj h2=>by
  have:=hI.inj _ _ _ h1 h2;omega
 refine ⟨{ G with K:=G0'.K },?_,?_,fun a v h=>h.ext ext1⟩
 ·exact {
   blk:=fun k hb hk=>by
    rcases Nat.lt_or_ge k nb with hl | hge
    ·simp only at hk
     rw[hgetlt k hl]at hk
     obtain ⟨b,o,h1,h2,h3⟩:=q1.blk k hb hk
     exact ⟨b,o,(hσ k b h1).2,h2,h3.ext ext1⟩
    ·simp only at hk
     rw[hgetge k hge]at hk
     obtain ⟨b,o,h1,h2,h3⟩:=hI.blk k hb hk
     exact ⟨b,o,h1,(hold b (hI.blk_lt h1) (hin k b hge h1)).trans h2,h3.ext ext2⟩
   dom:=fun k b hk=>by
    rcases Nat.lt_or_ge k nb with hl | hge
    ·simp only
     rw[hgetlt k hl]
     exact q1.dom k b (q2.σ _ _ (z9d hl hk))
    ·simp only
     rw[hgetge k hge]
     exact hI.dom k b hk
   inj:=hI.inj
   fr:=fun k b o hk hK=>by
    rcases Nat.lt_or_ge k nb with hl | hge
    ·exact q1.fr k b o (q2.σ _ _ (z9d hl hk)) hK
    ·rcases hkn b o hK with h1 | h1
     ·exact hI.fr k b o hk h1
     ·have:=hI.blk_lt hk;omega
   base:=hI.base
   tok:=hI.tok
   tdom:=fun k b c m z hk=>by
    obtain ⟨h1,h2,h3,h4,h5,⟨cs,e,⟨fz,h6,h7⟩,h8,h9⟩,h10⟩:=hI.tdom k b c m z hk
    refine ⟨h1,h2,h3,h4,h5,⟨cs,e,⟨fz,(hold b (hI.tk_lt hk) fun j _ hj=>hI.tσ _ _ _ _ _ _ hk hj).trans h6,h7⟩,h8,h9⟩,fun o hK=>?_⟩
    rcases hkn b o hK with h11 | h11
    ·exact h10 o h11
    ·have:=hI.tk_lt hk;omega
   tinj:=hI.tinj
   tσ:=hI.tσ
   kin:=q1.kin
   bin:=Nat.le_trans hI.bin q2.size }
 ·exact {
   k:=q2.k
   cell:=q2.cell
   σ:=fun _ _ h=>h
   σn:=fun _ _ h=>.inl h
   tk:=fun k b c m z hk=>⟨b,c,m,hk,.inl ⟨rfl,rfl,rfl⟩⟩
   tkn:=fun k b c m z hk=>.inl ⟨c,m,z,hk⟩
   kn:=fun b o hk=>by
    rcases hkn b o hk with h1 | h1
    ·exact .inl h1
    ·exact .inr (.inl h1)
   B:=rfl
   size:=q2.size
   os:=q2.os
   tape:=q2.tape
   output:=q2.output
   frame:=fun b hb hx _=>hold b hb fun k _=>hx k }
end Go.Ev
namespace Go.Ev
open Go.RowKit

structure Zs where
 j:Option Code
 m:Nat
abbrev KontR:=EX→Env→St→Zs→Prop
def z3p (r0:Loop)(j:Option Code):Obj:=.loop { r0 with state:=if j.isNone then .ready else .done,pending:=j }
def sh (l:Option Nat)(r0:Loop)(w:World):World:=match l with
 | some x=>w.putObj x (z3p r0 none)
 | none=>w
def mkD (r:Nat):Deferred:={ target:=.collected r,args:=#[] }
abbrev Yk:=List AV→St→Zs→(Bool→St→Zs→Prop)→Prop

structure Bas (C:Cx) (nb:Nat) (l:Option Nat) (r0:Loop) (G0:Gh) (w0:World):Prop where
 un:(∀ h,nb≤h→G0.σ h=none)∧(nb < 4096→∀ k,G0.tk k=none)
 gt:GtR C G0 w0
 rc:∀ x,l=some x→w0.heap[x]?=some (z3p r0 none)∧Free G0 x
structure Sit (l:Option Nat) (r0:Loop) (G0:Gh) (w0:World) (ds:List Deferred) (z:Zs) (G:Gh) (w:World) (S:St) (env:Env) (a:Act):Prop where
 evo:Evo G0 w0 G (sh l r0 w)
 inv:Inv G w S
 er:ER G w env a
 rc:∀ x,l=some x→w.heap[x]?=some (z3p r0 z.j)
 df:∃ ms:List Nat,ms.length=z.m∧a.defers=ms.map mkD++ds∧ms.Nodup∧∀ r∈ms,w0.heap.size≤r∧w.heap[r]?=some (.deferred (some []))∧Free G r
def x13 (l:Option Nat)(r0:Loop)(G0:Gh)(w0:World)(ds:List Deferred)(k:KontR):Exit→Act→World→Prop:=fun e a' w' =>
 ∃ x env' S' z' G',Sit l r0 G0 w0 ds z' G' w' S' env' a'∧ExR G' w' x e∧k x env' S' z'
def YOk (C:Cx)(l:Nat)(r0:Loop)(G0:Gh)(w0:World)(Y:Yk):Prop:=∀ args S z k,Y args S z k→∀ G w (us:List Value),Inv G w S→Evo G0 w0 G (sh (some l) r0 w)→w.heap[l]?=some (z3p r0 z.j)→VRs G w args us →
 ∃ f tmps asg body,(Instr.yield l us.toArray).run C.P w=.ok (.round l f tmps asg body) w∧∀ rd n,RoundIn (WF rd) n C.P l f tmps asg body w (fun e w'=>∃ b S' z' G',k b S' z'∧z'.m=z.m∧e=.returned (.bool b)∧Inv G' w' S'∧Evo G (sh (some l) r0 w) G' (sh (some l) r0 w')∧w'.heap[l]?=some (z3p r0 z'.j))
structure RW (C:Cx) (nb:Nat) (l:Option Nat) (Y:Yk) (c:Code) (env:Env) (S:St) (z:Zs) (k:KontR):Prop where
 run:okC c=true→∀ r0 G0 w0,Bas C nb l r0 G0 w0→(∀ x,l=some x→YOk C x r0 G0 w0 Y)→∀ n ds G w a,Sit l r0 G0 w0 ds z G w S env a→c.wpIn (WF none) n C.P (x13 l r0 G0 w0 ds k) a w
structure LR (C:Cx) (nb:Nat) (l:Option Nat) (Y:Yk) (m:Nat) (c:Code) (env:Env) (S:St) (z:Zs) (k:KontR):Prop where
 run:okC c=true→∀ r0 G0 w0,Bas C nb l r0 G0 w0→(∀ x,l=some x→YOk C x r0 G0 w0 Y)→∀ n ds G w a,Sit l r0 G0 w0 ds z G w S env a→Code.roundsIn (WF none) n C.P c (x13 l r0 G0 w0 ds k) m a w

theorem z2d (r0:Loop)(j:Option Code):nc (z3p r0 j)=true:=rfl

section
variable {C:Cx}{nb:Nat}{l:Option Nat}{Y:Yk}{r0:Loop}{G0 G G':Gh}{w0 w w':World}{ds:List Deferred}{z:Zs}{S S':St}{env env':Env}{a a':Act}{c:Code}{k:KontR}
theorem Sit.free (h:Sit l r0 G0 w0 ds z G w S env a)(hb:Bas C nb l r0 G0 w0){x:Nat}(hx:l=some x):Free G x:=by
 obtain ⟨h1,h2⟩:=hb.rc x hx
 exact h.evo.free h2 (z1d h1)
theorem x78 {r0:Loop}{j j':Option Code}(hE:Evo G w G' w')(h1:∀ x,l=some x→w.heap[x]?=some (z3p r0 j))(h2:∀ x,l=some x→w'.heap[x]?=some (z3p r0 j')):Evo G (sh l r0 w) G' (sh l r0 w'):=by
 cases l with
 | none=>exact hE
 | some x=>exact hE.putObj_both (h1 x rfl) (z2d _ _) (h2 x rfl) (z2d _ _) (z2d _ _)
theorem Sit.step (h:Sit l r0 G0 w0 ds z G w S env a)(hb:Bas C nb l r0 G0 w0)(hI:Inv G' w' S')(hE:Evo G w G' w')(he:ER G' w' env' a')(hd:a'.defers=a.defers):Sit l r0 G0 w0 ds z G' w' S' env' a' where
 evo:=h.evo.trans (x78 hE h.rc fun x hx=>hE.at (h.free hb hx) (h.rc x hx))
 inv:=hI
 er:=he
 rc:=fun x hx=>hE.at (h.free hb hx) (h.rc x hx)
 df:=by
  obtain ⟨ms,h1,h2,h3,h4⟩:=h.df
  exact ⟨ms,h1,hd.trans h2,h3,fun r hr=>⟨(h4 r hr).1,hE.at (h4 r hr).2.2 (h4 r hr).2.1,hE.free (h4 r hr).2.2 (z1d (h4 r hr).2.1)⟩⟩
theorem Sit.gt (h:Sit l r0 G0 w0 ds z G w S env a)(hb:Bas C nb l r0 G0 w0):GtR C G w:=by
 have h1:=hb.gt.mono h.evo
 cases l with
 | none=>exact h1
 | some x =>
  have h2:=h.rc x rfl
  have e:(sh (some x) r0 w).putObj x (z3p r0 z.j)=w:=by
   simp only[sh]
   rw[z2f,z56 h2]
  have h3:(sh (some x) r0 w).heap[x]?=some (z3p r0 none):=World.putObj_heap_same (z1d h2)
  intro g q hq
  have:=(h1 g q hq).ext (z4u h3 (z2d _ _) (z2d r0 z.j))
  rwa[e]at this
theorem Sit.mask (h:Sit l r0 G0 w0 ds z G w S env a)(L:List Nat):Sit l r0 G0 w0 ds z G w S (z3q L 0 env) a where
 evo:=h.evo
 inv:=h.inv
 er:=⟨by rw[z9i];exact h.er.1,fun i x hx=>by
  obtain ⟨y,h1,h2⟩:=y0c (G:=G) (w:=w) env 0 i x hx
  rcases h2 with rfl | rfl
  ·exact h.er.2 i x h1
  ·exact .bad _⟩
 rc:=h.rc
 df:=h.df
theorem Sit.wl (h:Sit l r0 G0 w0 ds z G w S env a)(wl:List Nat):Sit l r0 G0 w0 ds z G w ⟨S.hs,S.ts,wl⟩ env a :=
 ⟨h.evo,h.inv.congr (fun _ _=>Iff.rfl) rfl,h.er,h.rc,h.df⟩
theorem Sit.keep (h:Sit l r0 G0 w0 ds z G w S env a)(hb:Bas C nb l r0 G0 w0){m:Nat}(hm:nb≤m)(h1:noHL m env=true)(h2:(S.hs.take m).all (okBlk m)=true):Sit l r0 G0 w0 ds z (G.cut m) w ⟨S.hs.take m,S.ts,[]⟩ env a where
  evo:=by
    have hE:=h.evo
    exact {
          k:=hE.k,cell:=hE.cell
          σ:=fun x b hx=>by
            rcases Nat.lt_or_ge x m with hlt | hge
            · simp only[Gh.cut,if_pos hlt];exact hE.σ x b hx
            · rw[hb.un.1 x (Nat.le_trans hm hge)]at hx;cases hx
          σn:=fun x b hx=>hE.σn x b (z5k hx).2
          tk:=hE.tk,tkn:=hE.tkn,kn:=hE.kn,B:=hE.B,size:=hE.size,os:=hE.os,tape:=hE.tape,output:=hE.output,frame:=hE.frame }
  inv:=by
    refine h.inv.cut (S0:=⟨S.hs.take m,S.ts,[]⟩) (n:=m) (fun q x hx=>?_) (fun q x hq hx=>?_) rfl (fun q x hx=>?_)
    · simp only at hx
      have hlt:=(List.getElem?_eq_some_iff.1 hx).1
      rw[List.length_take]at hlt
      rw[List.getElem?_take_of_lt (by omega)]at hx
      exact ⟨by omega,hx⟩
    · simp only
      rw[List.getElem?_take_of_lt hq];exact hx
    · simp only at hx
      have:=List.all_eq_true.1 h2 _ (List.mem_of_getElem? hx)
      exact fun o b _ _ hr=>hr.cut this
  er:=⟨h.er.1,fun i x hx=>(h.er.2 i x hx).cut (z1a h1 hx)⟩
  rc:=h.rc
  df:=by
    obtain ⟨ms,h1,h2,h3,h4⟩:=h.df
    exact ⟨ms,h1,h2,h3,fun r hr=>⟨(h4 r hr).1,(h4 r hr).2.1,(h4 r hr).2.2.cut m⟩⟩

theorem RW.mono (h:RW C nb l Y c env S z k){k':KontR}(hk:∀ x e s z,k x e s z→k' x e s z):RW C nb l Y c env S z k' :=
 ⟨fun hok r0 G0 w0 hb hy n ds G w a hs=>wpIn_mono (h.run hok r0 G0 w0 hb hy n ds G w a hs) fun e a' w' ⟨x,env',S',z',G',q1,q2,q3⟩=>⟨x,env',S',z',G',q1,q2,hk _ _ _ _ q3⟩⟩
theorem RW.mask (L:List Nat)(h:RW C nb l Y c (z3q L 0 env) S z k):RW C nb l Y c env S z k :=
 ⟨fun hok r0 G0 w0 hb hy n ds G w a hs=>h.run hok r0 G0 w0 hb hy n ds G w a (hs.mask L)⟩
theorem LR.mask {m:Nat}(L:List Nat)(h:LR C nb l Y m c (z3q L 0 env) S z k):LR C nb l Y m c env S z k :=
 ⟨fun hok r0 G0 w0 hb hy n ds G w a hs=>h.run hok r0 G0 w0 hb hy n ds G w a (hs.mask L)⟩
theorem LR.keep {m:Nat}(q:Nat)(hq:nb≤q)(h1:noHL q env=true)(h2:(S.hs.take q).all (okBlk q)=true)(h:LR C nb l Y m c env ⟨S.hs.take q,S.ts,[]⟩ z k):LR C nb l Y m c env S z k :=
 ⟨fun hok r0 G0 w0 hb hy n ds G w a hs=>h.run hok r0 G0 w0 hb hy n ds _ w a (hs.keep hb hq h1 h2)⟩
theorem RW.keep (q:Nat)(hq:nb≤q)(h1:noHL q env=true)(h2:(S.hs.take q).all (okBlk q)=true)(h:RW C nb l Y c env ⟨S.hs.take q,S.ts,[]⟩ z k):RW C nb l Y c env S z k :=
 ⟨fun hok r0 G0 w0 hb hy n ds G w a hs=>h.run hok r0 G0 w0 hb hy n ds _ w a (hs.keep hb hq h1 h2)⟩
theorem RW.skip (h:k .normal env S z):RW C nb l Y .skip env S z k :=
 ⟨fun hok r0 G0 w0 hb hy n ds G w a hs=>wpIn_skip ⟨.normal,env,S,z,G,hs,rfl,h⟩⟩
theorem RW.ret (h:k .ret env S z):RW C nb l Y .ret env S z k :=
 ⟨fun hok r0 G0 w0 hb hy n ds G w a hs=>wpIn_ret ⟨.ret,env,S,z,G,hs,rfl,h⟩⟩
theorem RW.exit {id:Nat}(h:k (.exit id) env S z):RW C nb l Y (.exit id) env S z k :=
 ⟨fun hok r0 G0 w0 hb hy n ds G w a hs=>wpIn_exit ⟨.exit id,env,S,z,G,hs,rfl,h⟩⟩
def w0t (C:Cx)(nb:Nat)(l:Option Nat)(Y:Yk)(b:Code)(k:KontR):KontR:=fun x e s z=>match x with
 | .normal=>RW C nb l Y b e s z k
 | x=>k x e s z
theorem RW.seq {c1 c2:Code}(h:RW C nb l Y c1 env S z (w0t C nb l Y c2 k)):RW C nb l Y (.seq c1 c2) env S z k :=
 ⟨fun hok r0 G0 w0 hb hy n ds G w a hs=>by
  simp only[okC,Bool.and_eq_true]at hok
  refine wpIn_seq (wpIn_mono (h.run hok.1 r0 G0 w0 hb hy n ds G w a hs) ?_)
  rintro e a1 w1 ⟨x,env1,S1,z1,G1,q1,q2,q3⟩
  cases x with
  | normal =>
   simp only[ExR]at q2;subst q2
   exact RW.run q3 hok.2 r0 G0 w0 hb hy n ds G1 w1 a1 q1
  | exit i=>simp only[ExR]at q2;subst q2;exact ⟨.exit i,_,_,_,G1,q1,rfl,q3⟩
  | ret=>simp only[ExR]at q2;subst q2;exact ⟨.ret,_,_,_,G1,q1,rfl,q3⟩
  | pan v=>obtain ⟨u,rfl,hu⟩:=q2;exact ⟨.pan v,_,_,_,G1,q1,⟨u,rfl,hu⟩,q3⟩⟩
theorem RW.cond {o:Operand}{c1 c2:Code}{t:Bool}(ht:z1l C env o=.bool t)(h:RW C nb l Y (if t then c1 else c2) env S z k):RW C nb l Y (.cond o c1 c2) env S z k :=
 ⟨fun hok r0 G0 w0 hb hy n ds G w a hs=>by
  simp only[okC,Bool.and_eq_true]at hok
  have hv:=hs.er.eval (hs.gt hb) o
  rw[ht]at hv
  refine wpIn_cond hv.bool_inv ?_
  cases t
  ·exact h.run hok.2 r0 G0 w0 hb hy n ds G w a hs
  ·exact h.run hok.1 r0 G0 w0 hb hy n ds G w a hs⟩
def y3h (id:Nat)(k:KontR):KontR:=fun x e s z=>match x with
 | .exit i=>match Nat.beq i id with
  | true=>k .normal e s z
  | false=>k (.exit i) e s z
 | x=>k x e s z
theorem RW.block {id:Nat}(h:RW C nb l Y c env S z (y3h id k)):RW C nb l Y (.block id c) env S z k :=
 ⟨fun hok r0 G0 w0 hb hy n ds G w a hs=>by
  simp only[okC]at hok
  refine wpIn_block (wpIn_mono (h.run hok r0 G0 w0 hb hy n ds G w a hs) ?_)
  rintro e a1 w1 ⟨x,env1,S1,z1,G1,q1,q2,q3⟩
  cases x with
  | normal=>simp only[ExR]at q2;subst q2;exact ⟨.normal,_,_,_,G1,q1,rfl,q3⟩
  | exit i =>
   simp only[ExR]at q2;subst q2
   simp only[y3h]at q3
   simp only[Exit.inBlock]
   split at q3
   ·rename_i hi;rw[if_pos (Nat.eq_of_beq_eq_true hi)];exact ⟨.normal,_,_,_,G1,q1,rfl,q3⟩
   ·rename_i hi;rw[if_neg (Nat.ne_of_beq_eq_false hi)];exact ⟨.exit i,_,_,_,G1,q1,rfl,q3⟩
  | ret=>simp only[ExR]at q2;subst q2;exact ⟨.ret,_,_,_,G1,q1,rfl,q3⟩
  | pan v=>obtain ⟨u,rfl,hu⟩:=q2;exact ⟨.pan v,_,_,_,G1,q1,⟨u,rfl,hu⟩,q3⟩⟩
theorem RW.loop {m:Nat}(h:LR C nb l Y m c env S z k):RW C nb l Y (.loop c) env S z k :=
 ⟨fun hok r0 G0 w0 hb hy n ds G w a hs=>wpIn_loop_rounds m (h.run hok r0 G0 w0 hb hy n ds G w a hs)⟩
def x9f (C:Cx)(nb:Nat)(l:Option Nat)(Y:Yk)(m:Nat)(c:Code)(k:KontR):KontR:=fun x e s z=>match x with
 | .normal=>LR C nb l Y m c e s z k
 | x=>k x e s z
theorem LR.step {m:Nat}(h:RW C nb l Y c env S z (x9f C nb l Y m c k)):LR C nb l Y (m+1) c env S z k :=
 ⟨fun hok r0 G0 w0 hb hy n ds G w a hs=>by
  rw[roundsIn_succ]
  refine wpIn_mono (h.run hok r0 G0 w0 hb hy n ds G w a hs) ?_
  rintro e a1 w1 ⟨x,env1,S1,z1,G1,q1,q2,q3⟩
  cases x with
  | normal=>simp only[ExR]at q2;subst q2;exact LR.run q3 hok r0 G0 w0 hb hy n ds G1 w1 a1 q1
  | exit i=>simp only[ExR]at q2;subst q2;exact ⟨.exit i,_,_,_,G1,q1,rfl,q3⟩
  | ret=>simp only[ExR]at q2;subst q2;exact ⟨.ret,_,_,_,G1,q1,rfl,q3⟩
  | pan v=>obtain ⟨u,rfl,hu⟩:=q2;exact ⟨.pan v,_,_,_,G1,q1,⟨u,rfl,hu⟩,q3⟩⟩
theorem RW.of_ev {sf:Self}(hC:CxOk C)(hs:SelfOk C sf){x:EX}(h:evC C sf c env S=some (x,env',S'))(hk:k x env' S' z):RW C nb l Y c env S z k :=
 ⟨fun hok r0 G0 w0 hb hy n ds G w a hsit=>z3l hC hs c _ _ _ _ _ hok h none n a.defers G w a hsit.inv (hsit.gt hb) hsit.er rfl _ fun e' a' w' ⟨G',q1,q2,q3,q4,q5⟩ =>
  ⟨x,env',S',z,G',hsit.step hb q1 q2 q3 q4,q5,hk⟩⟩
end

section
variable {C:WCx}{l:Option Nat}{Y:Yk}{z:Zs}{S:St}{env:Env}{c:Code}{k:KontR}
theorem RW.region (ho:C.Ones)(hC:CxOk C.cx){nb:Nat}{id:Nat}{ops:Array Oper}{d:Bool}(h:wpC C (.region id ops d) env S fun x e s=>k x e s z):RW C.cx nb l Y (.region id ops d) env S z k:=by
 have key:∃ x e s,evC C.cx noSelf (.region id ops d) env S=some (x,e,s)∧k x e s z:=by
  cases d
  ·exact z7k ho _ _ _ _ h
  ·simp only[wpC]at h
   simp only[evC]
   split at h
   ·rename_i hf
    rw[if_pos hf]
    obtain ⟨e,s,h1,h2⟩:=z6i (sf:=noSelf) ho _ _ _ _ _ _ h
    rw[h1]
    exact z7k ho _ _ _ _ h2
   ·rename_i hf
    rw[if_neg (by rw[hf];simp)]
    obtain ⟨e,s,h1,h2⟩:=z6i (sf:=noSelf) ho _ _ _ _ _ _ h
    rw[h1]
    exact ⟨_,_,_,rfl,h2⟩
 obtain ⟨x,e,s,h1,h2⟩:=key
 exact RW.of_ev hC (y61 _) h1 h2

def yOf (C:WCx)(env:Env):Op→Option (Nat×List AV)
 | .call c=>match c.callee with
  | .value f=>match z1l C.pc env f with
   | .fn (.yield x) [] []=>some (x,c.args.toList.map (z1l C.pc env))
   | _=>none
  | _=>none
 | _=>none
def w72 (C:WCx)(Y:Yk)(l:Nat):List Oper→Env→St→Zs→KontR→Prop
 | [],env,S,z,k=>k .normal env S z
 | o::rest,env,S,z,k=>match o.guard with
  | some _=>False
  | none=>match yOf C env o.op with
   | some (x,args)=>x=l∧Y args S z fun b S' z'=>w72 C Y l rest (z1u env o.dst (.bool b)) S' z' k
   | none=>opW C S (z1l C.pc env) o.op fun r S'=>match r with
    | .ret v=>w72 C Y l rest (z1u env o.dst v) S' z k
    | .pan v=>k (.pan v) env S' z
end
end Go.Ev
namespace Go.Ev
open Go.RowKit

theorem w9r {C:WCx}{env:Env}{o:Op}{x:Nat}{args:List AV}(h:yOf C env o=some (x,args)):∃ c f,o=.call c∧c.callee=.value f∧z1l C.pc env f=.fn (.yield x) [] []∧args=c.args.toList.map (z1l C.pc env):=by
 unfold yOf at h
 split at h
 ·rename_i c
  split at h
  ·rename_i f hf
   split at h
   ·rename_i y he
    cases h
    exact ⟨c,f,rfl,hf,he,rfl⟩
   ·cases h
  ·cases h
 ·cases h

section
variable {C:WCx}{l:Nat}{Y:Yk}
theorem w9c (ho:C.Ones)(hC:CxOk C.cx){nb:Nat}{r0:Loop}{G0:Gh}{w0:World}(hb:Bas C.cx nb (some l) r0 G0 w0)(hy:YOk C.cx l r0 G0 w0 Y)(ops:Array Oper)(n:Nat)(ds:List Deferred)(k:KontR) :
  ∀ (i:Nat) (rest:List Oper) (env:Env) (S:St) (z:Zs) (G:Gh) (w:World) (a:Act),rest=ops.toList.drop i→w72 C Y l rest env S z k→Sit (some l) r0 G0 w0 ds z G w S env a →
  wpOpsIn (WF none) n C.P ops (x13 (some l) r0 G0 w0 ds k) ((List.range ops.size).drop i) a w:=by
 intro i rest
 induction rest generalizing i with
 | nil =>
  intro env S z G w a hk h hs
  have:ops.size≤i:=by
   have:=congrArg List.length hk
   simp at this;omega
  rw[List.drop_eq_nil_of_le (by simpa using this)]
  exact ⟨.normal,env,S,z,G,hs,rfl,h⟩
 | cons o rest ih =>
  intro env S z G w a hk h hs
  have hlt:i < ops.size:=by
   rcases Nat.lt_or_ge i ops.size with h1 | h1
   ·exact h1
   ·rw[List.drop_eq_nil_of_le (by simpa using h1)]at hk;cases hk
  have hdrop:ops.toList.drop i=ops[i]::ops.toList.drop (i+1):=by
   rw[List.drop_eq_getElem_cons (by simpa using hlt)];simp
  rw[hdrop]at hk
  injection hk with hoi hrest
  have hrange:(List.range ops.size).drop i=i::(List.range ops.size).drop (i+1):=by
   rw[List.drop_eq_getElem_cons (by simpa using hlt)];simp
  rw[hrange]
  simp only[wpOpsIn]
  have hget:ops[i]?=some o:=by rw[Array.getElem?_eq_getElem hlt,hoi]
  rw[hget]
  simp only
  simp only[w72]at h
  split at h
  ·exact h.elim
  rename_i hgd
  have hw:Region.wanted o (yielded ops a.tmps)=true:=by simp[Region.wanted,hgd]
  rw[if_pos hw]
  split at h
  ·rename_i x args hyo
   obtain ⟨rfl,h⟩:=h
   obtain ⟨c,f,e1,e2,e3,rfl⟩:=w9r hyo
   have hg:=hs.gt hb
   have hf:=hs.er.eval hg f
   rw[show z1l C.cx env f=z1l C.pc env f from rfl,e3]at hf
   generalize hv:a.eval f=v at hf
   cases hf with
   | fn _ _ _ xs ys ha1 hb1 _ _ =>
    have ha0:xs=#[]:=by apply Array.eq_empty_of_size_eq_zero;simpa using ha1
    have hb0:ys=#[]:=by apply Array.eq_empty_of_size_eq_zero;simpa using hb1
    subst ha0;subst hb0
    have hd:∀ c,o.op≠.defer c:=by intro c' e;rw[e1]at e;cases e
    have hargs:VRs G w (c.args.toList.map (z1l C.pc env)) (c.args.toList.map a.eval):=getElem?_map_VR (hs.er.eval hg) c.args
    obtain ⟨f0,tmps,asg,body,y1,y2⟩:=hy _ _ _ _ h G w _ hs.inv hs.evo (hs.rc _ rfl) hargs
    refine ⟨fun _ _=>trivial,?_⟩
    rw[Oper.semAt_eq _ _ _ hd]
    have hrun:(execOp a.eval o).run C.P w=.ok (.round x f0 tmps asg body) w:=by
     have e:(c.args.toList.map a.eval).toArray=c.args.map a.eval:=by apply Array.ext';simp
     rw[e]at y1
     have y1':(Instr.yield x (c.args.map a.eval)).run C.P w=.ok (.round x f0 tmps asg body) w:=y1
     simp[execOp,e1,resolve,e2,hv,Deferred.ofValue,invoke]
     exact y1'
    rw[hrun]
    refine ⟨fun h=>(by simp[Fence.wide]at h),(y2 none (n-1)).mono ?_⟩
    rintro e w' ⟨b,S',z',G',q1,q2,rfl,q3,q4,q5⟩
    simp only
    have hfree:=hs.free hb (x:=x) rfl
    refine ih (i+1) _ _ _ G' w' _ hrest q1 ⟨hs.evo.trans q4,q3,?_,fun y hy=>by cases hy;exact q5,?_⟩
    ·refine ER.put ⟨hs.er.1,fun j u hu=>?_⟩ (.bool b) o.dst
     have r1:=hs.rc x rfl
     have h1:=(hs.er.2 j u hu).ext (z4u r1 (z2d _ _) (z2d r0 none))
     have h2:=h1.mono q4
     have h3:(sh (some x) r0 w').heap[x]?=some (z3p r0 none):=World.putObj_heap_same (z1d q5)
     have h4:=h2.ext (z4u h3 (z2d _ _) (z2d r0 z'.j))
     rwa[show (sh (some x) r0 w').putObj x (z3p r0 z'.j)=w' by simp only[sh];rw[z2f,z56 q5]]at h4
    ·obtain ⟨ms,m1,m2,m3,m4⟩:=hs.df
     refine ⟨ms,by rw[m1,q2],by rw[Act.put_defers'];exact m2,m3,fun r hr=>?_⟩
     obtain ⟨p1,p2,p3⟩:=m4 r hr
     have hne:r≠x:=by
      rintro rfl
      have:=hs.rc r rfl
      rw[p2]at this
      cases this
     have p4:(sh (some x) r0 w).heap[r]?=some (.deferred (some [])):=by simp only[sh];rw[World.putObj_heap_other hne];exact p2
     refine ⟨p1,?_,q4.free p3 (z1d p4)⟩
     have p5:=q4.at p3 p4
     simp only[sh]at p5
     rwa[World.putObj_heap_other hne]at p5
  ·obtain ⟨r,S',h1,h2⟩:=x8d (sf:=noSelf) ho h
   refine z8d hC (y61 _) hs.inv (hs.gt hb) (hs.er.eval (hs.gt hb)) o (by rw[show z1l C.cx env=z1l C.pc env from rfl];exact h1) none n ?_
   cases r with
   | ret v =>
    intro G' w' x q1 q2 q3
    exact ih (i+1) _ _ _ G' w' _ hrest h2 (hs.step hb q1 q2 ((hs.er.mono q2).put q3 o.dst) (Act.put_defers' _ _ _))
   | pan v =>
    intro G' w' x q1 q2 q3
    exact ⟨.pan v,env,S',z,G',hs.step hb q1 q2 (hs.er.mono q2) rfl,⟨x,rfl,q3⟩,h2⟩
theorem RW.regionY (ho:C.Ones)(hC:CxOk C.cx){nb:Nat}{id:Nat}{ops:Array Oper}{env:Env}{S:St}{z:Zs}{k:KontR}(h:w72 C Y l ops.toList env S z k):RW C.pc nb (some l) Y (.region id ops false) env S z k :=
 ⟨fun hok r0 G0 w0 hb hy n ds G w a hs=>wpIn_region (by
  have:=w9c ho hC (nb:=nb) ⟨hb.un,hb.gt,hb.rc⟩ (hy l rfl) ops n ds k 0 ops.toList env S z G w a (by simp) h hs
  simp only[List.drop_zero]at this
  exact this)⟩
end

structure HsOk (nb:Nat) (hs:List (Option HB)):Prop where
 len:hs.length=nb
 ok:hs.all (z8f nb)=true
 st:hs.map (Option.map (z0n 0))=hs
theorem HsOk.okBlk {nb:Nat}{hs:List (Option HB)}(h:HsOk nb hs):hs.all (okBlk nb)=true:=by
 rw[List.all_eq_true]
 intro x hx
 have:=List.all_eq_true.1 h.ok x hx
 cases x with
 | none=>rfl
 | some b=>exact this
abbrev Rnd:=List AV→List (Option HB)→Option Code→List (Option HB)→Prop
def x0p (nb:Nat)(Rd:Rnd):List (List AV)→List (Option HB)→Option Code→List (Option HB)→Prop
 | [],hs,j,hs'=>j=none∧hs'=hs
 | it::l,hs,j,hs'=>∃ j1 hs1,Rd it hs j1 hs1∧HsOk nb hs1∧match j1 with
  | none=>x0p nb Rd l hs1 j hs'
  | some c=>j=some c∧hs'=hs1
def Yw (nb:Nat)(Rd:Rnd):Yk:=fun args S z k=>z.j=none∧noHL nb args=true∧z0e 0 args=args∧nb≤S.hs.length∧HsOk nb (S.hs.take nb)∧∃ j hs',Rd args (S.hs.take nb) j hs'∧HsOk nb hs'∧k j.isNone ⟨hs'++S.hs.drop nb,S.ts,[]⟩ { z with j:=j }

structure SeqOk (D:Cx) (nb:Nat) (f:FuncId) (ca cb:List AV) (its:List (List AV)):Prop where
 body : ∃ (fn : Func) (c : Code), D.P.funcs[f]? = some fn ∧ fn.body = some c ∧ (fn.name == "runtime.NumGoroutine") = false
 ok:∀ (Rd:Rnd) hs j hs',HsOk nb hs→x0p nb Rd its hs j hs'→∀ l r0 G0 w0,Bas D nb (some l) r0 G0 w0→YOk D l r0 G0 w0 (Yw nb Rd)→Inv G0 w0 ⟨hs,[],[]⟩ →
  ∀ us,VRs G0 w0 (ca++[AV.fn (.yield l) [] []]++cb) us→Calls D.P f us.toArray w0 (fun e w'=>∃ v G',e=.returned v∧Inv G' w' ⟨hs',[],[]⟩∧Evo G0 w0 G' (sh (some l) r0 w')∧w'.heap[l]?=some (z3p r0 j))
def v4d (nb:Nat)(hs':List (Option HB))(j:Option Code):KontR:=fun x e s z=>(x=.normal∨x=.ret)∧z.j=j∧z.m=0∧s.hs.take nb=hs'
theorem y94 {nb:Nat}{Rd:Rnd}:∀ {its:List (List AV)} {hs:List (Option HB)} {j:Option Code} {hs':List (Option HB)},HsOk nb hs→x0p nb Rd its hs j hs'→HsOk nb hs'
 | [],hs,j,hs',h0,h=>by obtain ⟨_,rfl⟩:=h;exact h0
 | it::l,hs,j,hs',h0,h=>by
  obtain ⟨j1,hs1,h1,h2,h3⟩:=h
  cases j1 with
  | none=>exact y94 h2 h3
  | some c=>obtain ⟨_,rfl⟩:=h3;exact h2

theorem SeqOk.of_RW {D : Cx} (hcodes : ∀ (g : Nat) (fn : Func) (c : Code), D.P.funcs[g]? = some fn → fn.body = some c → okC c = true) {nb : Nat} {f : FuncId} {ca cb : List AV} {its : List (List AV)} {fn : Func} {c : Code} (hf : D.P.funcs[f]? = some fn) (hc : fn.body = some c) (hname : (fn.name == "runtime.NumGoroutine") = false) (hr : fn.results = #[])
  (h:∀ (Rd:Rnd) hs j hs' l,HsOk nb hs→x0p nb Rd its hs j hs'→RW D nb (some l) (Yw nb Rd) c ((ca++[AV.fn (.yield l) [] []]++cb)++List.replicate (fn.ntmps-(ca++[AV.fn (.yield l) [] []]++cb).length) .bad) ⟨hs,[],[]⟩ ⟨none,0⟩ (v4d nb hs' j)):SeqOk D nb f ca cb its where
 body:=⟨fn,c,hf,hc,hname⟩
 ok:=fun Rd hs j hs' h0 hrun l r0 G0 w0 hb hy hI us hus=>by
  refine (callsIn_wide (n:=0)).1 (callsIn_of_wp hf hc trivial ?_)
  have he:=z81 hus fn.ntmps
  have hb0:=(hb.rc l rfl).1
  have hs0:sh (some l) r0 w0=w0:=by simp only[sh];exact z56 hb0
  have hsit:Sit (some l) r0 G0 w0 [] ⟨none,0⟩ G0 w0 ⟨hs,[],[]⟩ _ _:=⟨by rw[hs0];exact Evo.refl _ _,hI,he,fun x hx=>by cases hx;exact hb0,⟨[],rfl,rfl,List.nodup_nil,fun r hr=>by simp at hr⟩⟩
  refine wpIn_mono ((h Rd hs j hs' l h0 hrun).run (hcodes f fn c hf hc) r0 G0 w0 hb (fun x hx=>by cases hx;exact hy) 0 [] G0 w0 _ hsit) ?_
  rintro e a' w' ⟨x,env',S',z',G',q1,q2,q3,q4,q5,q6⟩
  obtain ⟨ms,m1,m2,m3,m4⟩:=q1.df
  rw[q5,List.length_eq_zero_iff]at m1
  subst m1
  have h1:=y94 h0 hrun
  have hrec:=q1.rc l rfl
  have hfree:=q1.free hb (x:=l) rfl
  have fin:a'.defers=[]∧∃ v,(results fn a'.tmps).run D.P w'=.ok v w'∧∃ v' G',(Ending.returned v)=.returned v'∧Inv G' w' ⟨hs',[],[]⟩∧Evo G0 w0 G' (sh (some l) r0 w')∧w'.heap[l]?=some (z3p r0 j):=by
   refine ⟨by simpa using m2,undef,?_,undef,?_⟩
   ·unfold results
    rw[hr]
    simp[go_sem,undef]
   ·have hIs:Inv G' (sh (some l) r0 w') S':=q1.inv.putObj hfree hrec (z2d _ _) (z2d _ _)
    have hs'len:hs.length=nb:=h0.len
    obtain ⟨G2,p1,p2,p3⟩:=y1i (C:=D) (r:=.tup []) (r':=.tup []) (v:=undef) hs'len hI hIs q1.evo (by rw[q6];exact h1.okBlk) (by simp[pub,z97]) VR.undef
    rw[q6,h1.st]at p1
    have hsh:(sh (some l) r0 w').heap[l]?=some (z3p r0 none):=World.putObj_heap_same (z1d hrec)
    have hf2:Free G2 l:=p2.free (hb.rc l rfl).2 (z1d hb0)
    have p4:=p1.putObj hf2 hsh (z2d _ _) (z2d r0 z'.j)
    rw[show (sh (some l) r0 w').putObj l (z3p r0 z'.j)=w' by simp only[sh];rw[z2f,z56 hrec]]at p4
    exact ⟨G2,rfl,p4,p2,by rw[← q4];exact hrec⟩
  rcases q3 with rfl | rfl
  ·simp only[ExR]at q2;subst q2;exact fin
  ·simp only[ExR]at q2;subst q2;exact fin
end Go.Ev
namespace Go.Ev
open Go.RowKit

def setPs (env:Env):List Tmp→List AV→Env
 | p::ps,v::vs=>setPs (env.set p v) ps vs
 | _,_=>env
theorem ER.setPs {G:Gh}{w:World}{ds:List Deferred}:∀ (ps:List Tmp) (vs:List AV) (us:List Value) (env:Env) (t:Array Value),VRs G w vs us→ER G w env { tmps:=t,defers:=ds } →
  ER G w (setPs env ps vs) { tmps:=(ps.zip us).foldl (fun t (p,v)=>t.setIfInBounds p v) t,defers:=ds }
 | [],vs,us,env,t,h,he=>by simpa[Ev.setPs] using he
 | p::ps,[],us,env,t,h,he=>by
  have:us=[]:=List.length_eq_zero_iff.1 (by simpa using h.1)
  subst this
  simpa[Ev.setPs] using he
 | p::ps,v::vs,[],env,t,h,he=>by have:=h.1;simp at this
 | p::ps,v::vs,u::us,env,t,h,he=>by
  simp only[Ev.setPs,List.zip_cons_cons,List.foldl_cons]
  refine ER.setPs ps vs us _ _ ⟨by simpa using h.1,fun i a ha=>?_⟩ ?_
  ·obtain ⟨x,h1,h2⟩:=h.2 (i+1) a (by simpa using ha)
   exact ⟨x,by simpa using h1,h2⟩
  ·obtain ⟨x,h1,h2⟩:=h.2 0 v rfl
   simp at h1
   subst h1
   exact he.put h2 (some p)

def jOf:EX→Option Code
 | .exit i=>some (.exit i)
 | .ret=>some .ret
 | _=>none
def kR (nb:Nat)(j:Option Code)(hs':List (Option HB)):Kont:=fun x e s=>(∀ v,x≠.pan v)∧jOf x=j∧(s.hs.take nb).all (okBlk nb)=true∧(s.hs.take nb).map (Option.map (z0n 0))=hs'
def x0j (C:WCx)(ps:Array Tmp)(asg body:Code)(env:Env)(Rd:Rnd):Prop:=∀ it hs j hs',Rd it hs j hs'→HsOk C.bs hs→it.length=ps.size∧wpC C asg (setPs env ps.toList it) ⟨hs,[],[]⟩ fun x e s=>x=.normal∧wpC C body e s (kR C.bs j hs')

theorem y04:∀ (l:List AV) (i:Nat),(z0e 0 l)[i]?=(l[i]?).map (scrub 0)
 | [],i=>by simp[z0e]
 | a::l,0=>by simp[z0e]
 | a::l,i+1=>by simpa[z0e] using y04 l i
theorem ER.pre {G:Gh}{w:World}{env:Env}{a:Act}(h:ER G w env a){nb:Nat}(hn:noHL nb env=true)(hs:z0e 0 env=env):ER (G.pre nb) w env a:=by
 refine ⟨h.1,fun i x hx=>?_⟩
 have h1:=(h.2 i x hx).pre (z1a hn hx)
 have h2:scrub 0 x=x:=by
  have:=y04 env i
  rw[hs,hx]at this
  simpa using this.symm
 rwa[h2]at h1
theorem GtR.pre {C:Cx}{G:Gh}{w:World}(hgt:z1v C)(hg:GtR C G w)(nb:Nat):GtR C (G.pre nb) w:=fun x l hl=>by
 have h1:=((hg x l hl).bare (by simp only[Ev.noH];exact (hgt x l hl).1)).ext (Ext.pre nb)
 have h2:scrub 0 (.vp l)=.vp l:=by
  simp only[scrub]
  congr 1
  exact z17 l (hgt x l hl).2
 rwa[h2]at h1
theorem z9t {G:Gh}{nb:Nat}:(G.pre nb).Under nb:=⟨fun h hh=>by
  cases hx:(G.pre nb).σ h with
  | none=>rfl
  | some b=>have:=(z6w hx).1;omega,fun k=>by
  cases hx:(G.pre nb).tk k with
  | none=>rfl
  | some b=>exact absurd hx z6x⟩

section
variable {C:WCx}
theorem YOk.of_round (ho:C.Ones)(hC:CxOk C.cx)(hgt:z1v C.cx){ps:Array Tmp}{asg body:Code}(hoa:okC asg=true)(hob:okC body=true){env:Env}{Rd:Rnd}(hrd:x0j C ps asg body env Rd)
  {l:Nat} {fnid:FuncId} {tmps:Array Value} {dfs:Nat} {G0:Gh} {w0:World}
  (hb:Bas C.cx C.bs (some l) { state:=.ready,pending:=none,fn:=fnid,tmps:=tmps,params:=ps,assign:=asg,body:=body,defers:=dfs } G0 w0) (he:ER G0 w0 env { tmps:=tmps,defers:=[] }) (hn:noHL C.bs env=true) (hst:z0e 0 env=env) :
  YOk C.cx l { state:=.ready,pending:=none,fn:=fnid,tmps:=tmps,params:=ps,assign:=asg,body:=body,defers:=dfs } G0 w0 (Yw C.bs Rd):=by
 intro args S z k hy G w us hI hE hrec hus
 obtain ⟨hz,a1,a2,a3,a4,j,hs',hR,hok',hk⟩:=hy
 obtain ⟨hlen,hwp⟩:=hrd args _ j hs' hR a4
 rw[hz]at hrec
 generalize hr0:({ state:=.ready,pending:=none,fn:=fnid,tmps:=tmps,params:=ps,assign:=asg,body:=body,defers:=dfs }:Loop)=r0 at hb hE hrec ⊢
 have hrl:w.heap[l]?=some (.loop r0):=by rw[hrec,← hr0];rfl
 have hus':us.length=ps.size:=by rw[hus.1];exact hlen
 have hyl:=run_yield (P:=C.P) (args:=us.toArray) hrl (by rw[← hr0];simpa using hus')
 refine ⟨_,_,_,_,hyl,fun rd n=>?_⟩
 have hsw:sh (some l) r0 w=w:=by simp only[sh];exact z56 hrec
 have hb0:=(hb.rc l rfl).1
 have hfree0:=(hb.rc l rfl).2
 have hfree:Free G l:=hE.free hfree0 (z1d hb0)
 rw[hsw]at hE
 have hgG:GtR C.cx G w:=hb.gt.mono hE
 -- the round's view
 have hle:(S.hs.take C.bs).length=C.bs:=a4.len
 have hpreS:z9u S C.bs=⟨S.hs.take C.bs,[],[]⟩:=by simp only[z9u];rw[a4.st]
 have hIp:Inv (G.pre C.bs) w ⟨S.hs.take C.bs,[],[]⟩:=by have:=hI.pre (nb:=C.bs) a4.ok;rwa[hpreS]at this
 have hgp:=GtR.pre hgt hgG C.bs
 have heG:ER G w env { tmps:=tmps,defers:=[] }:=he.mono hE
 have hep:ER (G.pre C.bs) w env { tmps:=tmps,defers:=[] }:=heG.pre hn hst
 have husp:VRs (G.pre C.bs) w args us:=by have:=hus.pre a1;rwa[a2]at this
 have heP:=ER.setPs ps.toList args us env tmps husp hep
 obtain ⟨x1,e1,s1,c1,rfl,hwp2⟩:=z89 ho hC _ _ _ _ hwp
 obtain ⟨x2,e2,s2,c2,hkr⟩:=z89 ho hC _ _ _ _ hwp2
 obtain ⟨k1,k2,k3,k4⟩:=hkr
 have htm:(r0.params.zip us.toArray).foldl (fun tmps (t,a)=>tmps.setIfInBounds t a) r0.tmps=(ps.toList.zip us).foldl (fun t (p,v)=>t.setIfInBounds p v) tmps:=by
  rw[← hr0,← Array.foldl_toList]
  simp
 rw[htm]
 have hasg:r0.assign=asg:=by rw[← hr0]
 have hbody:r0.body=body:=by rw[← hr0]
 rw[hasg,hbody]
 refine roundIn_of_wpIn trivial ?_
 refine c1.run hoa (G.pre C.bs) w z9t hgp (some l) n [] (G.pre C.bs) w _ (Evo.refl _ _) hIp heP rfl _ ?_
 rintro e a' w1 ⟨G1,p1,p2,p3,p4,p5⟩
 simp only[ExR]at p5;subst p5
 have hfp:Free (G.pre C.bs) l:=hfree.pre C.bs
 have hr1:w1.heap[l]?=some (.loop r0):=p2.at hfp hrl
 simp only[Exit.then]
 have hready:r0.state=.ready:=by rw[← hr0]
 refine ⟨_,run_beginRound hr1 hready,?_⟩
 have ncl:nc (.loop r0)=true:=rfl
 have nbz:nc (.loop { r0 with state:=.busy })=true:=rfl
 have hf1:Free G1 l:=p2.free hfp (z1d hrl)
 have hgp2:GtR C.cx (G.pre C.bs) (w.putObj l (.loop { r0 with state:=.busy })):=fun g q hq=>(hgp g q hq).ext (z4u hrl ncl nbz)
 refine c2.run hob (G.pre C.bs) (w.putObj l (.loop { r0 with state:=.busy })) z9t hgp2 (some l) n [] G1 _ a' (p2.putObj_both hrl ncl hr1 ncl nbz) (p1.putObj hf1 hr1 ncl nbz) (p3.putObj hr1 ncl nbz) p4 _ ?_
 rintro e a2' w2 ⟨G2,q1,q2,q3,q4,q5⟩
 have hIpb:Inv (G.pre C.bs) (w.putObj l (.loop { r0 with state:=.busy })) ⟨S.hs.take C.bs,[],[]⟩:=hIp.putObj hfp hrl ncl nbz
 obtain ⟨G3,t1,t2,_⟩:=y1i (C:=C.cx) (r:=.tup []) (r':=.tup []) (v:=undef) hle hIpb q1 q2 k3 (by simp[pub,z97]) VR.undef
 rw[k4]at t1
 obtain ⟨G4,u1,u2,_⟩:=y8 (hI.putObj hfree hrl ncl nbz) a4.ok hok'.len a3 t1 t2 []
 have hbz:(w.putObj l (.loop { r0 with state:=.busy })).heap[l]?=some (.loop { r0 with state:=.busy }):=World.putObj_heap_same (z1d hrl)
 have hr2:w2.heap[l]?=some (.loop { r0 with state:=.busy }):=u2.at hfree hbz
 have hf4:Free G4 l:=u2.free hfree (z1d hbz)
 have fin:∀ jj:Option Code,jj=j→∃ v w3,(Instr.endRound l jj).run C.P w2=.ok v w3∧∃ b S' z' G',k b S' z'∧z'.m=z.m∧(Ending.returned v)=.returned (.bool b)∧Inv G' w3 S'∧Evo G (sh (some l) r0 w) G' (sh (some l) r0 w3)∧w3.heap[l]?=some (z3p r0 z'.j):=by
  rintro jj rfl
  have hend:=run_endRound (P:=C.P) jj hr2
  refine ⟨_,_,hend,jj.isNone,_,_,G4,hk,rfl,rfl,?_,?_,?_⟩
  ·exact u1.putObj hf4 hr2 nbz rfl
  ·have e1:(Obj.loop { ({ r0 with state:=.busy }:Loop) with state:=if jj.isNone=true then .ready else .done,pending:=jj })=z3p r0 jj:=rfl
   rw[e1]
   have:=u2.putObj_both hbz nbz hr2 nbz (z2d r0 none)
   rw[z2f]at this
   simp only[sh]
   rw[z2f]
   exact this
  ·exact World.putObj_heap_same (z1d hr2)
 cases x2 with
 | normal=>simp only[ExR]at q5;subst q5;exact fin none k2
 | exit i=>simp only[ExR]at q5;subst q5;exact fin (some (.exit i)) k2
 | ret=>simp only[ExR]at q5;subst q5;exact fin (some .ret) k2
 | pan v=>exact absurd rfl (k1 v)

def w2q (k:KontR)(env:Env)(hs':List (Option HB))(m:Nat):Option Code→Prop
 | none=>k .normal env ⟨hs',[],[]⟩ ⟨none,m⟩
 | some .ret=>k .ret env ⟨hs',[],[]⟩ ⟨none,m⟩
 | some (.exit i)=>k (.exit i) env ⟨hs',[],[]⟩ ⟨none,m⟩
 | some _=>False
theorem RW.range (ho:C.Ones)(hC:CxOk C.cx)(hgt:z1v C.cx){D:Cx}(hDP:D.P=C.P)(hDg:D.gt=C.gt){nb0:Nat}{Y:Yk}{g:Operand}{ps:Array Tmp}{asg body:Code}(hoa:okC asg=true)(hob:okC body=true){env:Env}{hs hs':List (Option HB)}{m:Nat}{k:KontR}{f:FuncId}{ca cb:List AV}{its:List (List AV)}{Rd:Rnd}{j:Option Code}
  (hg:z1l D env g=.fn (.func f) ca cb) (hseq:SeqOk C.cx C.bs f ca cb its) (hrd:x0j C ps asg body env Rd) (hok:HsOk C.bs hs) (hn:noHL C.bs env=true) (hst:z0e 0 env=env) (hrun:x0p C.bs Rd its hs j hs') (hk:w2q k env hs' (m+1) j) :
  RW D nb0 none Y (.rangeFunc g ps asg body) env ⟨hs,[],[]⟩ ⟨none,m⟩ k:=by
 refine ⟨fun _ r0' G0 w0 hb hy n ds G w a hs0=>?_⟩
 have hgD:=hs0.gt hb
 have hg':GtR C.cx G w:=fun x l hl=>hgD x l (by rw[hDg];exact hl)
 have hfv:=hs0.er.eval hgD g
 rw[hg]at hfv
 generalize hv:a.eval g=v at hfv
 cases hfv with
 | fn _ _ _ xs ys ha hb' h1 h2 =>
 refine wpIn_rangeFunc ?_
 intro fnid _
 -- two blocks are laid
 obtain ⟨r0,hr0⟩:∃ r0:Loop,{ state:=.ready,pending:=none,fn:=fnid,tmps:=a.tmps,params:=ps,assign:=asg,body:=body,defers:=w.heap.size }=r0:=⟨_,rfl⟩
 obtain ⟨w1,hw1⟩:∃ w1,(w.alloc (.deferred (some []))).alloc (.loop r0)=w1:=⟨_,rfl⟩
 have hwa:(w.alloc (.deferred (some []))).heap.size=w.heap.size+1:=by simp
 have hD1:w1.heap[w.heap.size]?=some (.deferred (some [])):=by
  rw[← hw1];exact (Below.heap_alloc _ _ _ (by simp)).trans (World.alloc_heap_new w _)
 have hL1:w1.heap[w.heap.size+1]?=some (.loop r0):=by
  rw[← hw1];have:=World.alloc_heap_new (w.alloc (.deferred (some []))) (.loop r0);rwa[hwa]at this
 have hI:=hs0.inv
 have hE1:Evo G w G w1:=by
  rw[← hw1]
  exact (Evo.adds (Adds.alloc w _) hI).trans (Evo.adds (Adds.alloc _ _) (Inv.adds (Adds.alloc w _) hI))
 have hI1:Inv G w1 ⟨hs,[],[]⟩:=by
  rw[← hw1]
  exact Inv.adds (Adds.alloc _ _) (Inv.adds (Adds.alloc w _) hI)
 have hfD:Free G w.heap.size:=hI.free (Nat.le_refl _)
 have hfL:Free G (w.heap.size+1):=hI.free (by omega)
 have hsz1:w1.heap.size=w.heap.size+2:=by rw[← hw1];simp
 have hrec0:Obj.loop r0=z3p r0 none:=by rw[← hr0];rfl
 -- the function's view
 have hle:=hok.len
 have htake:hs.take C.bs=hs:=by rw[List.take_of_length_le (by omega)]
 have hdrop:hs.drop C.bs=[]:=by rw[List.drop_of_length_le (by omega)]
 have hokT:((⟨hs,[],[]⟩:St).hs.take C.bs).all (z8f C.bs)=true:=by simp only[htake];exact hok.ok
 have hIp:Inv (G.pre C.bs) w1 ⟨hs,[],[]⟩:=by
  have:=hI1.pre (nb:=C.bs) hokT
  simp only[z9u,htake,hok.st]at this
  exact this
 have hbas:Bas C.cx C.bs (some (w.heap.size+1)) r0 (G.pre C.bs) w1:=⟨⟨z9t.1,fun _=>z9t.2⟩,GtR.pre hgt (hg'.mono hE1) C.bs,fun x hx=>by cases hx;exact ⟨by rw[hL1,hrec0],hfL.pre C.bs⟩⟩
 have herp:ER (G.pre C.bs) w1 env { tmps:=a.tmps,defers:=[] }:=by
  have:ER G w1 env { tmps:=a.tmps,defers:=[] }:=(show ER G w env { tmps:=a.tmps,defers:=[] } from ⟨hs0.er.1,hs0.er.2⟩).mono hE1
  exact this.pre hn hst
 have hyok:YOk C.cx (w.heap.size+1) r0 (G.pre C.bs) w1 (Yw C.bs Rd):=by
  rw[← hr0]
  rw[← hr0]at hbas
  exact YOk.of_round ho hC hgt hoa hob hrd hbas herp hn hst
 have hcap:VRs (G.pre C.bs) w1 (ca++[AV.fn (.yield (w.heap.size+1)) [] []]++cb) (xs.toList++[Value.func (.yield (w.heap.size+1)) #[] #[]]++ys.toList):=by
  have hfv2:VR G w (z1l D env g) (a.eval g):=hs0.er.eval hgD g
  have hcn:noH C.bs (.fn (.func f) ca cb)=true∧scrub 0 (.fn (.func f) ca cb)=.fn (.func f) ca cb:=by
   rw[← hg]
   cases g with
   | tmp t =>
    simp only[z1l]
    rcases Nat.lt_or_ge t env.length with hlt | hlt
    ·have e:env.getD t .bad=env[t]:=by simp[List.getD_eq_getElem?_getD,hlt]
     rw[e]
     refine ⟨z1a hn (List.getElem?_eq_getElem hlt),?_⟩
     have:=y04 env t
     rw[hst,List.getElem?_eq_getElem hlt]at this
     simpa using this.symm
    ·have e:env.getD t .bad=.bad:=by simp[List.getD_eq_getElem?_getD,List.getElem?_eq_none hlt]
     rw[e];exact ⟨rfl,rfl⟩
   | const v =>
    simp only[z1l]at hg
    unfold AV.ofVal at hg
    split at hg<;>cases hg
   | global x =>
    simp only[z1l]at hg
    split at hg<;>cases hg
   | func x=>exact ⟨rfl,rfl⟩
  have hp:=((hfv2.mono hE1).pre (by rw[hg];exact hcn.1):VR (G.pre C.bs) w1 _ _)
  rw[hg,hcn.2,hv]at hp
  cases hp with
  | fn _ _ _ _ _ ha2 hb2 g1 g2 =>
  refine VRs.append (VRs.append ⟨by simpa using ha2,fun i z hz=>?_⟩ ⟨rfl,fun i z hz=>?_⟩) ⟨by simpa using hb2,fun i z hz=>?_⟩
  ·have hlt:=(List.getElem?_eq_some_iff.1 hz).1
   have hlt2:i < xs.size:=by rw[ha2];exact hlt
   exact ⟨xs[i],by simp[hlt2],by simpa[Array.getD,hlt2] using g1 i z hz⟩
  ·cases i with
   | zero =>
    simp at hz
    subst hz
    exact ⟨_,rfl,.fn _ [] [] #[] #[] rfl rfl (by simp) (by simp)⟩
   | succ i=>simp at hz
  ·have hlt:=(List.getElem?_eq_some_iff.1 hz).1
   have hlt2:i < ys.size:=by rw[hb2];exact hlt
   exact ⟨ys[i],by simp[hlt2],by simpa[Array.getD,hlt2] using g2 i z hz⟩
 have hcall:=hseq.ok Rd hs j hs' hok hrun _ r0 _ _ hbas hyok hIp _ hcap
 obtain ⟨fn,cc,b1,b2,b3⟩:=hseq.body
 have b1':D.P.funcs[f]?=some fn:=by rw[hDP];exact b1
 refine ⟨w.heap.size+1,[mkD w.heap.size],w1,{ target:=.fn (.func f) ys,args:=xs++#[.func (.yield (w.heap.size+1)) #[] #[]] },w1,f,xs++#[.func (.yield (w.heap.size+1)) #[] #[]]++ys,w1,?_,?_,fun _ _=>trivial,?_,fun h=>(by simp[Fence.wide]at h),?_⟩
 ·have:=run_enterLoop_outer (P:=D.P) (w:=w) fnid a.tmps ps asg body
  rw[hr0,hw1]at this
  exact this
 ·simp only[resolve,hv]
  simp[go_sem,Deferred.ofValue]
 ·simp[invoke,go_sem,callFunc,b1',b2,b3]
  intro e;rw[e]at b3;simp at b3
 ·have earr:(xs.toList++[Value.func (.yield (w.heap.size+1)) #[] #[]]++ys.toList).toArray=xs++#[.func (.yield (w.heap.size+1)) #[] #[]]++ys:=by apply Array.ext';simp
  rw[earr]at hcall
  rw[show C.cx.P=D.P from hDP.symm]at hcall
  refine (y1o none (n-1) hcall).mono ?_
  rintro e w2 ⟨v2,G2,rfl,p1,p2,p3⟩
  simp only[rangePost]
  -- back in the whole state
  have hl1:w.heap.size+1 < w1.heap.size:=by omega
  have hf2:Free G2 (w.heap.size+1):=p2.free (hfL.pre C.bs) hl1
  have hIs:Inv G2 (sh (some (w.heap.size+1)) r0 w2) ⟨hs',[],[]⟩:=p1.putObj hf2 p3 (z2d _ _) (z2d _ _)
  have hok':=y94 hok hrun
  obtain ⟨G5,u1,u2,_⟩:=y8 hI1 hokT hok'.len (by simp only;omega) hIs p2 []
  simp only[hdrop,List.append_nil]at u1
  have hsh:(sh (some (w.heap.size+1)) r0 w2).heap[w.heap.size+1]?=some (z3p r0 none):=World.putObj_heap_same (z1d p3)
  have hf5:Free G5 (w.heap.size+1):=u2.free hfL hl1
  have hst2:({ r0 with state:=if j.isNone then .ready else .done,pending:=j }:Loop).state≠.busy:=by simp only;split<;>simp
  have hend:=run_endLoop (P:=D.P) p3 hst2
  refine ⟨j,_,hend,?_⟩
  obtain ⟨w4,hw4⟩:∃ w4,w2.putObj (w.heap.size+1) (.loop { ({ r0 with state:=if j.isNone then .ready else .done,pending:=j }:Loop) with state:=.exhausted })=w4:=⟨_,rfl⟩
  rw[hw4]
  have hw4':(sh (some (w.heap.size+1)) r0 w2).putObj (w.heap.size+1) (.loop { ({ r0 with state:=if j.isNone then .ready else .done,pending:=j }:Loop) with state:=.exhausted })=w4:=by
   rw[← hw4];simp only[sh];rw[z2f]
  have hI4:Inv G5 w4 ⟨hs',[],[]⟩:=by rw[← hw4'];exact u1.putObj hf5 hsh (z2d _ _) rfl
  have hE4:Evo G w G5 w4:=by rw[← hw4'];exact (hE1.trans u2).putObj_new (by omega) hsh (z2d _ _) rfl
  have hD4:w4.heap[w.heap.size]?=some (.deferred (some [])):=by
   rw[← hw4',World.putObj_heap_other (by omega)]
   exact u2.at hfD hD1
  have hfD5:Free G5 w.heap.size:=u2.free hfD (by omega)
  have hsit:Sit none r0' G0 w0 ds ⟨none,m+1⟩ G5 w4 ⟨hs',[],[]⟩ env { a with defers:=[mkD w.heap.size]++a.defers }:={
   evo:=hs0.evo.trans hE4
   inv:=hI4
   er:=⟨hs0.er.1,(hs0.er.mono hE4).2⟩
   rc:=fun x hx=>by cases hx
   df:=by
    obtain ⟨ms,m1,m2,m3,m4⟩:=hs0.df
    refine ⟨w.heap.size::ms,by simp[m1],by simp[m2],List.nodup_cons.2 ⟨fun hm=>?_,m3⟩,fun r hr=>?_⟩
    ·have:=z1d (m4 _ hm).2.1;omega
    ·rcases List.mem_cons.1 hr with rfl | hr
     ·exact ⟨hs0.evo.size,hD4,hfD5⟩
     ·obtain ⟨t1,t2,t3⟩:=m4 r hr
      exact ⟨t1,hE4.at t3 t2,hE4.free t3 (z1d t2)⟩ }
  cases j with
  | none=>exact ⟨.normal,_,_,_,G5,hsit,rfl,hk⟩
  | some jc =>
   cases jc with
   | ret=>exact wpIn_ret ⟨.ret,_,_,_,G5,hsit,rfl,hk⟩
   | exit i=>exact wpIn_exit ⟨.exit i,_,_,_,G5,hsit,rfl,hk⟩
   | _=>exact hk.elim
end

def v2v (C:WCx)(g:FuncId)(r:CR):KontR:=fun x e s z=>(∀ v,x≠.pan v)∧z0q C g (fun r'=>r'=r) x e s

theorem w8c {C:WCx}{F:Fence}{n:Nat}{fn:Func}{tmps:Array Value}{R:Ending→World→Prop}{G0:Gh}{w0:World}{S1:St}{env:Env}{G:Gh}:∀ (ms:List Nat) (w:World),Inv G w S1→Evo G0 w0 G w→ER G w env { tmps:=tmps,defers:=[] }→ms.Nodup →
  (∀ r∈ms,w0.heap.size≤r∧w.heap[r]?=some (.deferred (some []))∧Free G r)→(∀ w',Inv G w' S1→Evo G0 w0 G w'→ER G w' env { tmps:=tmps,defers:=[] }→LeavesIn F n C.P fn tmps R [] .returning w')→LeavesInM F n C.P fn tmps R (ms.map mkD) .returning w
 | [],w,hI,hE,he,_,_,h=>h w hI hE he
 | r::ms,w,hI,hE,he,hnd,hm,h=>by
  obtain ⟨h1,h2,h3⟩:=hm r List.mem_cons_self
  refine ⟨by simp,.inl ⟨r,_,rfl,run_takeDeferred h2,?_⟩⟩
  have ncd:nc (.deferred (some []))=true:=rfl
  refine w8c ms _ (hI.putObj h3 h2 ncd rfl) (hE.putObj_new h1 h2 ncd rfl) (he.putObj h2 ncd rfl) (List.nodup_cons.1 hnd).2 (fun q hq=>?_) h
  obtain ⟨t1,t2,t3⟩:=hm q (List.mem_cons_of_mem _ hq)
  have hne:q≠r:=by rintro rfl;exact (List.nodup_cons.1 hnd).1 hq
  exact ⟨t1,by rw[World.putObj_heap_other hne];exact t2,t3⟩

theorem CallOk.of_RW {C:WCx}(hC:CxOk C.cx){g:FuncId}{args:List AV}{fn:Func}{c:Code}(hfn:C.P.funcs[g]?=some fn)(hc:fn.body=some c){r:CR}{Y:Yk}
  (h:RW C.cx 0 none Y c (args++List.replicate (fn.ntmps-args.length) .bad) St.nil ⟨none,0⟩ (v2v C g r)):CallOk C.cx g args St.nil r St.nil:=by
 intro G w us hI hg has
 refine (callsIn_wide (n:=0)).1 (callsIn_of_wp_marks hfn hc trivial ?_)
 have hb:G.Under 0:=⟨fun h _=>by
  cases hs:G.σ h with
  | none=>rfl
  | some b=>obtain ⟨hb,hx⟩:=hI.dom _ _ hs;simp[St.nil]at hx,fun k=>by
  cases hs:G.tk k with
  | none=>rfl
  | some x=>obtain ⟨b,c,m,z⟩:=x;have:=(hI.tdom _ _ _ _ _ hs).1;simp[St.nil]at this⟩
 have he:=z81 has fn.ntmps
 have hbas:Bas C.cx 0 none default G w:=⟨⟨hb.1,fun _=>hb.2⟩,hg,fun x hx=>by cases hx⟩
 have hsit:Sit none default G w [] ⟨none,0⟩ G w St.nil _ _:=⟨Evo.refl _ _,hI,he,fun x hx=>(by cases hx),⟨[],rfl,rfl,List.nodup_nil,fun r hr=>by simp at hr⟩⟩
 refine wpIn_mono (h.run (hC.codes g fn c hfn hc) default G w hbas (fun x hx=>by cases hx) 0 [] G w _ hsit) ?_
 rintro e a' w' ⟨x,env1,S1,z1,G1,q1,q2,q3,q4⟩
 obtain ⟨ms,m1,m2,m3,m4⟩:=q1.df
 unfold z0q at q4
 rw[hfn]at q4
 simp only at q4
 have fin:(z2b (z0v C.pc fn env1 S1) fun r'=>z2b (pub C.pc S1.hs 0 r') fun r''=>CR.ret (scrub 0 r'')=r)→LeavesInM Fence.wide 0 C.P fn a'.tmps (z6h G w r St.nil) a'.defers .returning w':=by
  intro h4
  obtain ⟨v,p1,h4⟩:=z1j h4
  obtain ⟨v',p2,h4⟩:=z1j h4
  rw[show a'.defers=ms.map mkD by simpa using m2]
  refine w8c (C:=C) (G0:=G) (w0:=w) (S1:=S1) (env:=env1) ms w' q1.inv q1.evo ⟨q1.er.1,q1.er.2⟩ m3 m4 fun w2 i2 e2 r2=>?_
  obtain ⟨u,u1,u2⟩:=z3n (C:=C.cx) i2 r2 ((z7v (C:=C) _ _ _).trans p1)
  refine ⟨u,u2,?_⟩
  have hle:(S1.hs.take 0).all (okBlk 0)=true:=by simp
  obtain ⟨G2,f1,f2,f3⟩:=y1i (C:=C.pc) (hs0:=[]) (nb:=0) rfl hI i2 e2 hle p2 u1
  simp only[List.take_zero,List.map_nil]at f1
  subst h4
  exact ⟨G2,f1,f2,u,rfl,f3⟩
 cases x with
 | normal=>simp only[ExR]at q2;subst q2;exact fin q4
 | ret=>simp only[ExR]at q2;subst q2;exact fin q4
 | exit i=>exact q4.elim
 | pan v=>exact absurd rfl (q3 v)
end Go.Ev
namespace Go.Ev
section
variable {C:Cx}{nb:Nat}{l:Option Nat}{Y:Yk}{c:Code}{env env':Env}{S:St}{z:Zs}{k:KontR}
theorem RW.mask' (L:List Nat)(hm:z3q L 0 env=env')(h:RW C nb l Y c env' S z k):RW C nb l Y c env S z k:=RW.mask L (by rw[hm];exact h)
theorem LR.mask' {m:Nat}(L:List Nat)(hm:z3q L 0 env=env')(h:LR C nb l Y m c env' S z k):LR C nb l Y m c env S z k:=LR.mask L (by rw[hm];exact h)
theorem RW.wl {hs:List (Option HB)}{ts:List (Nat×(Nat×Nat))}{ws:List Nat}(h:RW C nb l Y c env ⟨hs,ts,[]⟩ z k):RW C nb l Y c env ⟨hs,ts,ws⟩ z k :=
 ⟨fun hok r0 G0 w0 hb hy n ds G w a hs=>h.run hok r0 G0 w0 hb hy n ds G w a (hs.wl [])⟩
theorem LR.wl {m:Nat}{hs:List (Option HB)}{ts:List (Nat×(Nat×Nat))}{ws:List Nat}(h:LR C nb l Y m c env ⟨hs,ts,[]⟩ z k):LR C nb l Y m c env ⟨hs,ts,ws⟩ z k :=
 ⟨fun hok r0 G0 w0 hb hy n ds G w a hs=>h.run hok r0 G0 w0 hb hy n ds G w a (hs.wl [])⟩
theorem RW.congr {D:Cx}(hP:D.P=C.P)(hg:D.gt=C.gt)(h:RW C nb l Y c env S z k):RW D nb l Y c env S z k :=
 ⟨fun hok r0 G0 w0 hb hy n ds G w a hs=>by
  rw[hP]
  refine h.run hok r0 G0 w0 ⟨hb.un,fun g q hq=>hb.gt g q (by rw[hg];exact hq),hb.rc⟩ (fun x hx=>?_) n ds G w a hs
  have:=hy x hx
  unfold YOk at this ⊢
  rw[← hP]
  exact this⟩
theorem SeqOk.congr {D:Cx}(hP:D.P=C.P)(hg:D.gt=C.gt){f:FuncId}{ca cb:List AV}{its:List (List AV)}(h:SeqOk C nb f ca cb its):SeqOk D nb f ca cb its where
 body:=by rw[hP];exact h.body
 ok:=fun Rd hs j hs' h1 h2 l r0 G0 w0 hb hy hI us hus=>by
  rw[hP]
  refine h.ok Rd hs j hs' h1 h2 l r0 G0 w0 ⟨hb.un,fun g q hq=>hb.gt g q (by rw[hg];exact hq),hb.rc⟩ ?_ hI us hus
  unfold YOk at hy ⊢
  rw[← hP]
  exact hy
end
mutual
theorem y5c {n m:Nat}(h:n≤m):∀ a:AV,noH n a=true→noH m a=true
 | .agg l,q=>by simp only[noH]at q ⊢;exact z6o h l q
 | .tup l,q=>by simp only[noH]at q ⊢;exact z6o h l q
 | .vs l _ _,q=>by simp only[noH]at q ⊢;exact z6o h l q
 | .vp l,q=>by simp only[noH]at q ⊢;exact z6o h l q
 | .ptr x _,q=>by simp only[noH,decide_eq_true_eq]at q ⊢;omega
 | .row x _ _ _,q=>by simp only[noH,decide_eq_true_eq]at q ⊢;omega
 | .mp x,q=>by simp only[noH,decide_eq_true_eq]at q ⊢;omega
 | .fn _ a b,q=>by simp only[noH,Bool.and_eq_true]at q ⊢;exact ⟨z6o h a q.1,z6o h b q.2⟩
 | .ifc _ v,q=>by simp only[noH]at q ⊢;exact y5c h v q
 | .bad,_=>rfl
 | .int _ _,_=>rfl
 | .bool _,_=>rfl
 | .str _,_=>rfl
 | .raw _,_=>rfl
theorem z6o {n m:Nat}(h:n≤m):∀ l:List AV,noHL n l=true→noHL m l=true
 | [],_=>rfl
 | a::l,q=>by simp only[noHL,Bool.and_eq_true]at q ⊢;exact ⟨y5c h a q.1,z6o h l q.2⟩
end
theorem x6u {n m:Nat}(h:n≤m){b:HB}(q:noHB n b=true):noHB m b=true:=by
 cases b with
 | cells l t=>exact z6o h l q
 | map es =>
  simp only[noHB,List.all_eq_true,Bool.and_eq_true]at q ⊢
  exact fun e he=>⟨y5c h _ (q e he).1,y5c h _ (q e he).2⟩
 | iter s p=>rfl
theorem HsOk.blk {nb:Nat}{hs:List (Option HB)}(h:HsOk nb hs){m:Nat}(hm:nb≤m):hs.all (Ev.okBlk m)=true:=by
 rw[List.all_eq_true]
 intro x hx
 have:=List.all_eq_true.1 h.ok x hx
 cases x with
 | none=>rfl
 | some b =>
  simp only[z8f]at this
  simp only[Ev.okBlk]
  exact x6u hm this
end Go.Ev
namespace Go.Ev
open Go.RowKit
abbrev RdG:=List AV→St→Option (Option Code×St)
def y0q (C:Cx)(sf:Self)(ps:Array Tmp)(asg body:Code)(env:Env):RdG:=fun it S =>
 if it.length=ps.size then match evC C sf asg (setPs env ps.toList it) S with
  | some (.normal,e,s)=>match evC C sf body e s with
   | some (.pan _,_,_)=>none
   | some (x,_,s2)=>some (jOf x,s2)
   | none=>none
  | _=>none
 else none
theorem x0q {C:Cx}{sf:Self}{ps:Array Tmp}{asg body:Code}{env:Env}{it:List AV}{S S':St}{j:Option Code}(h:y0q C sf ps asg body env it S=some (j,S')) :
  it.length=ps.size∧∃ e s x2 e2,evC C sf asg (setPs env ps.toList it) S=some (.normal,e,s)∧evC C sf body e s=some (x2,e2,S')∧(∀ v,x2≠.pan v)∧jOf x2=j:=by
 unfold y0q at h
 split at h<;>try cases h
 rename_i hl
 split at h<;>try cases h
 rename_i e s h1
 split at h<;>cases h
 rename_i x e2 hx h2
 exact ⟨hl,e,s,x,e2,h1,h2,fun v hv=>hx v hv,rfl⟩
def YG (rd:RdG):Yk:=fun args S z k=>z.j=none∧∃ j S',rd args S=some (j,S')∧k j.isNone S' { z with j:=j }
structure SeqG (D:Cx) (f:FuncId) (ca cb:List AV) (rd:RdG) (S:St) (j:Option Code) (S':St):Prop where
 body : ∃ (fn : Func) (c : Code), D.P.funcs[f]? = some fn ∧ fn.body = some c ∧ (fn.name == "runtime.NumGoroutine") = false
 ok:∀ l r0 G0 w0,Bas D 4096 (some l) r0 G0 w0→YOk D l r0 G0 w0 (YG rd)→Inv G0 w0 S →
  ∀ us,VRs G0 w0 (ca++[AV.fn (.yield l) [] []]++cb) us→Calls D.P f us.toArray w0 (fun e w'=>∃ v G',e=.returned v∧Inv G' w' S'∧Evo G0 w0 G' (sh (some l) r0 w')∧w'.heap[l]?=some (z3p r0 j))
section
variable {C:Cx}
theorem YOk.of_roundG {sf:Self}(hC:CxOk C)(hsf:SelfOk C sf){nb:Nat}{ps:Array Tmp}{asg body:Code}(hoa:okC asg=true)(hob:okC body=true){env:Env}
  {l:Nat} {fnid:FuncId} {tmps:Array Value} {dfs:Nat} {G0:Gh} {w0:World}
  (hb:Bas C nb (some l) { state:=.ready,pending:=none,fn:=fnid,tmps:=tmps,params:=ps,assign:=asg,body:=body,defers:=dfs } G0 w0) (he:ER G0 w0 env { tmps:=tmps,defers:=[] }) :
  YOk C l { state:=.ready,pending:=none,fn:=fnid,tmps:=tmps,params:=ps,assign:=asg,body:=body,defers:=dfs } G0 w0 (YG (y0q C sf ps asg body env)):=by
 intro args S z k hy G w us hI hE hrec hus
 obtain ⟨hz,j,S2,hR,hk⟩:=hy
 obtain ⟨hlen,e1,s1,x2,e2,hev1,hev2,k1,k2⟩:=x0q hR
 rw[hz]at hrec
 generalize hr0:({ state:=.ready,pending:=none,fn:=fnid,tmps:=tmps,params:=ps,assign:=asg,body:=body,defers:=dfs }:Loop)=r0 at hb hE hrec ⊢
 have hrl:w.heap[l]?=some (.loop r0):=by rw[hrec,← hr0];rfl
 have hus':us.length=ps.size:=by rw[hus.1];exact hlen
 have hyl:=run_yield (P:=C.P) (args:=us.toArray) hrl (by rw[← hr0];simpa using hus')
 refine ⟨_,_,_,_,hyl,fun rd n=>?_⟩
 have hsw:sh (some l) r0 w=w:=by simp only[sh];exact z56 hrec
 have hb0:=(hb.rc l rfl).1
 have hfree0:=(hb.rc l rfl).2
 have hfree:Free G l:=hE.free hfree0 (z1d hb0)
 rw[hsw]at hE
 have hgG:GtR C G w:=hb.gt.mono hE
 have heG:ER G w env { tmps:=tmps,defers:=[] }:=he.mono hE
 have heP:=ER.setPs ps.toList args us env tmps hus heG
 have htm:(r0.params.zip us.toArray).foldl (fun tmps (t,a)=>tmps.setIfInBounds t a) r0.tmps=(ps.toList.zip us).foldl (fun t (p,v)=>t.setIfInBounds p v) tmps:=by
  rw[← hr0,← Array.foldl_toList]
  simp
 rw[htm]
 have hasg:r0.assign=asg:=by rw[← hr0]
 have hbody:r0.body=body:=by rw[← hr0]
 rw[hasg,hbody]
 refine roundIn_of_wpIn trivial ?_
 refine z3l hC hsf asg _ _ _ _ _ hoa hev1 (some l) n [] G w _ hI hgG heP rfl _ ?_
 rintro e a' w1 ⟨G1,p1,p2,p3,p4,p5⟩
 simp only[ExR]at p5;subst p5
 have hr1:w1.heap[l]?=some (.loop r0):=p2.at hfree hrl
 simp only[Exit.then]
 have hready:r0.state=.ready:=by rw[← hr0]
 refine ⟨_,run_beginRound hr1 hready,?_⟩
 have ncl:nc (.loop r0)=true:=rfl
 have nbz:nc (.loop { r0 with state:=.busy })=true:=rfl
 have hf1:Free G1 l:=p2.free hfree (z1d hrl)
 have hgp2:GtR C G (w.putObj l (.loop { r0 with state:=.busy })):=fun g q hq=>(hgG g q hq).ext (z4u hrl ncl nbz)
 have hEb:=p2.putObj_both hrl ncl hr1 ncl nbz
 refine z3l hC hsf body _ _ _ _ _ hob hev2 (some l) n [] G1 _ a' (p1.putObj hf1 hr1 ncl nbz) (hgp2.mono hEb) (p3.putObj hr1 ncl nbz) p4 _ ?_
 rintro e a2' w2 ⟨G2,q1,q2',q3,q4,q5⟩
 have u2:=hEb.trans q2'
 have hbz:(w.putObj l (.loop { r0 with state:=.busy })).heap[l]?=some (.loop { r0 with state:=.busy }):=World.putObj_heap_same (z1d hrl)
 have hr2:w2.heap[l]?=some (.loop { r0 with state:=.busy }):=u2.at hfree hbz
 have hf4:Free G2 l:=u2.free hfree (z1d hbz)
 have fin:∀ jj:Option Code,jj=j→∃ v w3,(Instr.endRound l jj).run C.P w2=.ok v w3∧∃ b S' z' G',k b S' z'∧z'.m=z.m∧(Ending.returned v)=.returned (.bool b)∧Inv G' w3 S'∧Evo G (sh (some l) r0 w) G' (sh (some l) r0 w3)∧w3.heap[l]?=some (z3p r0 z'.j):=by
  rintro jj rfl
  have hend:=run_endRound (P:=C.P) jj hr2
  refine ⟨_,_,hend,jj.isNone,_,_,G2,hk,rfl,rfl,?_,?_,?_⟩
  ·exact q1.putObj hf4 hr2 nbz rfl
  ·have e1:(Obj.loop { ({ r0 with state:=.busy }:Loop) with state:=if jj.isNone=true then .ready else .done,pending:=jj })=z3p r0 jj:=rfl
   rw[e1]
   have:=u2.putObj_both hbz nbz hr2 nbz (z2d r0 none)
   rw[z2f]at this
   simp only[sh]
   rw[z2f]
   exact this
  ·exact World.putObj_heap_same (z1d hr2)
 cases x2 with
 | normal=>simp only[ExR]at q5;subst q5;exact fin none k2
 | exit i=>simp only[ExR]at q5;subst q5;exact fin (some (.exit i)) k2
 | ret=>simp only[ExR]at q5;subst q5;exact fin (some .ret) k2
 | pan v=>exact absurd rfl (k1 v)

def w0u (k:KontR)(env:Env)(S':St)(m:Nat):Option Code→Prop
 | none=>k .normal env S' ⟨none,m⟩
 | some .ret=>k .ret env S' ⟨none,m⟩
 | some (.exit i)=>k (.exit i) env S' ⟨none,m⟩
 | some _=>False
theorem RW.rangeG {sf:Self}(hC:CxOk C)(hsf:SelfOk C sf){nb0:Nat}{Y:Yk}{g:Operand}{ps:Array Tmp}{asg body:Code}(hoa:okC asg=true)(hob:okC body=true){env:Env}{S S':St}{m:Nat}{k:KontR}{f:FuncId}{ca cb:List AV}{j:Option Code}
  (hg:z1l C env g=.fn (.func f) ca cb) (hseq:SeqG C f ca cb (y0q C sf ps asg body env) S j S') (hlen:S.hs.length≤4096) (hk:w0u k env S' (m+1) j) :
  RW C nb0 none Y (.rangeFunc g ps asg body) env S ⟨none,m⟩ k:=by
 refine ⟨fun _ r0' G0 w0 hb hy n ds G w a hs0=>?_⟩
 have hgD:=hs0.gt hb
 have hg':GtR C G w:=hgD
 have hfv:=hs0.er.eval hgD g
 rw[hg]at hfv
 generalize hv:a.eval g=v at hfv
 cases hfv with
 | fn _ _ _ xs ys ha hb' h1 h2 =>
 refine wpIn_rangeFunc ?_
 intro fnid _
 -- two blocks are laid
 obtain ⟨r0,hr0⟩:∃ r0:Loop,{ state:=.ready,pending:=none,fn:=fnid,tmps:=a.tmps,params:=ps,assign:=asg,body:=body,defers:=w.heap.size }=r0:=⟨_,rfl⟩
 obtain ⟨w1,hw1⟩:∃ w1,(w.alloc (.deferred (some []))).alloc (.loop r0)=w1:=⟨_,rfl⟩
 have hwa:(w.alloc (.deferred (some []))).heap.size=w.heap.size+1:=by simp
 have hD1:w1.heap[w.heap.size]?=some (.deferred (some [])):=by
  rw[← hw1];exact (Below.heap_alloc _ _ _ (by simp)).trans (World.alloc_heap_new w _)
 have hL1:w1.heap[w.heap.size+1]?=some (.loop r0):=by
  rw[← hw1];have:=World.alloc_heap_new (w.alloc (.deferred (some []))) (.loop r0);rwa[hwa]at this
 have hI:=hs0.inv
 have hE1:Evo G w G w1:=by
  rw[← hw1]
  exact (Evo.adds (Adds.alloc w _) hI).trans (Evo.adds (Adds.alloc _ _) (Inv.adds (Adds.alloc w _) hI))
 have hI1:Inv G w1 S:=by
  rw[← hw1]
  exact Inv.adds (Adds.alloc _ _) (Inv.adds (Adds.alloc w _) hI)
 have hfD:Free G w.heap.size:=hI.free (Nat.le_refl _)
 have hfL:Free G (w.heap.size+1):=hI.free (by omega)
 have hsz1:w1.heap.size=w.heap.size+2:=by rw[← hw1];simp
 have hrec0:Obj.loop r0=z3p r0 none:=by rw[← hr0];rfl
 have hbas:Bas C 4096 (some (w.heap.size+1)) r0 G w1:=⟨⟨fun h hh=>by
  cases hs:G.σ h with
  | none=>rfl
  | some b=>have:=hI.σ_lt hs;omega,fun h=>absurd h (by omega)⟩,hg'.mono hE1,fun x hx=>by cases hx;exact ⟨by rw[hL1,hrec0],hfL⟩⟩
 have herp:ER G w1 env { tmps:=a.tmps,defers:=[] }:=(show ER G w env { tmps:=a.tmps,defers:=[] } from ⟨hs0.er.1,hs0.er.2⟩).mono hE1
 have hyok:YOk C (w.heap.size+1) r0 G w1 (YG (y0q C sf ps asg body env)):=by
  rw[← hr0]
  rw[← hr0]at hbas
  exact YOk.of_roundG hC hsf hoa hob hbas herp
 have hcap:VRs G w1 (ca++[AV.fn (.yield (w.heap.size+1)) [] []]++cb) (xs.toList++[Value.func (.yield (w.heap.size+1)) #[] #[]]++ys.toList):=by
  have hfv2:VR G w (z1l C env g) (a.eval g):=hs0.er.eval hgD g
  have hp:=hfv2.mono hE1
  rw[hg,hv]at hp
  cases hp with
  | fn _ _ _ _ _ ha2 hb2 g1 g2 =>
  refine VRs.append (VRs.append ⟨by simpa using ha2,fun i z hz=>?_⟩ ⟨rfl,fun i z hz=>?_⟩) ⟨by simpa using hb2,fun i z hz=>?_⟩
  ·have hlt:=(List.getElem?_eq_some_iff.1 hz).1
   have hlt2:i < xs.size:=by rw[ha2];exact hlt
   exact ⟨xs[i],by simp[hlt2],by simpa[Array.getD,hlt2] using g1 i z hz⟩
  ·cases i with
   | zero =>
    simp at hz
    subst hz
    exact ⟨_,rfl,.fn _ [] [] #[] #[] rfl rfl (by simp) (by simp)⟩
   | succ i=>simp at hz
  ·have hlt:=(List.getElem?_eq_some_iff.1 hz).1
   have hlt2:i < ys.size:=by rw[hb2];exact hlt
   exact ⟨ys[i],by simp[hlt2],by simpa[Array.getD,hlt2] using g2 i z hz⟩
 have hcall:=hseq.ok _ r0 _ _ hbas hyok hI1 _ hcap
 obtain ⟨fn,cc,b1,b2,b3⟩:=hseq.body
 have b1':C.P.funcs[f]?=some fn:=b1
 refine ⟨w.heap.size+1,[mkD w.heap.size],w1,{ target:=.fn (.func f) ys,args:=xs++#[.func (.yield (w.heap.size+1)) #[] #[]] },w1,f,xs++#[.func (.yield (w.heap.size+1)) #[] #[]]++ys,w1,?_,?_,fun _ _=>trivial,?_,fun h=>(by simp[Fence.wide]at h),?_⟩
 ·have:=run_enterLoop_outer (P:=C.P) (w:=w) fnid a.tmps ps asg body
  rw[hr0,hw1]at this
  exact this
 ·simp only[resolve,hv]
  simp[go_sem,Deferred.ofValue]
 ·simp[invoke,go_sem,callFunc,b1',b2,b3]
  intro e;rw[e]at b3;simp at b3
 ·have earr:(xs.toList++[Value.func (.yield (w.heap.size+1)) #[] #[]]++ys.toList).toArray=xs++#[.func (.yield (w.heap.size+1)) #[] #[]]++ys:=by apply Array.ext';simp
  rw[earr]at hcall
  refine (y1o none (n-1) hcall).mono ?_
  rintro e w2 ⟨v2,G2,rfl,p1,p2,p3⟩
  simp only[rangePost]
  -- back in the whole state
  have hl1:w.heap.size+1 < w1.heap.size:=by omega
  have hf2:Free G2 (w.heap.size+1):=p2.free hfL hl1
  have hIs:Inv G2 (sh (some (w.heap.size+1)) r0 w2) S':=p1.putObj hf2 p3 (z2d _ _) (z2d _ _)
  have hsh:(sh (some (w.heap.size+1)) r0 w2).heap[w.heap.size+1]?=some (z3p r0 none):=World.putObj_heap_same (z1d p3)
  have hst2:({ r0 with state:=if j.isNone then .ready else .done,pending:=j }:Loop).state≠.busy:=by simp only;split<;>simp
  have hend:=run_endLoop (P:=C.P) p3 hst2
  refine ⟨j,_,hend,?_⟩
  obtain ⟨w4,hw4⟩:∃ w4,w2.putObj (w.heap.size+1) (.loop { ({ r0 with state:=if j.isNone then .ready else .done,pending:=j }:Loop) with state:=.exhausted })=w4:=⟨_,rfl⟩
  rw[hw4]
  have hw4':(sh (some (w.heap.size+1)) r0 w2).putObj (w.heap.size+1) (.loop { ({ r0 with state:=if j.isNone then .ready else .done,pending:=j }:Loop) with state:=.exhausted })=w4:=by
   rw[← hw4];simp only[sh];rw[z2f]
  have hI4:Inv G2 w4 S':=by rw[← hw4'];exact hIs.putObj hf2 hsh (z2d _ _) rfl
  have hE4:Evo G w G2 w4:=by rw[← hw4'];exact (hE1.trans p2).putObj_new (by omega) hsh (z2d _ _) rfl
  have hD4:w4.heap[w.heap.size]?=some (.deferred (some [])):=by
   rw[← hw4',World.putObj_heap_other (by omega)]
   exact p2.at hfD hD1
  have hfD5:Free G2 w.heap.size:=p2.free hfD (by omega)
  have hsit:Sit none r0' G0 w0 ds ⟨none,m+1⟩ G2 w4 S' env { a with defers:=[mkD w.heap.size]++a.defers }:={
   evo:=hs0.evo.trans hE4
   inv:=hI4
   er:=⟨hs0.er.1,(hs0.er.mono hE4).2⟩
   rc:=fun x hx=>by cases hx
   df:=by
    obtain ⟨ms,m1,m2,m3,m4⟩:=hs0.df
    refine ⟨w.heap.size::ms,by simp[m1],by simp[m2],List.nodup_cons.2 ⟨fun hm=>?_,m3⟩,fun r hr=>?_⟩
    ·have:=z1d (m4 _ hm).2.1;omega
    ·rcases List.mem_cons.1 hr with rfl | hr
     ·exact ⟨hs0.evo.size,hD4,hfD5⟩
     ·obtain ⟨t1,t2,t3⟩:=m4 r hr
      exact ⟨t1,hE4.at t3 t2,hE4.free t3 (z1d t2)⟩ }
  cases j with
  | none=>exact ⟨.normal,_,_,_,G2,hsit,rfl,hk⟩
  | some jc =>
   cases jc with
   | ret=>exact wpIn_ret ⟨.ret,_,_,_,G2,hsit,rfl,hk⟩
   | exit i=>exact wpIn_exit ⟨.exit i,_,_,_,G2,hsit,rfl,hk⟩
   | _=>exact hk.elim
end
theorem y2l {C:Cx}{F:Fence}{n:Nat}{fn:Func}{tmps:Array Value}{R:Ending→World→Prop}{G0:Gh}{w0:World}{S1:St}{env:Env}{G:Gh}:∀ (ms:List Nat) (w:World),Inv G w S1→Evo G0 w0 G w→ER G w env { tmps:=tmps,defers:=[] }→ms.Nodup →
  (∀ r∈ms,w0.heap.size≤r∧w.heap[r]?=some (.deferred (some []))∧Free G r)→(∀ w',Inv G w' S1→Evo G0 w0 G w'→ER G w' env { tmps:=tmps,defers:=[] }→LeavesIn F n C.P fn tmps R [] .returning w')→LeavesInM F n C.P fn tmps R (ms.map mkD) .returning w
 | [],w,hI,hE,he,_,_,h=>h w hI hE he
 | r::ms,w,hI,hE,he,hnd,hm,h=>by
  obtain ⟨h1,h2,h3⟩:=hm r List.mem_cons_self
  refine ⟨by simp,.inl ⟨r,_,rfl,run_takeDeferred h2,?_⟩⟩
  have ncd:nc (.deferred (some []))=true:=rfl
  refine y2l ms _ (hI.putObj h3 h2 ncd rfl) (hE.putObj_new h1 h2 ncd rfl) (he.putObj h2 ncd rfl) (List.nodup_cons.1 hnd).2 (fun q hq=>?_) h
  obtain ⟨t1,t2,t3⟩:=hm q (List.mem_cons_of_mem _ hq)
  have hne:q≠r:=by rintro rfl;exact (List.nodup_cons.1 hnd).1 hq
  exact ⟨t1,by rw[World.putObj_heap_other hne];exact t2,t3⟩


def x3s (C:Cx)(env:Env):Op→Option (Nat×List AV)
 | .call c=>match c.callee with
  | .value f=>match z1l C env f with
   | .fn (.yield x) [] []=>some (x,c.args.toList.map (z1l C env))
   | _=>none
  | _=>none
 | _=>none
def y6h (C:Cx)(sf:Self)(rd:RdG):List Oper→Env→St→Option Code→Option (EX×Env×St×Option Code×List Nat)
 | [],env,S,j=>some (.normal,env,S,j,[])
 | o::rest,env,S,j=>match o.guard with
  | some _=>none
  | none=>match x3s C env o.op with
   | some (x,args)=>match j with
    | some _=>none
    | none=>match rd args S with
     | some (j',S')=>match y6h C sf rd rest (z1u env o.dst (.bool j'.isNone)) S' j' with
      | some (a,b,c,d,ls)=>some (a,b,c,d,x::ls)
      | none=>none
     | none=>none
   | none=>match opA C sf S (z1l C env) o.op with
    | some (.ret v,S')=>y6h C sf rd rest (z1u env o.dst v) S' j
    | some (.pan v,S')=>some (.pan v,env,S',j,[])
    | none=>none
def evY (C:Cx)(sf:Self)(rd:RdG)(lp:Code→Env→St→Option Code→Option (EX×Env×St×Option Code×List Nat)):Code→Env→St→Option Code→Option (EX×Env×St×Option Code×List Nat)
 | .seq a b,env,S,j=>match evY C sf rd lp a env S j with
  | some (.normal,env',S',j',ls)=>match evY C sf rd lp b env' S' j' with
   | some (x,e,s,i,ls')=>some (x,e,s,i,ls++ls')
   | none=>none
  | r=>r
 | .cond c t e,env,S,j=>match z1l C env c with
  | .bool b=>if b then evY C sf rd lp t env S j else evY C sf rd lp e env S j
  | _=>none
 | .block id c,env,S,j=>match evY C sf rd lp c env S j with
  | some (.exit i,env',S',j',ls)=>if i=id then some (.normal,env',S',j',ls) else some (.exit i,env',S',j',ls)
  | r=>r
 | .loop c,env,S,j=>lp c env S j
 | .region id ops false,env,S,j=>if ops.any (fun o=>o.guard.isSome) then (match evC C sf (.region id ops false) env S with
  | some (x,e,s)=>some (x,e,s,j,[])
  | none=>none) else y6h C sf rd ops.toList env S j
 | c,env,S,j=>match evC C sf c env S with
  | some (x,e,s)=>some (x,e,s,j,[])
  | none=>none
def y4q (C:Cx)(sf:Self)(rd:RdG):Nat→Code→Env→St→Option Code→Option (EX×Env×St×Option Code×List Nat)
 | 0,_,_,_,_=>none
 | n+1,c,env,S,j=>match evY C sf rd (y4q C sf rd n) c env S j with
  | some (.normal,e,s,i,ls)=>match y4q C sf rd n c e s i with
   | some (x,e,s,i,ls')=>some (x,e,s,i,ls++ls')
   | none=>none
  | r=>r
theorem x15 {C:Cx}{env:Env}{o:Op}{x:Nat}{args:List AV}(h:x3s C env o=some (x,args)):∃ c f,o=.call c∧c.callee=.value f∧z1l C env f=.fn (.yield x) [] []∧args=c.args.toList.map (z1l C env):=by
 unfold x3s at h
 split at h
 ·rename_i c
  split at h
  ·rename_i f hf
   split at h
   ·rename_i y he
    cases h
    exact ⟨c,f,rfl,hf,he,rfl⟩
   ·cases h
  ·cases h
 ·cases h
def kAt (x:EX)(e:Env)(s:St)(z:Zs):KontR:=fun x' e' s' z'=>x'=x∧e'=e∧s'=s∧z'=z
section
variable {C:Cx}{sf:Self}{nb l:Nat}{rd:RdG}
theorem x6t (hC:CxOk C)(hsf:SelfOk C sf){r0:Loop}{G0:Gh}{w0:World}(hb:Bas C nb (some l) r0 G0 w0)(hy:YOk C l r0 G0 w0 (YG rd))(ops:Array Oper)(n m:Nat)(ds:List Deferred){x1:EX}{e1:Env}{s1:St}{j1:Option Code} :
  ∀ (i:Nat) (rest:List Oper) (env:Env) (S:St) (j:Option Code) (ls:List Nat) (G:Gh) (w:World) (a:Act),rest=ops.toList.drop i→y6h C sf rd rest env S j=some (x1,e1,s1,j1,ls)→(∀ y∈ls,y=l)→Sit (some l) r0 G0 w0 ds ⟨j,m⟩ G w S env a →
  wpOpsIn (WF none) n C.P ops (x13 (some l) r0 G0 w0 ds (kAt x1 e1 s1 ⟨j1,m⟩)) ((List.range ops.size).drop i) a w:=by
 intro i rest
 induction rest generalizing i with
 | nil =>
  intro env S j ls G w a hk h hls hs
  have:ops.size≤i:=by
   have:=congrArg List.length hk
   simp at this;omega
  rw[List.drop_eq_nil_of_le (by simpa using this)]
  simp only[y6h,Option.some.injEq,Prod.mk.injEq]at h
  obtain ⟨rfl,rfl,rfl,rfl,rfl⟩:=h
  exact ⟨.normal,env,S,⟨j,m⟩,G,hs,rfl,rfl,rfl,rfl,rfl⟩
 | cons o rest ih =>
  intro env S j ls G w a hk h hls hs
  have hlt:i < ops.size:=by
   rcases Nat.lt_or_ge i ops.size with h1 | h1
   ·exact h1
   ·rw[List.drop_eq_nil_of_le (by simpa using h1)]at hk;cases hk
  have hdrop:ops.toList.drop i=ops[i]::ops.toList.drop (i+1):=by
   rw[List.drop_eq_getElem_cons (by simpa using hlt)];simp
  rw[hdrop]at hk
  injection hk with hoi hrest
  have hrange:(List.range ops.size).drop i=i::(List.range ops.size).drop (i+1):=by
   rw[List.drop_eq_getElem_cons (by simpa using hlt)];simp
  rw[hrange]
  simp only[wpOpsIn]
  have hget:ops[i]?=some o:=by rw[Array.getElem?_eq_getElem hlt,hoi]
  rw[hget]
  simp only
  simp only[y6h]at h
  split at h
  ·cases h
  rename_i hgd
  have hw:Region.wanted o (yielded ops a.tmps)=true:=by simp[Region.wanted,hgd]
  rw[if_pos hw]
  split at h
  ·rename_i x args hyo
   split at h
   ·cases h
   split at h<;>try cases h
   rename_i j' S2 hrdv
   split at h
   rotate_left
   ·cases h
   rename_i x2 e2 s2 j2 ls2 hrec
   cases h
   have hxl:x=l:=hls x List.mem_cons_self
   subst hxl
   obtain ⟨c,f,e1',e2',e3,rfl⟩:=x15 hyo
   have hg:=hs.gt hb
   have hf:=hs.er.eval hg f
   rw[e3]at hf
   generalize hv:a.eval f=v at hf
   cases hf with
   | fn _ _ _ xs ys ha1 hb1 _ _ =>
    have ha0:xs=#[]:=by apply Array.eq_empty_of_size_eq_zero;simpa using ha1
    have hb0:ys=#[]:=by apply Array.eq_empty_of_size_eq_zero;simpa using hb1
    subst ha0;subst hb0
    have hd:∀ c,o.op≠.defer c:=by intro c' e;rw[e1']at e;cases e
    have hargs:VRs G w (c.args.toList.map (z1l C env)) (c.args.toList.map a.eval):=getElem?_map_VR (hs.er.eval hg) c.args
    obtain ⟨f0,tmps,asg,body,y1,y2⟩:=hy _ _ ⟨none,m⟩ (fun b S1 z1=>b=j'.isNone∧S1=S2∧z1=⟨j',m⟩) ⟨rfl,j',S2,hrdv,rfl,rfl,rfl⟩ G w _ hs.inv hs.evo (hs.rc _ rfl) hargs
    refine ⟨fun _ _=>trivial,?_⟩
    rw[Oper.semAt_eq _ _ _ hd]
    have hrun:(execOp a.eval o).run C.P w=.ok (.round x f0 tmps asg body) w:=by
     have e:(c.args.toList.map a.eval).toArray=c.args.map a.eval:=by apply Array.ext';simp
     rw[e]at y1
     have y1':(Instr.yield x (c.args.map a.eval)).run C.P w=.ok (.round x f0 tmps asg body) w:=y1
     simp[execOp,e1',resolve,e2',hv,Deferred.ofValue,invoke]
     exact y1'
    rw[hrun]
    refine ⟨fun h=>(by simp[Fence.wide]at h),(y2 none (n-1)).mono ?_⟩
    rintro e w' ⟨b,S',z',G',⟨rfl,rfl,rfl⟩,q2,rfl,q3,q4,q5⟩
    simp only
    have hfree:=hs.free hb (x:=x) rfl
    refine ih (i+1) _ _ _ _ G' w' _ hrest hrec (fun y hy=>hls y (List.mem_cons_of_mem _ hy)) ⟨hs.evo.trans q4,q3,?_,fun y hy=>by cases hy;exact q5,?_⟩
    ·refine ER.put ⟨hs.er.1,fun j u hu=>?_⟩ (.bool _) o.dst
     have r1:=hs.rc x rfl
     have h1:=(hs.er.2 j u hu).ext (z4u r1 (z2d _ _) (z2d r0 none))
     have h2:=h1.mono q4
     have h3:(sh (some x) r0 w').heap[x]?=some (z3p r0 none):=World.putObj_heap_same (z1d q5)
     have h4:=h2.ext (z4u h3 (z2d _ _) (z2d r0 j'))
     rwa[show (sh (some x) r0 w').putObj x (z3p r0 j')=w' by simp only[sh];rw[z2f,z56 q5]]at h4
    ·obtain ⟨ms,m1,m2,m3,m4⟩:=hs.df
     refine ⟨ms,m1,by rw[Act.put_defers'];exact m2,m3,fun r hr=>?_⟩
     obtain ⟨p1,p2,p3⟩:=m4 r hr
     have hne:r≠x:=by
      rintro rfl
      have:=hs.rc r rfl
      rw[p2]at this
      cases this
     have p4:(sh (some x) r0 w).heap[r]?=some (.deferred (some [])):=by simp only[sh];rw[World.putObj_heap_other hne];exact p2
     refine ⟨p1,?_,q4.free p3 (z1d p4)⟩
     have p5:=q4.at p3 p4
     simp only[sh]at p5
     rwa[World.putObj_heap_other hne]at p5
  ·split at h<;>try cases h
   ·rename_i v S' h1
    refine z8d hC hsf hs.inv (hs.gt hb) (hs.er.eval (hs.gt hb)) o h1 none n ?_
    intro G' w' x q1 q2 q3
    exact ih (i+1) _ _ _ _ G' w' _ hrest h hls (hs.step hb q1 q2 ((hs.er.mono q2).put q3 o.dst) (Act.put_defers' _ _ _))
   ·rename_i v S' h1
    refine z8d hC hsf hs.inv (hs.gt hb) (hs.er.eval (hs.gt hb)) o h1 none n ?_
    intro G' w' x q1 q2 q3
    exact ⟨.pan v,_,_,⟨_,m⟩,G',hs.step hb q1 q2 (hs.er.mono q2) rfl,⟨x,rfl,q3⟩,rfl,rfl,rfl,rfl⟩

theorem y81 (hC:CxOk C)(hsf:SelfOk C sf){lp:Code→Env→St→Option Code→Option (EX×Env×St×Option Code×List Nat)}{m:Nat}
  (hlp:∀ c env S j x e s i ls,lp c env S j=some (x,e,s,i,ls)→(∀ y∈ls,y=l)→∃ q,LR C nb (some l) (YG rd) q c env S ⟨j,m⟩ (kAt x e s ⟨i,m⟩)) :
  ∀ (c:Code) (env:Env) (S:St) (j:Option Code) (x:EX) (e:Env) (s:St) (i:Option Code) (ls:List Nat),evY C sf rd lp c env S j=some (x,e,s,i,ls)→(∀ y∈ls,y=l)→RW C nb (some l) (YG rd) c env S ⟨j,m⟩ (kAt x e s ⟨i,m⟩):=by
 have plain:∀ (c:Code) (env:Env) (S:St) (j:Option Code) (x:EX) (e:Env) (s:St) (i:Option Code) (ls:List Nat),(match evC C sf c env S with
  | some (x,e,s)=>some (x,e,s,j,([]:List Nat))
  | none=>none)=some (x,e,s,i,ls)→RW C nb (some l) (YG rd) c env S ⟨j,m⟩ (kAt x e s ⟨i,m⟩):=by
  intro c env S j x e s i ls h
  split at h<;>cases h
  rename_i h1
  exact RW.of_ev hC hsf h1 ⟨rfl,rfl,rfl,rfl⟩
 intro c
 induction c<;>intro env S j x e s i ls h hls
 case seq a b iha ihb =>
  simp only[evY]at h
  split at h
  ·rename_i e1 s1 j1 ls1 h1
   split at h<;>cases h
   rename_i h2
   refine RW.seq ((iha _ _ _ _ _ _ _ _ h1 fun y hy=>hls y (List.mem_append_left _ hy)).mono ?_)
   rintro x' e' s' z' ⟨rfl,rfl,rfl,rfl⟩
   exact ihb _ _ _ _ _ _ _ _ h2 fun y hy=>hls y (List.mem_append_right _ hy)
  ·rename_i hno
   cases hr:evY C sf rd lp a env S j with
   | none=>rw[hr]at h;cases h
   | some p =>
    obtain ⟨x1,e1,s1,j1,ls1⟩:=p
    rw[hr]at h
    cases h
    refine RW.seq ((iha _ _ _ _ _ _ _ _ hr hls).mono ?_)
    rintro x' e' s' z' ⟨rfl,rfl,rfl,rfl⟩
    cases x' with
    | normal=>exact absurd hr (hno _ _ _ _)
    | _=>exact ⟨rfl,rfl,rfl,rfl⟩
 case cond c a b iha ihb =>
  simp only[evY]at h
  split at h<;>try cases h
  rename_i t ht
  refine RW.cond ht ?_
  cases t
  ·exact ihb _ _ _ _ _ _ _ _ h hls
  ·exact iha _ _ _ _ _ _ _ _ h hls
 case block id c ih =>
  simp only[evY]at h
  split at h
  ·rename_i i1 e1 s1 j1 ls1 h1
   refine RW.block ?_
   split at h
   ·rename_i hi
    cases h
    refine (ih _ _ _ _ _ _ _ _ h1 hls).mono ?_
    rintro x' e' s' z' ⟨rfl,rfl,rfl,rfl⟩
    simp only[y3h]
    rw[hi,Nat.beq_refl]
    exact ⟨rfl,rfl,rfl,rfl⟩
   ·rename_i hi
    cases h
    refine (ih _ _ _ _ _ _ _ _ h1 hls).mono ?_
    rintro x' e' s' z' ⟨rfl,rfl,rfl,rfl⟩
    simp only[y3h]
    rw[show Nat.beq i1 id=false from by rw[← Bool.not_eq_true];intro hq;exact hi (Nat.eq_of_beq_eq_true hq)]
    exact ⟨rfl,rfl,rfl,rfl⟩
  ·rename_i hno
   refine RW.block ((ih _ _ _ _ _ _ _ _ h hls).mono ?_)
   rintro x' e' s' z' ⟨rfl,rfl,rfl,rfl⟩
   cases x' with
   | exit q=>exact absurd h (hno _ _ _ _ _)
   | _=>exact ⟨rfl,rfl,rfl,rfl⟩
 case loop c ih =>
  simp only[evY]at h
  obtain ⟨q,hq⟩:=hlp _ _ _ _ _ _ _ _ _ h hls
  exact RW.loop hq
 case region id ops d =>
  cases d
  ·simp only[evY]at h
   split at h
   ·exact plain _ _ _ _ _ _ _ _ _ h
   refine ⟨fun hok r0 G0 w0 hb hy n ds G w a hs=>wpIn_region ?_⟩
   have:=x6t hC hsf hb (hy l rfl) ops n m ds 0 ops.toList env S j ls G w a (by simp) h hls hs
   simpa only[List.drop_zero] using this
  ·exact plain _ _ _ _ _ _ _ _ _ h
 all_goals exact plain _ _ _ _ _ _ _ _ _ h
theorem y3e (hC:CxOk C)(hsf:SelfOk C sf){m:Nat} :
  ∀ (n:Nat) (c:Code) (env:Env) (S:St) (j:Option Code) (x:EX) (e:Env) (s:St) (i:Option Code) (ls:List Nat),y4q C sf rd n c env S j=some (x,e,s,i,ls)→(∀ y∈ls,y=l)→∃ q,LR C nb (some l) (YG rd) q c env S ⟨j,m⟩ (kAt x e s ⟨i,m⟩)
 | 0,c,env,S,j,x,e,s,i,ls,h,_=>by simp[y4q]at h
 | n+1,c,env,S,j,x,e,s,i,ls,h,hls=>by
  simp only[y4q]at h
  split at h
  ·rename_i e1 s1 j1 ls1 h1
   split at h<;>cases h
   rename_i h2
   obtain ⟨q,hq⟩:=y3e hC hsf n _ _ _ _ _ _ _ _ _ h2 fun y hy=>hls y (List.mem_append_right _ hy)
   refine ⟨q+1,LR.step ((y81 hC hsf (y3e hC hsf n) _ _ _ _ _ _ _ _ _ h1 fun y hy=>hls y (List.mem_append_left _ hy)).mono ?_)⟩
   rintro x' e' s' z' ⟨rfl,rfl,rfl,rfl⟩
   exact hq
  ·rename_i hno
   refine ⟨1,LR.step ((y81 hC hsf (y3e hC hsf n) _ _ _ _ _ _ _ _ _ h hls).mono ?_)⟩
   rintro x' e' s' z' ⟨rfl,rfl,rfl,rfl⟩
   cases x' with
   | normal=>exact absurd h (hno _ _ _ _)
   | _=>exact ⟨rfl,rfl,rfl,rfl⟩
def x0o (C:Cx)(sf:Self)(rd:RdG)(n:Nat)(fn:Func)(c:Code)(ca cb:List AV)(S:St)(l:Nat):Option (Option Code×St×List Nat) :=
 match evY C sf rd (y4q C sf rd n) c ((ca++[AV.fn (.yield l) [] []]++cb)++List.replicate (fn.ntmps-(ca++[AV.fn (.yield l) [] []]++cb).length) .bad) S none with
 | some (.normal,_,s,j,ls)=>if (s.hs.take S.hs.length).all (okBlk S.hs.length)=true then some (j,⟨s.hs.take S.hs.length,s.ts,[]⟩,ls) else none
 | some (.ret,_,s,j,ls)=>if (s.hs.take S.hs.length).all (okBlk S.hs.length)=true then some (j,⟨s.hs.take S.hs.length,s.ts,[]⟩,ls) else none
 | _=>none
theorem x36 {n:Nat}{fn:Func}{c:Code}{ca cb:List AV}{S S':St}{j:Option Code}{ls:List Nat}(h:x0o C sf rd n fn c ca cb S l=some (j,S',ls)) :
  ∃ x e s,evY C sf rd (y4q C sf rd n) c ((ca++[AV.fn (.yield l) [] []]++cb)++List.replicate (fn.ntmps-(ca++[AV.fn (.yield l) [] []]++cb).length) .bad) S none=some (x,e,s,j,ls)∧(x=.normal∨x=.ret) ∧
   (s.hs.take S.hs.length).all (okBlk S.hs.length)=true∧S'=⟨s.hs.take S.hs.length,s.ts,[]⟩:=by
 unfold x0o at h
 split at h<;>try cases h
 ·rename_i e s j1 ls1 h1
  split at h<;>cases h
  rename_i hc
  exact ⟨_,e,s,h1,.inl rfl,hc,rfl⟩
 ·rename_i e s j1 ls1 h1
  split at h<;>cases h
  rename_i hc
  exact ⟨_,e,s,h1,.inr rfl,hc,rfl⟩
end
theorem SeqG.of_ev {C:Cx}{sf:Self}{rd:RdG}(hC:CxOk C)(hsf:SelfOk C sf){f:FuncId}{fn:Func}{c:Code}(hf:C.P.funcs[f]?=some fn)(hc:fn.body=some c)(hr:fn.results=#[])
  {n:Nat} {ca cb:List AV} {S S':St} {j:Option Code} (h:∀ l,∃ ls,x0o C sf rd n fn c ca cb S l=some (j,S',ls)∧∀ y∈ls,y=l):SeqG C f ca cb rd S j S' where
 body:=⟨fn,c,hf,hc,hC.names f fn c hf hc⟩
 ok:=fun l r0 G0 w0 hb hy hI us hus=>by
  obtain ⟨ls,h1,hls⟩:=h l
  obtain ⟨x,e,s,hev,hx,q1,rfl⟩:=x36 h1
  refine (callsIn_wide (n:=0)).1 (callsIn_of_wp hf hc trivial ?_)
  have he:=z81 hus fn.ntmps
  have hb0:=(hb.rc l rfl).1
  have hs0:sh (some l) r0 w0=w0:=by simp only[sh];exact z56 hb0
  have hsit:Sit (some l) r0 G0 w0 [] ⟨none,0⟩ G0 w0 S _ _:=⟨by rw[hs0];exact Evo.refl _ _,hI,he,fun x hx=>by cases hx;exact hb0,⟨[],rfl,rfl,List.nodup_nil,fun r hr=>by simp at hr⟩⟩
  refine wpIn_mono ((y81 hC hsf (y3e hC hsf n) _ _ _ _ _ _ _ _ _ hev hls).run (hC.codes f fn c hf hc) r0 G0 w0 hb (fun x hx=>by cases hx;exact hy) 0 [] G0 w0 _ hsit) ?_
  rintro e' a' w' ⟨x',env',S',z',G',p1,p2,rfl,rfl,rfl,rfl⟩
  obtain ⟨ms,m1,m2,m3,m4⟩:=p1.df
  rw[List.length_eq_zero_iff]at m1
  subst m1
  have hrec:=p1.rc l rfl
  have fin:a'.defers=[]∧∃ v,(results fn a'.tmps).run C.P w'=.ok v w'∧∃ v' G',(Ending.returned v)=.returned v'∧Inv G' w' ⟨S'.hs.take S.hs.length,S'.ts,[]⟩∧Evo G0 w0 G' (sh (some l) r0 w')∧w'.heap[l]?=some (z3p r0 j):=by
   refine ⟨by simpa using m2,undef,?_,undef,G'.cut S.hs.length,rfl,?_,?_,hrec⟩
   ·unfold results
    rw[hr]
    simp[go_sem,undef]
   ·refine p1.inv.cut (S0:=⟨S'.hs.take S.hs.length,S'.ts,[]⟩) (n:=S.hs.length) (fun q x hx=>?_) (fun q x hq hx=>?_) rfl (fun q x hx=>?_)
    ·simp only at hx
     have hlt:=(List.getElem?_eq_some_iff.1 hx).1
     rw[List.length_take]at hlt
     rw[List.getElem?_take_of_lt (by omega)]at hx
     exact ⟨by omega,hx⟩
    ·simp only
     rw[List.getElem?_take_of_lt hq];exact hx
    ·simp only at hx
     have:=List.all_eq_true.1 q1 _ (List.mem_of_getElem? hx)
     exact fun o b _ _ hr=>hr.cut this
   ·have hE:=p1.evo
    exact {
     k:=hE.k,cell:=hE.cell
     σ:=fun x b hx=>by
      have hlt:=hI.σ_lt hx
      simp only[Gh.cut,if_pos hlt];exact hE.σ x b hx
     σn:=fun x b hx=>hE.σn x b (z5k hx).2
     tk:=hE.tk,tkn:=hE.tkn,kn:=hE.kn,B:=hE.B,size:=hE.size,os:=hE.os,tape:=hE.tape,output:=hE.output,frame:=hE.frame }
  rcases hx with rfl | rfl
  ·simp only[ExR]at p2;subst p2;exact fin
  ·simp only[ExR]at p2;subst p2;exact fin
def w0v (C:Cx)(fn:Func)(r:AV):KontR:=fun x e s z=>(x=.normal∨x=.ret)∧∃ v v',z0v C fn e s=some v∧pub C s.hs 0 v=some v'∧scrub 0 v'=r
theorem CallOk.of_RWE {C:Cx}(hC:CxOk C){g:FuncId}{args:List AV}{fn:Func}{c:Code}(hfn:C.P.funcs[g]?=some fn)(hc:fn.body=some c){r:AV}{Y:Yk}
  (h:RW C 0 none Y c (args++List.replicate (fn.ntmps-args.length) .bad) St.nil ⟨none,0⟩ (w0v C fn r)):CallOk C g args St.nil (.ret r) St.nil:=by
 intro G w us hI hg has
 refine (callsIn_wide (n:=0)).1 (callsIn_of_wp_marks hfn hc trivial ?_)
 have hb:G.Under 0:=⟨fun h _=>by
  cases hs:G.σ h with
  | none=>rfl
  | some b=>obtain ⟨hb,hx⟩:=hI.dom _ _ hs;simp[St.nil]at hx,fun k=>by
  cases hs:G.tk k with
  | none=>rfl
  | some x=>obtain ⟨b,c,m,z⟩:=x;have:=(hI.tdom _ _ _ _ _ hs).1;simp[St.nil]at this⟩
 have he:=z81 has fn.ntmps
 have hbas:Bas C 0 none default G w:=⟨⟨hb.1,fun _=>hb.2⟩,hg,fun x hx=>by cases hx⟩
 have hsit:Sit none default G w [] ⟨none,0⟩ G w St.nil _ _:=⟨Evo.refl _ _,hI,he,fun x hx=>(by cases hx),⟨[],rfl,rfl,List.nodup_nil,fun r hr=>by simp at hr⟩⟩
 refine wpIn_mono (h.run (hC.codes g fn c hfn hc) default G w hbas (fun x hx=>by cases hx) 0 [] G w _ hsit) ?_
 rintro e a' w' ⟨x,env1,S1,z1,G1,q1,q2,hx,v,v',p1,p2,p3⟩
 obtain ⟨ms,m1,m2,m3,m4⟩:=q1.df
 have fin:LeavesInM Fence.wide 0 C.P fn a'.tmps (z6h G w (.ret r) St.nil) a'.defers .returning w':=by
  rw[show a'.defers=ms.map mkD by simpa using m2]
  exact y2l ms w' q1.inv q1.evo ⟨q1.er.1,q1.er.2⟩ m3 m4 fun w2 i2 e2 r2=>by
   obtain ⟨u,u1,u2⟩:=z3n (C:=C) i2 r2 p1
   refine ⟨u,u2,?_⟩
   have hle:(S1.hs.take 0).all (okBlk 0)=true:=by simp
   obtain ⟨G2,f1,f2,f3⟩:=y1i (C:=C) (hs0:=[]) (nb:=0) rfl hI i2 e2 hle p2 u1
   simp only[List.take_zero,List.map_nil]at f1
   subst p3
   exact ⟨G2,f1,f2,u,rfl,f3⟩
 rcases hx with rfl | rfl
 ·simp only[ExR]at q2;subst q2;exact fin
 ·simp only[ExR]at q2;subst q2;exact fin

end Go.Ev
