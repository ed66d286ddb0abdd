/- An evaluator of the model, part 2: statements that write, regions that draw their order. -/
import Derived.Test.YtdpfgjljehajbaaGreatDoorE1
import Derived.Laws.IdiomStrings
import Derived.LoopNIn
set_option linter.unusedVariables false
set_option linter.unusedSimpArgs false
namespace Go.Ev
open Go.RowKit

section
variable {C:Cx}{G:Gh}{w:World}{S:St}

theorem y6v {z:List AV}{zc:Array Value}(hz:VL G w z zc)(n:Nat):VL G w (z3u z n) ((Array.range (n*z.length)).map (zc[· % zc.size]!)):=by
 refine ⟨by simp[z3u],fun i x hx=>?_⟩
 simp only[z3u,List.getElem?_map,Option.map_eq_some_iff]at hx
 obtain ⟨j,hj,rfl⟩:=hx
 have hlt:i < n*z.length:=by
  have:=(List.getElem?_eq_some_iff.1 hj).1
  simpa using this
 have hj':j=i:=by
  have:=(List.getElem?_eq_some_iff.1 hj).2
  simpa using this.symm
 subst hj'
 have hpos:0 < z.length:=by
  rcases Nat.eq_zero_or_pos z.length with h | h
  ·simp[h]at hlt
  ·exact h
 have hm:j % z.length < z.length:=Nat.mod_lt _ hpos
 have:=hz.2 (j % z.length) _ (List.getElem?_eq_getElem hm)
 have h2:j % z.length < zc.size:=by rw[hz.1];exact hm
 simp only[Array.getD,Array.size_map,Array.size_range,hlt,dif_pos,Array.getElem_map,Array.getElem_range,hz.1]
 simp[List.getD_eq_getElem?_getD,hm,getElem!_pos zc (j % z.length) h2]
 simpa[Array.getD,h2] using this

theorem VR.ofHeld {l:List AV}{n:Nat}{t:Tok}{b c:Nat}{f:Nat→Value}(hc:n≤c)(hf:∀ i a,l[i]?=some a→VR G w a (f i))(hK:∀ i,i < l.length→G.K b i∧w.cell? ⟨b,i,none⟩=some (f i))
  (ht:TokR G (some ⟨b,0,none⟩) n c t):VR G w (.vs l n t) (.slice (some ⟨b,0,none⟩) n c) :=
 .vs l n t _ c f hc hf (.inr ⟨_,rfl,rfl,fun i hi=>by simpa using hK i hi⟩) ht

theorem y91 (hI:Inv G w S){t:TypeId}{z:List AV}(hz:z4p C t=some z) :
  ∃ G' w' v,(Instr.alloc t true (.tuple #[])).run C.P w=.ok v w'∧VR G' w' (.ptr S.hs.length 0) v∧Inv G' w' (S.push (.cells z t))∧Evo G w G' w':=by
 obtain ⟨i,zv,h1,h2,h3,h4⟩:=z5a (G:=G) (w:=w) hz
 have ha:=Adds.alloc w (.cells zv.cells t (0,0))
 refine ⟨G.bind S.hs.length w.heap.size,w.alloc (.cells zv.cells t (0,0)),.pointer (some ⟨w.heap.size,0,none⟩),?_,.ptr _ _ _ (upd_same _ _ _),Inv.push ha hI (.cells z t zv.cells h4.1 h4.2),Evo.bind ha hI hI.σ_len⟩
 simp[Instr.alloc,zeroValue,typeInfo,h1,h2,newVar,newRow]

theorem x3h (hI:Inv G w S){t:TypeId}{x:AV}(hx:x.cells.all AV.one=true){u:Value}(hu:VR G w x u) :
  ∃ G' w' v,(Instr.box t u).run C.P w=.ok v w'∧VR G' w' (.ptr S.hs.length 0) v∧Inv G' w' (S.push (.cells x.cells t))∧Evo G w G' w':=by
 obtain ⟨q1,q2,q3⟩:=hu.cells hx
 have ha:=Adds.alloc w (.cells u.cells t (0,0))
 refine ⟨G.bind S.hs.length w.heap.size,w.alloc (.cells u.cells t (0,0)),.pointer (some ⟨w.heap.size,0,none⟩),?_,.ptr _ _ _ (upd_same _ _ _),Inv.push ha hI (.cells _ t _ q1 q2),Evo.bind ha hI hI.σ_len⟩
 simp[Instr.box,newVar,newRow]

theorem y9l (hI:Inv G w S){t bt:TypeId}{h off:Nat}{l l':List AV}{x:AV}(hb:z1e S h=some (l,bt))(hw:y0l C t l off x=some l'){p u:Value}(hp:VR G w (.ptr h off) p)(hu:VR G w x u) :
  ∃ w',(Instr.storeAt t p u).run C.P w=.ok () w'∧Inv G w' (S.put h (.cells l' bt))∧Evo G w G w':=by
 cases hp with
 | ptr _ _ b hσ =>
  obtain ⟨b',cs,h1,h2,h3,h4,h5⟩:=hI.cellsAt hb
  rw[hσ]at h1;cases h1
  unfold y0l at hw
  split at hw<;>try cases hw
  rename_i n hn
  split at hw<;>cases hw
  rename_i hc
  obtain ⟨hc1,hc2,hc3⟩:=hc
  obtain ⟨q1,q2,q3⟩:=hu.cells hc3
  have hlen:u.cells.toList.length=x.cells.length:=by simpa using q1
  have hst:=run_storeCells_at C.P b off bt u.cells.toList 0 cs w h2 (by simp;omega) q3
  have hm:=Mods.setRow (cs':=(cs.toList.take (off+0)++u.cells.toList++cs.toList.drop (off+0+u.cells.toList.length)).toArray) h2
  refine ⟨_,?_,Inv.put hm hI hσ (.cells _ bt _ ?_ ?_),Evo.mods hm hI hσ⟩
  ·have hsz:u.cells.size=n:=by omega
   simp only[Instr.storeAt,Instr.sureAddr,Sem.run_bind,Sem.run_pure,Result.andThen,storeVar,run_sizeOf (show (C.P.info? t).map (·.size)=some n from hn)]
   rw[if_neg (by simp[hsz])]
   exact hst
  ·rw[z6a (by omega)]
   simp;omega
  ·intro i y hy
   have hil:i < l.length:=by
    rcases Nat.lt_or_ge i l.length with h6 | h6
    ·exact h6
    ·rw[← z6a (l:=l) (off:=off) (cs:=x.cells) (by omega)]at h6
     simp[h6]at hy
   rw[y78 (by omega)]at hy
   have e1:(cs.toList.take (off+0)).length=off:=by simp;omega
   have key:(cs.toList.take (off+0)++u.cells.toList++cs.toList.drop (off+0+u.cells.toList.length)).toArray.getD i undef =
     if i < off then cs.getD i undef else if i < off+x.cells.length then u.cells.getD (i-off) undef else cs.getD i undef:=by
    simp only[Array.getD_eq_getD_getElem?,List.getElem?_toArray]
    rw[List.getElem?_append]
    simp only[List.length_append,e1,hlen]
    by_cases g1:i < off
    ·rw[if_pos (by omega),List.getElem?_append_left (by omega),if_pos g1]
     simp[List.getElem?_take,g1]
    ·rw[if_neg g1]
     by_cases g2:i < off+x.cells.length
     ·rw[if_pos g2,if_pos g2,List.getElem?_append_right (by omega),e1]
      simp
     ·rw[if_neg g2,if_neg g2,List.getElem?_drop]
      first
       | (rw[show (off+0+x.cells.length+(i-(off+x.cells.length)))=i by omega];simp)
       | (rw[e1,show (off+0+x.cells.length+(i-(off+x.cells.length)))=i by omega];simp)
   rw[key]
   by_cases g1:i < off
   ·rw[if_pos g1]at hy ⊢;exact h4 _ _ hy
   ·rw[if_neg g1]at hy ⊢
    by_cases g2:i < off+x.cells.length
    ·rw[if_pos g2]at hy ⊢;exact q2 _ _ hy
    ·rw[if_neg g2]at hy ⊢;exact h4 _ _ hy

theorem z9q {t:TypeId}{len:Nat}{parts:List (Nat×AV)}{l:List AV}{sz e:Nat}(h:z6k C t len parts=some (l,(sz,e)))(vals:Array (Nat×Value))(hl:parts.length=vals.size)
  (hv:∀ (i:Nat) (p:Nat×AV),parts[i]?=some p→∃ v:Value,vals[i]?=some (p.1,v)∧VR G w p.2 v) :
  ∃ cs,0 < sz∧l.length=len*sz∧len≤16777216∧VL G w l cs∧(Instr.buildSlice t len vals).run C.P w=.ok (.slice (some ⟨w.heap.size,0,none⟩) len len) (w.alloc (.cells cs e (0,0))):=by
 unfold z6k at h
 split at h<;>try cases h
 rename_i e hu
 split at h<;>try cases h
 rename_i n z hn hz
 split at h<;>try cases h
 rename_i hc
 obtain ⟨hc1,hc2⟩:=hc
 obtain ⟨l',hf,hq⟩:=Option.map_eq_some_iff.1 h
 cases hq
 obtain ⟨i,zv,h1,h2,h3,h4⟩:=z5a (G:=G) (w:=w) hz
 have hsz:=run_sizeOf (show (C.P.info? e).map (·.size)=some sz from hn) w
 have hisz:i.size=sz:=by
  have:(C.P.info? e).map (·.size)=some sz:=hn
  simp[h1]at this;exact this
 have hzl:z.length=sz:=by rw[← h4.1,h3,hisz]
 have hv':∀ (i:Nat) (p:Nat×AV),parts[i]?=some p→∃ v:Value,vals.toList[i]?=some (p.1,v)∧VR G w p.2 v:=by simpa using hv
 have hlenz:∀ (place:Nat→Option (Nat×Nat)) (ps:List (Nat×AV)) (c o:List AV),z7x place c ps=some o→o.length=c.length:=by
  intro place ps
  induction ps with
  | nil=>intro c o ho;simp[z7x]at ho;rw[ho]
  | cons q qs ih =>
   intro c o ho
   obtain ⟨qi,qv⟩:=q
   simp only[z7x]at ho
   split at ho
   ·cases ho
   ·split at ho
    ·rename_i hcc
     rw[ih _ _ ho,z6a (by omega)]
    ·cases ho
 have hlen:l.length=len*sz:=by
  rw[hlenz _ _ _ _ hf];simp[z3u,hzl]
 have hle:len≤16777216:=Nat.le_trans (Nat.le_mul_of_pos_right _ hc2) hc1
 have hz0:VL G w (z3u z len) ((Array.range (len*sz)).map ((if len*sz=0 then #[] else zv.cells)[· % (if len*sz=0 then #[] else zv.cells).size]!)):=by
  rcases Nat.eq_zero_or_pos (len*sz) with h0 | h0
  ·refine ⟨by simp[z3u,hzl],fun j x hx=>?_⟩
   simp[z3u,hzl,h0]at hx
  ·rw[if_neg (by omega)]
   have:=y6v h4 len
   rwa[hzl]at this
 obtain ⟨cs',g1,g2⟩:=y0g (fun i=>some (i*sz,sz)) parts vals.toList _ _ l hz0 (by simpa using hl) hv' hf
 refine ⟨cs',hc2,hlen,hle,g2,?_⟩
 unfold Instr.buildSlice
 simp only[Sem.run_bind,run_underlying hu,Result.andThen,hsz]
 have h24:¬ (len*sz > 2 ^ 24):=by omega
 rw[if_neg h24]
 rcases Nat.eq_zero_or_pos (len*sz) with h0 | h0
 ·rw[if_pos h0]at g1
  simp[h0]at g1
  simp[h0,g1,newRow]
 ·rw[if_neg (by omega)]at g1
  have hzr:(zeroValue e).run C.P w=.ok zv w:=by simp[zeroValue,typeInfo,h1,h2]
  have h0':¬ (len=0∨sz=0):=by
   intro hor;rcases hor with hor | hor<;>simp[hor]at h0
  simp[h0',hzr,g1,newRow]
  intro hq;omega
end
end Go.Ev
namespace Go.Ev
open Go.RowKit

section
variable {C:Cx}{G:Gh}{w:World}{S:St}

theorem VRs.append {l m:List AV}{u v:List Value}(h1:VRs G w l u)(h2:VRs G w m v):VRs G w (l++m) (u++v):=by
 refine ⟨by simp[h1.1,h2.1],fun i a ha=>?_⟩
 rcases Nat.lt_or_ge i l.length with h | h
 ·rw[List.getElem?_append_left h]at ha
  obtain ⟨x,hx,hr⟩:=h1.2 i a ha
  exact ⟨x,by rw[List.getElem?_append_left (by rw[h1.1];exact h)];exact hx,hr⟩
 ·rw[List.getElem?_append_right h]at ha
  obtain ⟨x,hx,hr⟩:=h2.2 _ a ha
  exact ⟨x,by rw[List.getElem?_append_right (by rw[h1.1];exact h),h1.1];exact hx,hr⟩
theorem VRs.ones {l:List AV}{u:List Value}(h:VRs G w l u)(ho:l.all AV.one=true):∀ x∈u,x.oneCell'=true:=by
 intro x hx
 obtain ⟨i,hi,rfl⟩:=List.getElem_of_mem hx
 have hi':i < l.length:=by rw[← h.1];exact hi
 obtain ⟨v,h1,h2⟩:=h.2 i _ (List.getElem?_eq_getElem hi')
 rw[List.getElem?_eq_getElem hi]at h1
 cases h1
 exact h2.one (by rw[List.all_eq_true]at ho;exact ho _ (List.getElem_mem hi'))
theorem VRs.ofFn {l:List AV}{f:Nat→Value}(hf:∀ i a,l[i]?=some a→VR G w a (f i)):VRs G w l ((List.range l.length).map f):=by
 refine ⟨by simp,fun i a ha=>⟨f i,?_,hf i a ha⟩⟩
 have:=(List.getElem?_eq_some_iff.1 ha).1
 simp[this]
theorem VRs.getD {l:List AV}{u:List Value}(h:VRs G w l u):∀ i a,l[i]?=some a→VR G w a (u.getD i undef):=by
 intro i a ha
 obtain ⟨v,h1,h2⟩:=h.2 i a ha
 simpa[List.getD_eq_getElem?_getD,h1] using h2

theorem x0m (hI:Inv G w S){sz:Nat}{tx:TypeId}{x:AV}{d:Nat}{news:List AV}(hsz:0 < sz)(h:z9a C S sz tx x=some (d,news))(ho:news.all AV.one=true){xv:Value}(hx:VR G w x xv) :
  ∃ vals,VRs G w news vals∧Src C.P sz tx xv d vals w∧news.length=d*sz:=by
 unfold z9a at h
 split at h
 ·rename_i e' hk
  unfold z7r at h
  split at h
  ·split at h<;>cases h
   rename_i tk hl
   cases hx with
   | vs _ _ _ A c f hc hf hh ht =>
    have hv:=VRs.ofFn hf
    rcases hh with rfl | ⟨ad,rfl,hh⟩
    ·have hd:d=0:=by
      rcases Nat.eq_zero_or_pos d with h0 | h0
      ·exact h0
      ·have:=Nat.mul_pos h0 hsz;simp at hl;omega
     subst hd
     cases A with
     | none=>exact ⟨[],by simpa using hv,Src.ofNil w hk c,hl⟩
     | some ad=>exact ⟨[],by simpa using hv,Src.ofSlice w hk ad 0 c [] (by simp) (by simp) (by simp),hl⟩
    ·refine ⟨_,hv,Src.ofSlice w hk ad d c _ (by simpa using hl) (fun j u hu=>?_) (hv.ones ho),hl⟩
     simp only[List.getElem?_map,Option.map_eq_some_iff]at hu
     obtain ⟨i,hi,rfl⟩:=hu
     have hlt:=(List.getElem?_eq_some_iff.1 hi).1
     have hij:=(List.getElem?_eq_some_iff.1 hi).2
     simp at hlt hij
     subst hij
     rw[z7s hh.1,Addr.add_lit]
     exact (hh.2 j hlt).2
  ·rename_i hq off n cc
   split at h
   ·rename_i l t' hb
    split at h<;>cases h
    rename_i hl
    cases hx with
    | row _ _ _ _ b hσ hc =>
     obtain ⟨b',cs,h1,h2,h3,h4,h5⟩:=hI.cellsAt hb
     rw[hσ]at h1;cases h1
     have hv:VRs G w ((l.drop off).take (d*sz)) ((List.range (d*sz)).map fun i=>cs.getD (off+i) undef):=by
      refine ⟨by simp;omega,fun i a ha=>?_⟩
      rw[List.getElem?_take]at ha
      split at ha
      ·rename_i hi
       rw[List.getElem?_drop]at ha
       exact ⟨_,by simp[hi],h4 _ _ ha⟩
      ·cases ha
     refine ⟨_,hv,Src.ofSlice w hk ⟨b,off,none⟩ d cc _ (by simp) (fun j u hu=>?_) (hv.ones ho),by simp;omega⟩
     simp only[List.getElem?_map,Option.map_eq_some_iff]at hu
     obtain ⟨i,hi,rfl⟩:=hu
     have hlt:=(List.getElem?_eq_some_iff.1 hi).1
     have hij:=(List.getElem?_eq_some_iff.1 hi).2
     simp at hlt hij
     subst hij
     rw[Addr.add_lit]
     exact h5 _ (by omega)
   ·cases h
  ·cases h
 ·rename_i hk
  split at h
  ·split at h<;>cases h
   rename_i b h1
   subst h1
   cases hx.str_inv
   have e1:(⟨b.toArray⟩:ByteArray).size=b.length:=by simp[ByteArray.size]
   refine ⟨byteCells ⟨b.toArray⟩,⟨by simp[byteCells],fun i a ha=>?_⟩,?_,by simp⟩
   ·simp only[List.getElem?_map,Option.map_eq_some_iff]at ha
    obtain ⟨c,hc,rfl⟩:=ha
    exact ⟨.int .u8 c.toNat,by simp[byteCells,hc],.int _ _⟩
   ·have:=Src.ofString (P:=C.P) w hk ⟨b.toArray⟩
    rwa[e1]at this
  ·cases h
 ·cases h

theorem y0d (w:World)(n old:Nat)(e:TypeId):n≤grownCap w n old e:=by unfold grownCap Question.cut;exact Nat.le_add_right _ _
theorem grownCap_le (w:World)(n old:Nat)(e:TypeId)(h:n≤140737488355328):grownCap w n old e≤maxLen:=by
 unfold grownCap Question.cut maxLen
 have:(w.tape w.drawn (.appendCap n old e)) % (2 ^ 63-n) < 2 ^ 63-n:=Nat.mod_lt _ (by omega)
 simp only
 omega

theorem y1w {b:Nat}{e:TypeId}{fz:Nat×Nat}:∀ (vs:List Value) (o:Nat) (cs:Array Value) (w:World),w.heap[b]?=some (.cells cs e fz) →
  ∃ cs':Array Value,cs'.size=cs.size∧Mods w (w.setCells b o vs) b (.cells cs' e fz)
 | [],o,cs,w,h=>⟨cs,rfl,h,fun _ _=>rfl,rfl,rfl,rfl,rfl⟩
 | v::r,o,cs,w,h=>by
  have h1:(w.setCell ⟨b,o,none⟩ v).heap[b]?=some (.cells (cs.setIfInBounds o v) e fz):=by
   simp[World.setCell,Array.getElem?_modify,h]
  obtain ⟨cs',h2,h3⟩:=y1w r (o+1) _ _ h1
  refine ⟨cs',by simpa using h2,h3.at_,fun k hk=>?_,?_,?_,?_,?_⟩
  ·rw[World.setCells,h3.other k hk]
   simp[World.setCell,Array.getElem?_modify,Ne.symm hk]
  ·rw[World.setCells,h3.size];simp
  ·rw[World.setCells,h3.os];rfl
  ·rw[World.setCells,h3.tape];rfl
  ·rw[World.setCells,h3.output];rfl

theorem y0e (hI:Inv G w S){w':World}{l:List AV}{vals zs:List Value}{e:TypeId}{k m:Nat}{z:Nat×Nat}{c:Nat}{S':St}(hv:VRs G w l vals)(ha:Adds w w' (.cells ((vals).toArray++zs.toArray) e (0,0)))
  (he:e=z.2) (hk:G.tk k=none∨∃ b' c' m',G.tk k=some (b',c',m',z)∧m' < m) (hz:0 < z.1) (hmc:m≤c) (hc:c≤maxLen) (hl:l.length=m*z.1) (hzs:zs.length=(c-m)*z.1)
  (hs:S'.hs=S.hs) (ht1:S'.ts[k]?=some (m,z)) (ht2:∀ i,i≠k→S'.ts[i]?=S.ts[i]?) :
  ∃ G',VR G' w' (.vs l m (.own k)) (.slice (some ⟨w.heap.size,0,none⟩) m c)∧Inv G' w' S'∧Evo G w G' w':=by
 have hcs:(vals.toArray++zs.toArray).size=c*z.1:=by
  simp[hv.1,hl,hzs,← Nat.add_mul];congr 1;omega
 have hevo:=Evo.tnew (c:=c) ha hI hk
 refine ⟨G.tnew k w.heap.size c m z,?_,Inv.tnew ha hI hk hz hmc hc hcs he hs ht1 ht2,hevo⟩
 have hv':=hv.mono hevo
 refine VR.ofHeld hmc hv'.getD (fun i hi=>⟨.inr ⟨rfl,by omega⟩,?_⟩) ⟨w.heap.size,c,m,z,upd_same _ _ _,Nat.le_refl _,fun _=>⟨rfl,rfl⟩⟩
 have hi':i < vals.length:=by rw[hv.1];exact hi
 simp[World.cell?,ha.new,Array.getElem?_append,hi',List.getD_eq_getElem?_getD]
 rw[List.getElem?_append_left hi',List.getElem?_eq_getElem hi']

theorem z8l (hI:Inv G w S){t tx:TypeId}{s x a:AV}{S':St}(h:z2e C S t tx s x=some (a,S')){sv xv:Value}(hs:VR G w s sv)(hx:VR G w x xv)(ty:TypeId) :
  ∃ G' w' v,(Builtin.append_ #[t,tx] ty #[sv,xv]).run C.P w=.ok v w'∧VR G' w' a v∧Inv G' w' S'∧Evo G w G' w':=by
 unfold z2e at h
 split at h<;>try cases h
 rename_i e hu
 split at h<;>try cases h
 rename_i sz by' z hsz hby hz
 split at h<;>try cases h
 rename_i d news l n tk hsrc
 split at h<;>try cases h
 rename_i hc
 obtain ⟨hone,hb1,hb2,hlen,hsz0⟩:=hc
 obtain ⟨i,zv,hi,hiz,hizs,hzl⟩:=z5a (G:=G) (w:=w) hz
 have hisz:i.size=sz:=by
  have:(C.P.info? e).map (·.size)=some sz:=hsz
  simp[hi]at this;exact this
 have hiby:i.bytes=by':=by
  have:(C.P.info? e).map (·.bytes)=some by':=hby
  simp[hi]at this;exact this
 obtain ⟨vals,hvals,hSrc,hnl⟩:=x0m hI hsz0 hsrc hone hx
 rw[← hisz]at hSrc
 generalize hsv:sv=sv' at hs
 cases hs with
 | vs _ _ _ A c f hcap hf hh ht =>
  have hold:=VRs.ofFn hf
  split at h
  ·rename_i hd0
   cases h
   subst hd0
   have hvn:vals=[]:=by
    have:=hvals.1;rw[hnl]at this;simp at this;exact this
   subst hvn
   refine ⟨G,w,.slice A n c,?_,.vs _ _ _ A c f hcap hf hh ht,hI,Evo.refl _ _⟩
   rcases hSrc.kind with ⟨e',hk⟩ | hk <;>
    (cases A<;>simp[Builtin.append_,run_underlying hu,run_underlying hk,sizeOf,typeInfo,hi,hSrc.len,hcap,hSrc.cells,storeCells])
  ·rename_i hd0
   have hfit:∀ c0,c0 < n+d→Builtin.nextslicecap (n+d) c0*i.bytes≤281474976710656:=fun c0 hc0=>growslice_fits hc0 (by rw[hiby];exact hb1)
   split at h
   ·-- a first row
    split at h<;>cases h
    rename_i hn0
    subst hn0
    obtain ⟨_,hc0⟩:=ht
    subst hc0
    have hfo:(Builtin.firstCells i.size 0 (.slice A 0 0)).run C.P w.drew=.ok ([]:List Value).toArray w.drew:=by
     cases A with
     | none=>simp[Builtin.firstCells]
     | some ad=>simp[Builtin.firstCells,loadCells,loadCellsFrom]
    have hrun:=run_append_grow_src (P:=C.P) w t tx ty e i zv hu hi hiz A 0 0 [] hfo xv d vals hSrc (by omega) (by omega) (hfit 0 (by omega))
    have hadds:Adds w (w.drew.alloc (.cells (([]++vals).toArray++Builtin.zeroCells zv.cells (grownCap w (0+d) 0 e-(0+d))) e)) (.cells (vals.toArray++(Builtin.zeroCells zv.cells (grownCap w (0+d) 0 e-(0+d))).toList.toArray) e (0,0)):=by
     have:=Adds.drewAlloc w (.cells (([]++vals).toArray++Builtin.zeroCells zv.cells (grownCap w (0+d) 0 e-(0+d))) e (0,0))
     simpa using this
    obtain ⟨G',g1,g2,g3⟩:=y0e (S':={ S with ts:=S.ts++[(d,(sz,e))] }) (k:=S.ts.length) (m:=d) (z:=(sz,e)) (c:=grownCap w (0+d) 0 e) hI hvals hadds rfl (.inl hI.tk_len) hsz0
     (by have:=y0d w (0+d) 0 e;omega) (grownCap_le w _ _ _ (by omega)) hnl (by simp[size_zeroCells,hizs,hisz]) rfl (by simp) (fun j hj=>by
      rcases Nat.lt_or_ge j S.ts.length with h1 | h1
      ·rw[List.getElem?_append_left h1]
      ·rw[List.getElem?_append_right h1,List.getElem?_eq_none h1]
       have:1≤j-S.ts.length:=by omega
       simp;omega)
    refine ⟨G',_,_,hrun,?_,g2,g3⟩
    simpa using g1
   ·-- the token's row
    rename_i k
    split at h<;>cases h
    rename_i hk
    obtain ⟨b,c',m,z',hk1,hle,hk2⟩:=ht
    obtain ⟨q1,q2,q3,q4,q5,⟨cs,e',⟨fz,q6,hfz⟩,q7,qe⟩,q8⟩:=hI.tdom _ _ _ _ _ hk1
    rw[hk]at q1
    cases q1
    have q7:cs.size=c' * sz:=q7
    have hfz:fz.2≤n*sz:=hfz
    have q8:∀ o,G.K b o→o < n*sz:=q8
    obtain ⟨rfl,rfl⟩:=hk2 rfl
    have hheld:∀ j,j < l.length→w.cell? ⟨b,j,none⟩=some (f j):=by
     rcases hh with rfl | ⟨ad,had,hh⟩
     ·intro j hj;simp at hj
     ·cases had
      intro j hj
      simpa using (hh.2 j hj).2
    have hcellsAll:∀ j,j < c*sz→(w.cell? ⟨b,j,none⟩).isSome=true:=by
     intro j hj
     have:j < cs.size:=by omega
     simp[World.cell?,q6,this]
    have hts1:(S.ts.set k (n+d,(sz,e)))[k]?=some (n+d,(sz,e)):=by
     have:=(List.getElem?_eq_some_iff.1 hk).1
     simp[this]
    have hts2:∀ j,j≠k→(S.ts.set k (n+d,(sz,e)))[j]?=S.ts[j]?:=fun j hj=>List.getElem?_set_ne (Ne.symm hj)
    by_cases hroom:n+d≤c
    ·have hcell:∀ j,j < vals.length→(w.cell? ⟨b,0+n*i.size+j,none⟩).isSome=true:=by
      intro j hj
      refine hcellsAll _ ?_
      rw[hvals.1,hnl]at hj
      have:(n+d)*sz≤c*sz:=Nat.mul_le_mul_right _ hroom
      rw[Nat.add_mul]at this
      rw[hisz];omega
     have hfro:∀ j,j < vals.length→w.frozen? ⟨b,0+n*i.size+j,none⟩=false:=by
      intro j hj
      have hge:¬ (0+n*i.size+j < fz.2):=by rw[hisz];omega
      obtain ⟨f1,f2⟩:=fz
      simp only[World.frozen?,q6]
      simp only[Bool.and_eq_false_iff,decide_eq_false_iff_not]
      exact .inr hge
     have hrun:=run_append_room_src (P:=C.P) w t tx ty e i hu hi b 0 n c xv d vals hSrc hroom hcell hfro
     obtain ⟨cs',hcs',hmods⟩:=y1w vals (0+n*i.size) cs w q6
     have hold2:∀ o,o < n*sz→(w.setCells b (0+n*i.size) vals).cell? ⟨b,o,none⟩=w.cell? ⟨b,o,none⟩:=by
      intro o ho
      refine World.cell?_setCells_out b vals _ w ⟨b,o,none⟩ (fun _ _=>.inl ?_)
      simp only;rw[hisz];omega
     have hevo:=Evo.tgrow (m':=n+d) hmods hI hk1 (by omega) hold2
     refine ⟨G.tnew k b c (n+d) (sz,e),_,_,hrun,?_,Inv.tgrow hmods (Nat.le_trans hfz (Nat.mul_le_mul_right _ (by omega))) hI hk1 (by omega) hold2 hroom (by rw[hcs'];exact q7) qe rfl hts1 hts2,hevo⟩
     refine VR.ofHeld hroom ((hold.append hvals).mono hevo).getD (fun j hj=>?_) ⟨b,c,n+d,(sz,e),upd_same _ _ _,Nat.le_refl _,fun _=>⟨rfl,rfl⟩⟩
     refine ⟨.inr ⟨rfl,by simp[hlen,hnl]at hj;rw[Nat.add_mul];omega⟩,?_⟩
     by_cases hjl:j < l.length
     ·rw[hold2 j (by omega),hheld j hjl]
      simp[List.getD_eq_getElem?_getD,List.getElem?_append,hjl]
     ·have hj2:j-l.length < vals.length:=by rw[hvals.1];simp at hj;omega
      have:=World.cell?_setCells_in b vals (0+n*i.size) w hcell (j-l.length) hj2
      rw[show 0+n*i.size+(j-l.length)=j by rw[hisz];omega]at this
      rw[this]
      simp[List.getD_eq_getElem?_getD,List.getElem?_append,hjl,hj2]
    ·have hfo:(Builtin.firstCells i.size n (.slice (some ⟨b,0,none⟩) n c)).run C.P w.drew=.ok ((List.range l.length).map f).toArray w.drew:=by
      refine run_firstCells_some w.drew i.size n ⟨b,0,none⟩ n c _ (by simp[hisz,hlen]) (fun j v hj=>?_)
      simp only[List.getElem?_map,Option.map_eq_some_iff]at hj
      obtain ⟨y,hy,rfl⟩:=hj
      have hlt:=(List.getElem?_eq_some_iff.1 hy).1
      have hij:=(List.getElem?_eq_some_iff.1 hy).2
      simp at hlt hij
      subst hij
      rw[Addr.add_lit,Nat.zero_add]
      exact hheld j hlt
     have hrun:=run_append_grow_src (P:=C.P) w t tx ty e i zv hu hi hiz (some ⟨b,0,none⟩) n c _ hfo xv d vals hSrc (by omega) (by omega) (hfit c (by omega))
     have hadds:Adds w (w.drew.alloc (.cells ((((List.range l.length).map f)++vals).toArray++Builtin.zeroCells zv.cells (grownCap w (n+d) c e-(n+d))) e)) (.cells ((((List.range l.length).map f)++vals).toArray++(Builtin.zeroCells zv.cells (grownCap w (n+d) c e-(n+d))).toList.toArray) e (0,0)):=by
      have:=Adds.drewAlloc w (.cells ((((List.range l.length).map f)++vals).toArray++Builtin.zeroCells zv.cells (grownCap w (n+d) c e-(n+d))) e (0,0))
      simpa using this
     obtain ⟨G',g1,g2,g3⟩:=y0e (S':={ S with ts:=S.ts.set k (n+d,(sz,e)) }) (k:=k) (m:=n+d) (z:=(sz,e)) (c:=grownCap w (n+d) c e) hI (hold.append hvals) hadds rfl (.inr ⟨b,c,n,hk1,by omega⟩) hsz0
      (y0d w _ _ _) (grownCap_le w _ _ _ (by omega)) (by simp[hlen,hnl,Nat.add_mul]) (by simp[size_zeroCells,hizs,hisz]) rfl hts1 hts2
     exact ⟨G',_,_,hrun,g1,g2,g3⟩
   ·cases h
end
end Go.Ev
namespace Go.Ev
open Go.RowKit

section
variable {C:Cx}{G:Gh}{w:World}{S:St}

theorem y5e (hI:Inv G w S){t e:TypeId}{sz by':Nat}{z:List AV}{n c:Int}(hu:C.P.underlying t=some (.slice e))(hsz:szT C e=some (sz+1))(hby:byT C e=some by')(hz:z4p C e=some z)
  (h0:0≤n) (h1:n≤c) (h2:c*by'≤140737488355328) (h3:c≤140737488355328) :
  ∃ G' w' v,(Instr.makeSlice t (.int .i64 n) (.int .i64 c)).run C.P w=.ok v w'∧VR G' w' (.row S.hs.length 0 n.toNat c.toNat) v∧Inv G' w' (S.push (.cells (z3u z c.toNat) e))∧Evo G w G' w':=by
 obtain ⟨i,zv,hi,hiz,hizs,hzl⟩:=z5a (G:=G) (w:=w) hz
 have hisz:i.size=sz+1:=by
  have:(C.P.info? e).map (·.size)=some (sz+1):=hsz
  simp[hi]at this;exact this
 have hiby:i.bytes=by':=by
  have:(C.P.info? e).map (·.bytes)=some by':=hby
  simp[hi]at this;exact this
 have hzlen:z.length=sz+1:=by rw[← hzl.1,hizs,hisz]
 have wc:IntKind.i64.wrap c=c:=by
  simp[IntKind.wrap,IntKind.bits,IntKind.signed];omega
 have wn:IntKind.i64.wrap n=n:=by
  simp[IntKind.wrap,IntKind.bits,IntKind.signed];omega
 have hrun:(Instr.makeSlice t (.int .i64 n) (.int .i64 c)).run C.P w=.ok (.slice (some ⟨w.heap.size,0,none⟩) n.toNat c.toNat)
   (w.alloc (.cells ((Array.range (c.toNat*(sz+1))).map ((if c.toNat*(sz+1)=0 then #[] else zv.cells)[· % (if c.toNat*(sz+1)=0 then #[] else zv.cells).size]!)) e)):=by
  have hmul:(by':Int)*c=c*by':=Int.mul_comm _ _
  have b1:¬ (c < 0):=by omega
  have b2:¬ (281474976710656 < (by':Int)*c):=by rw[hmul];omega
  have b3:¬ (n < 0):=by omega
  have b4:¬ (c < n):=by omega
  rcases Nat.eq_zero_or_pos (c.toNat*(sz+1)) with hq | hq
  ·simp[Instr.makeSlice,run_underlying hu,asInt,asIntOf,typeInfo,hi,wc,wn,hiby,b1,b2,b3,b4,sizeOf,hisz,hq,newRow]
  ·have hq':¬ (c.toNat=0):=by intro e;simp[e]at hq
   have hq2:¬ (c≤0):=by omega
   simp[Instr.makeSlice,run_underlying hu,asInt,asIntOf,typeInfo,hi,wc,wn,hiby,b1,b2,b3,b4,sizeOf,hisz,hq2,newRow,zeroValue,hiz]
   have hq3:¬ (c.toNat*(sz+1)=0):=Nat.ne_of_gt hq
   simp only[if_neg hq3]
 have hvl:VL G w (z3u z c.toNat) ((Array.range (c.toNat*(sz+1))).map ((if c.toNat*(sz+1)=0 then #[] else zv.cells)[· % (if c.toNat*(sz+1)=0 then #[] else zv.cells).size]!)):=by
  rcases Nat.eq_zero_or_pos (c.toNat*(sz+1)) with hq | hq
  ·refine ⟨by simp[z3u,hzlen],fun j x hx=>?_⟩
   simp[z3u,hzlen,hq]at hx
  ·rw[if_neg (by omega)]
   have:=y6v hzl c.toNat
   rwa[hzlen]at this
 have ha:=Adds.alloc w (.cells ((Array.range (c.toNat*(sz+1))).map ((if c.toNat*(sz+1)=0 then #[] else zv.cells)[· % (if c.toNat*(sz+1)=0 then #[] else zv.cells).size]!)) e (0,0))
 exact ⟨_,_,_,hrun,.row _ _ _ _ _ (upd_same _ _ _) (by omega),Inv.push ha hI (.cells _ e _ hvl.1 hvl.2),Evo.bind ha hI hI.σ_len⟩

theorem y6z {k v:AV}:∀ {es:List (AV×AV)},z4t k es=none→z08 k v es=es++[(k,v)]
 | [],_=>rfl
 | (k',v')::es,h=>by
  simp only[z4t]at h
  simp only[z08]
  split at h
  ·cases h
  ·rename_i hn;rw[if_neg hn,y6z h];rfl
theorem x4b {α:Type}{l p:List α}(h:p.Perm l){i j:Nat}{e:α}(hi:l[i]?=some e)(hj:p[j]?=some e)(x:α):(p.set j x).Perm (l.set i x):=by
 have key:∀ {l:List α} {i:Nat} (x:α),i < l.length→(l.set i x).Perm (x::l.eraseIdx i):=by
  intro l
  induction l with
  | nil=>intro i x h;simp at h
  | cons a l ih =>
   intro i x h
   cases i with
   | zero=>simp
   | succ i =>
    simp only[List.set_cons_succ,List.eraseIdx_cons_succ]
    exact ((ih x (by simpa using h)).cons a).trans (.swap x a _)
 have hil:=(List.getElem?_eq_some_iff.1 hi).1
 have hjl:=(List.getElem?_eq_some_iff.1 hj).1
 have e1:l.set i e=l:=by
  apply List.ext_getElem?
  intro n
  rw[List.getElem?_set]
  split
  ·rename_i q;subst q;first | (rw[if_pos hil,hi];done) | (rw[hi];done) | simp_all
  ·rfl
 have e2:p.set j e=p:=by
  apply List.ext_getElem?
  intro n
  rw[List.getElem?_set]
  split
  ·rename_i q;subst q;first | (rw[if_pos hjl,hj];done) | (rw[hj];done) | simp_all
  ·rfl
 have h1:(e::p.eraseIdx j).Perm (e::l.eraseIdx i):=by
  have q1:=key (l:=p) e hjl
  have q2:=key (l:=l) e hil
  rw[e2]at q1
  rw[e1]at q2
  exact q1.symm.trans (h.trans q2)
 exact (key x hjl).trans (((h1.cons_inv).cons x).trans (key x hil).symm)
theorem y9m {d:TypeDesc}{k:AV}{kv:Value}(hk:z14 d k=true)(hr:VR G w k kv):(Instr.keyThatStays kv kv).run C.P w=.ok kv w:=by
 cases k<;>cases d<;>simp[z14]at hk
 ·cases hr;exact MapKept.run_keyThatStays (d:=.int _) rfl
 ·cases hr;exact MapKept.run_keyThatStays (d:=.bool) trivial
 ·cases hr;exact MapKept.run_keyThatStays (d:=.string) trivial
theorem z9j (hI:Inv G w S){t kt et:TypeId}{h:Nat}{es:List (AV×AV)}{kd:TypeDesc}{k v:AV}(hu:C.P.underlying t=some (.map kt et))(hs:S.hs[h]?=some (some (.map es)))(hkd:C.P.underlying kt=some kd)
  (hk1:z14 kd k=true) (hk2:es.all (fun x=>z09 k x.1)=true) {m kv vv:Value} (hm:VR G w (.mp h) m) (hk:VR G w k kv) (hv:VR G w v vv) :
  ∃ w',(Instr.mapUpdate t m kv vv).run C.P w=.ok () w'∧Inv G w' (S.put h (.map (z08 k v es)))∧Evo G w G w':=by
 cases hm with
 | mp _ b hb =>
  obtain ⟨b',o,h1,h2,h3⟩:=hI.blk _ _ hs
  rw[hb]at h1;cases h1
  cases h3 with
  | map _ ms clock p hp hsz hst hms =>
   have hget:(getObj b).run C.P w=.ok (.map ms clock) w:=by simp[getObj,Sem.run,h2]
   have hck:=y0y (C:=C) (e:=false) hkd hk1 hk
   have hfA:=y4v hk es p hsz hms hk2
   have hfN:=y0f hk1 hk ms.toList 0 (y39 hp hsz hms hk2)
   cases hk3:z4t k es with
   | none =>
    rw[hk3]at hfA
    have hf:Instr.findNow kd kv ms.toList 0=some none:=by
     rcases hfN with ⟨j,e0,f1,f2,f3⟩ | ⟨f1,f2⟩
     ·exact absurd f3 (hfA e0 (hp.mem_iff.2 (List.mem_of_getElem? f2)))
     ·exact f1
    have hmods:=Mods.setObj (.map (ms.push { key:=kv,val:=vv,born:=clock }) (clock+1)) (hI.blk_lt hb)
    rw[y6z hk3]
    refine ⟨_,?_,Inv.put hmods hI hb (.map _ _ _ (p++[{ key:=kv,val:=vv,born:=clock }]) (by rw[Array.toList_push];exact hp.append_right _) (by simp[hsz]) (MapKept.stamped_push hst fun x hx=>hfA x (hp.mem_iff.2 hx)) fun i k' v' hi=>?_),Evo.mods hmods hI hb⟩
    ·simp[Instr.mapUpdate,run_underlying hu,hget,hck,Instr.findKey,run_underlying hkd,hf,setObj,Sem.run,h2]
    ·rcases Nat.lt_or_ge i es.length with hlt | hge
     ·rw[List.getElem?_append_left hlt]at hi
      obtain ⟨m',g1,g2⟩:=hms i k' v' hi
      exact ⟨m',by rw[List.getElem?_append_left (by omega)];exact g1,g2⟩
     ·rw[List.getElem?_append_right hge]at hi
      have hi0:i-es.length=0:=by
       rcases Nat.eq_zero_or_pos (i-es.length) with h0 | h0
       ·exact h0
       ·rw[List.getElem?_eq_none (by simp;omega)]at hi;cases hi
      rw[hi0]at hi
      simp at hi
      obtain ⟨rfl,rfl⟩:=hi
      exact ⟨{ key:=kv,val:=vv,born:=clock },by rw[List.getElem?_append_right (by omega),show i-p.length=0 by omega];rfl,hk,hv⟩
   | some a =>
    rw[hk3]at hfA
    obtain ⟨i0,m0,g1,g2,g3,g4,g5⟩:=hfA
    obtain ⟨j,f1,f2⟩:∃ j,Instr.findNow kd kv ms.toList 0=some (some (j,m0.val))∧ms.toList[j]?=some m0:=by
     rcases hfN with ⟨j,e0,f1,f2,f3⟩ | ⟨f1,f2⟩
     ·have hme:m0=e0:=y2b hst (hp.mem_iff.1 (List.mem_of_getElem? g1)) (List.mem_of_getElem? f2) (g2.trans f3.symm)
      subst hme
      exact ⟨j,by rw[Nat.zero_add]at f1;exact f1,f2⟩
     ·exact absurd g2 (f2 m0 (hp.mem_iff.1 (List.mem_of_getElem? g1)))
    have hm0:ms[j]?=some m0:=by simpa using f2
    have hmods:=Mods.setObj (.map (ms.modify j (fun e=>{ e with key:=kv,val:=vv })) clock) (hI.blk_lt hb)
    have hstay:(Instr.keyThatStays kv kv).run C.P w=.ok kv w:=y9m hk1 hk
    have hold:((ms[j]?).map (·.key)).getD kv=kv:=by rw[hm0];exact g2
    have hml:(ms.modify j (fun e=>{ e with key:=kv,val:=vv })).toList=ms.toList.set j { m0 with key:=kv,val:=vv }:=by
     apply List.ext_getElem?
     intro n
     rw[List.getElem?_set,Array.getElem?_toList,Array.getElem?_modify]
     split
     ·rename_i q
      subst q
      rw[hm0,if_pos (by simpa using (Array.getElem?_eq_some_iff.1 hm0).1)];rfl
     ·simp
    rw[g5]
    refine ⟨_,?_,Inv.put hmods hI hb (.map _ _ _ (p.set i0 { m0 with key:=kv,val:=vv }) (by rw[hml];exact x4b hp f2 g1 _) (by simp[hsz]) (MapKept.stamped_modify hst j _ (fun _ _=>rfl) (fun e _ he=>by rw[hm0]at he;cases he;exact g2.symm)) fun i k' v' hi=>?_),Evo.mods hmods hI hb⟩
    ·simp[Instr.mapUpdate,run_underlying hu,hget,hck,Instr.findKey,run_underlying hkd,f1,hold,hstay,setObj,Sem.run,h2]
    ·rw[List.getElem?_set]at hi
     split at hi
     ·rename_i e
      subst e
      cases hi
      exact ⟨{ m0 with key:=kv,val:=vv },by rw[List.getElem?_set_self (by omega)],hk,hv⟩
     ·rename_i e
      obtain ⟨m',q1,q2⟩:=hms i k' v' hi
      exact ⟨m',by rw[List.getElem?_set_ne e];exact q1,q2⟩

theorem y45 (hI:Inv G w S){ev:Operand→AV}{ρ:Operand→Value}(hρ:∀ x,VR G w (ev x) (ρ x))(o:Oper){a:AV}{S':St}(h:stOp C S ev o.op=some (a,S')) :
  ∃ G' w' r,(execOp ρ o).run C.P w=.ok r w'∧((∃ v,r=.value v∧VR G' w' a v)∨(r=.skip∧a=.bad))∧Inv G' w' S'∧Evo G w G' w':=by
 unfold stOp at h
 split at h
 ·rename_i t ho
  split at h<;>cases h
  rename_i z hz
  obtain ⟨G',w',v,h1,h2,h3,h4⟩:=y91 hI hz
  exact ⟨G',w',.value v,by simp[execOp,ho,h1],.inl ⟨v,rfl,h2⟩,h3,h4⟩
 ·rename_i t x ho
  split at h<;>cases h
  rename_i hone
  obtain ⟨G',w',v,h1,h2,h3,h4⟩:=x3h (C:=C) (t:=t) hI hone (hρ x)
  exact ⟨G',w',.value v,by simp[execOp,ho,h1],.inl ⟨v,rfl,h2⟩,h3,h4⟩
 ·rename_i t p x ho
  split at h<;>try cases h
  rename_i hh off hp
  split at h<;>try cases h
  rename_i l bt hb
  split at h<;>cases h
  rename_i l' hw
  obtain ⟨w',h1,h2,h3⟩:=y9l hI hb hw (by have:=hρ p;rwa[hp]at this) (hρ x)
  exact ⟨G,w',.skip,by simp[execOp,ho,h1],.inr ⟨rfl,rfl⟩,h2,h3⟩
 ·rename_i t len parts ho
  split at h<;>cases h
  rename_i l sze hl
  obtain ⟨sz,e⟩:=sze
  obtain ⟨cs,q1,q2,q3,q4,q5⟩:=z9q (G:=G) (w:=w) hl (parts.map fun (i,x)=>(i,ρ x)) (by simp) (fun i p hp=>by
   simp only[List.getElem?_map,Option.map_eq_some_iff]at hp
   obtain ⟨q,hq,rfl⟩:=hp
   exact ⟨ρ q.2,by simp at hq;simp[hq],hρ q.2⟩)
  have hadds:Adds w (w.alloc (.cells cs e (0,0))) (.cells (cs.toList.toArray++([]:List Value).toArray) e (0,0)):=by
   have:=Adds.alloc w (.cells cs e (0,0))
   simpa using this
  have hvs:VRs G w l cs.toList:=by
   refine ⟨by simpa using q4.1,fun i a ha=>?_⟩
   have hlt:=(List.getElem?_eq_some_iff.1 ha).1
   have hlt2:i < cs.size:=by rw[q4.1];exact hlt
   have:=q4.2 i a ha
   exact ⟨cs[i],by simp[hlt2],by simpa[Array.getD,hlt2] using this⟩
  obtain ⟨G',g1,g2,g3⟩:=y0e (S':={ S with ts:=S.ts++[(len,(sz,e))] }) (k:=S.ts.length) (m:=len) (z:=(sz,e)) (c:=len) hI hvs hadds rfl (.inl hI.tk_len) q1
   (Nat.le_refl _) (by simp only[maxLen];omega) q2 (by simp) rfl (by simp) (fun j hj=>by
    rcases Nat.lt_or_ge j S.ts.length with h1 | h1
    ·rw[List.getElem?_append_left h1]
    ·rw[List.getElem?_append_right h1,List.getElem?_eq_none h1]
     have:1≤j-S.ts.length:=by omega
     simp;omega)
  exact ⟨G',_,.value _,by simp[execOp,ho,q5],.inl ⟨_,rfl,g1⟩,g2,g3⟩
 ·rename_i t n c ho
  split at h<;>try cases h
  rename_i e hu
  split at h<;>try cases h
  rename_i sz by' z nn cc hsz hby hz hn hc
  split at h<;>cases h
  rename_i hcond
  obtain ⟨c1,c2,c3,c4⟩:=hcond
  obtain ⟨G',w',v,h1,h2,h3,h4⟩:=y5e hI hu hsz hby hz c1 c2 c3 c4
  have e1:=hρ n;rw[hn]at e1
  have e2:=hρ c;rw[hc]at e2
  exact ⟨G',w',.value v,by simp[execOp,ho,e1.int_inv,e2.int_inv,h1],.inl ⟨v,rfl,h2⟩,h3,h4⟩
 ·rename_i t r ho
  split at h<;>cases h
  have ha:=Adds.alloc w (.map #[] 0)
  refine ⟨_,_,.value (.map (some w.heap.size)),?_,.inl ⟨_,rfl,.mp _ _ (upd_same _ _ _)⟩,Inv.push ha hI (.map [] #[] 0 [] (by simp) rfl (MapKept.stamped_empty 0) (by simp)),Evo.bind ha hI hI.σ_len⟩
  simp[execOp,ho,Instr.makeMap]
 ·rename_i t m k v ho
  split at h<;>try cases h
  rename_i kt et hu
  split at h<;>try cases h
  rename_i hh hm
  split at h<;>try cases h
  rename_i es kd hs hkd
  split at h<;>cases h
  rename_i hc
  obtain ⟨w',h1,h2,h3⟩:=z9j hI hu hs hkd hc.1 hc.2 (by have:=hρ m;rwa[hm]at this) (hρ k) (hρ v)
  exact ⟨G,w',.skip,by simp[execOp,ho,h1],.inr ⟨rfl,rfl⟩,h2,h3⟩
 ·rename_i t m k v ho
  split at h<;>try cases h
  rename_i kt et hu
  split at h<;>try cases h
  rename_i hh hm
  split at h<;>try cases h
  rename_i es kd hs hkd
  split at h<;>cases h
  rename_i hc
  obtain ⟨w',h1,h2,h3⟩:=z9j hI hu hs hkd hc.1 hc.2 (by have:=hρ m;rwa[hm]at this) (hρ k) (hρ v)
  exact ⟨G,w',.skip,by simp[execOp,ho,h1],.inr ⟨rfl,rfl⟩,h2,h3⟩
 ·rename_i t x ho
  split at h<;>try cases h
  rename_i hu
  split at h<;>cases h
  rename_i s hs
  have e1:=hρ x;rw[hs]at e1
  have ha:=Adds.alloc w (.stringIter ⟨s.toArray⟩ 0)
  refine ⟨_,_,.value (.pointer (some ⟨w.heap.size,0,none⟩)),?_,.inl ⟨_,rfl,.ptr _ _ _ (upd_same _ _ _)⟩,Inv.push ha hI (.iter s 0),Evo.bind ha hI hI.σ_len⟩
  simp[execOp,ho,e1.str_inv,Instr.range,run_underlying hu]
 ·rename_i it isStr ho
  split at h<;>try cases h
  rename_i hh hit
  split at h<;>try cases h
  rename_i s pos hs
  split at h<;>try cases h
  rename_i hstr
  subst hstr
  have e1:=hρ it;rw[hit]at e1
  generalize hv:ρ it=v at e1
  cases e1 with
  | ptr _ _ b hb =>
   obtain ⟨b',o',h1,h2,h3⟩:=hI.blk _ _ hs
   rw[hb]at h1;cases h1
   cases h3
   have hget:(getObj b).run C.P w=.ok (.stringIter ⟨s.toArray⟩ pos) w:=by simp[getObj,Sem.run,h2]
   have hsize:(⟨s.toArray⟩:ByteArray).size=s.length:=by simp[ByteArray.size]
   split at h
   ·rename_i hlt
    cases h
    have hmods:=Mods.setObj (.stringIter ⟨s.toArray⟩ (pos+(Utf8.decode ⟨s.toArray⟩ pos).2)) (hI.blk_lt hb)
    refine ⟨G,_,.value (.tuple #[.bool true,.int .i64 pos,.int .i32 (Utf8.decode ⟨s.toArray⟩ pos).1]),?_,.inl ⟨_,rfl,.tup _ _ rfl fun i z hz=>?_⟩,Inv.put hmods hI hb (.iter s _),Evo.mods hmods hI hb⟩
    ·simp[execOp,ho,hv,Instr.next,hget,hsize,hlt,setObj,Sem.run,h2,goInt]
    ·match i,hz with
     | 0,hz=>simp at hz;subst hz;exact .bool _
     | 1,hz=>simp at hz;subst hz;exact .int _ _
     | 2,hz=>simp at hz;subst hz;exact .int _ _
     | i+3,hz=>simp at hz
   ·rename_i hlt
    cases h
    refine ⟨G,w,.value (.tuple #[.bool false]),?_,.inl ⟨_,rfl,.tup _ _ rfl fun i z hz=>?_⟩,hI,Evo.refl _ _⟩
    ·simp[execOp,ho,hv,Instr.next,hget,hsize,hlt]
    ·match i,hz with
     | 0,hz=>simp at hz;subst hz;exact .bool _
     | i+1,hz=>simp at hz
 ·rename_i src dst x ho
  split at h<;>try cases h
  rename_i e hus hud
  split at h<;>try cases h
  rename_i hue
  split at h<;>cases h
  rename_i s hs
  have e1:=hρ x;rw[hs]at e1
  have hrun:=run_bytes_of_string (P:=C.P) w src dst e ⟨s.toArray⟩ hus hud hue
  have hsize:(⟨s.toArray⟩:ByteArray).size=s.length:=by simp[ByteArray.size]
  have ha:=Adds.drewAlloc w (.cells (bytesRow ⟨s.toArray⟩ (grownCap w (⟨s.toArray⟩:ByteArray).size 0 e)) e ((bytesRow ⟨s.toArray⟩ (grownCap w (⟨s.toArray⟩:ByteArray).size 0 e)).size,(bytesRow ⟨s.toArray⟩ (grownCap w (⟨s.toArray⟩:ByteArray).size 0 e)).size+1))
  refine ⟨G.keep w.heap.size s.length,_,.value _,by simp only[execOp,ho,e1.str_inv,Sem.run_bind,hrun,Result.andThen];rfl,.inl ⟨_,rfl,?_⟩,Inv.keep ha hI _,Evo.keep ha hI _⟩
  rw[hsize]
  refine VR.ofHeld (f:=fun i=>.int .u8 ((s.getD i 0).toNat:Nat)) (by have:=y0d w s.length 0 e;omega) (fun i z hz=>?_) (fun i hi=>⟨.inr ⟨rfl,by simpa using hi⟩,?_⟩) trivial
  ·simp only[List.getElem?_map,Option.map_eq_some_iff]at hz
   obtain ⟨b,hb,rfl⟩:=hz
   simp only[List.getD_eq_getElem?_getD,hb]
   exact .int _ _
  ·have hi:i < s.length:=by simpa using hi
   have hnew:=ha.new
   simp only[World.cell?]
   rw[hsize]at hnew
   rw[hnew]
   simp[bytesRow,hi,List.getD_eq_getElem?_getD]
   rw[Array.getElem?_append_left (by simpa using hi)]
   simp[hi]
 ·rename_i c ho
  split at h<;>try cases h
  rename_i hcal
  split at h<;>try cases h
  rename_i s x t tx hx ht
  obtain ⟨G',w',v,h1,h2,h3,h4⟩:=z8l hI h (hρ s) (hρ x) o.type
  have ha:c.args=#[s,x]:=by apply Array.ext';simpa using hx
  have hb:c.argTypes=#[t,tx]:=by apply Array.ext';simpa using ht
  exact ⟨G',w',.value v,by simp[execOp,ho,resolve,hcal,invoke,builtin,ha,hb,h1],.inl ⟨v,rfl,h2⟩,h3,h4⟩
 ·cases h
end
end Go.Ev
namespace Go.Ev
open Go.RowKit

abbrev WF (r:Option Nat):Fence:={ Fence.wide with round:=r }

def EndR (G:Gh)(w:World):CR→Ending→Prop
 | .ret a,e=>∃ v,e=.returned v∧VR G w a v
 | .pan a,e=>∃ v,e=.panicked [{ v,recovered:=false }]∧VR G w a v
def ExR (G:Gh)(w:World):EX→Exit→Prop
 | .normal,e=>e=.normal
 | .exit i,e=>e=.exit i
 | .ret,e=>e=.ret
 | .pan a,e=>∃ v,e=.panic [{ v,recovered:=false }]∧VR G w a v
def z6h (G:Gh)(w:World)(r:CR)(S':St)(e:Ending)(w':World):Prop:=∃ G',Inv G' w' S'∧Evo G w G' w'∧EndR G' w' r e
def CodePost (ds:List Deferred)(G:Gh)(w:World)(x:EX)(env':Env)(S':St)(e:Exit)(a':Act)(w':World):Prop :=
 ∃ G',Inv G' w' S'∧Evo G w G' w'∧ER G' w' env' a'∧a'.defers=ds∧ExR G' w' x e

def CallOk (C:Cx)(f:FuncId)(args:List AV)(S:St)(r:CR)(S':St):Prop :=
 ∀ G w (as:List Value),Inv G w S→GtR C G w→VRs G w args as→Calls C.P f as.toArray w (z6h G w r S')

structure CxOk (C:Cx):Prop where
 eqt:EqtOk C
 hk:∀ (g:FuncId) (f:List AV→St→Option (CR×St)),C.hk g=some f→∀ args S r S',f args S=some (r,S')→(∃ (fn:Func) (c:Code),C.P.funcs[g]?=some fn∧fn.body=some c)∧CallOk C g args S r S'
 codes:∀ (g:Nat) (fn:Func) (c:Code),C.P.funcs[g]?=some fn→fn.body=some c→okC c=true
 nat:∀ (g:FuncId) (args:List AV) (v:AV),C.nat g args=some v→∀ G w (as:List Value),VRs G w args as→∃ u,(callFunc g as.toArray).run C.P w=.ok (.value u) w∧VR G w v u
 mixed:C.P.follows .mixedOrders=true
 names : ∀ (g : Nat) (fn : Func) (c : Code), C.P.funcs[g]? = some fn → fn.body = some c → (fn.name == "runtime.NumGoroutine") = false

structure SelfOk (C:Cx) (sf:Self):Prop where
 call:∀ (g:FuncId) args S r S',sf.call g args S=some (r,S')→(∃ (fn:Func) (c:Code),C.P.funcs[g]?=some fn∧fn.body=some c)∧CallOk C g args S r S'
 loop:∀ c env S x env' S',okC c=true→sf.loop c env S=some (x,env',S')→∃ m,∀ rd n ds G w a,Inv G w S→GtR C G w→ER G w env a→a.defers=ds →
  Code.roundsIn (WF rd) n C.P c (CodePost ds G w x env' S') m a w

theorem y1o {P:Program}{f:FuncId}{args:Array Value}{w:World}{R:Ending→World→Prop}(rd:Option Nat)(n:Nat)(h:Calls P f args w R):CallsIn (WF rd) n P f args w R :=
 ⟨trivial,fun cs _=>let ⟨e,w',fr,r,s,x⟩:=h cs; ⟨e,w',fr,r,comesIn_wide.2 s,x⟩⟩

section
variable {C:Cx}{self:Self}

theorem x45 (hC:CxOk C)(hs:SelfOk C self){g:FuncId}{args:List AV}{S:St}{r:CR}{S':St}(h:y3p C self g args S=some (r,S')) :
  (∃ (fn:Func) (c:Code),C.P.funcs[g]?=some fn∧fn.body=some c)∧CallOk C g args S r S':=by
 unfold y3p at h
 split at h
 ·rename_i f hf;exact hC.hk g f hf args S r S' h
 ·exact hs.call g args S r S' h

def After (G:Gh)(w:World)(r:CR)(S':St)(dst:Option Tmp)(a:Act)(next:Act→World→Prop)(Q:Exit→Act→World→Prop):Prop :=
 match r with
 | .ret v=>∀ G' w' x,Inv G' w' S'→Evo G w G' w'→VR G' w' v x→next (a.put dst x) w'
 | .pan v=>∀ G' w' x,Inv G' w' S'→Evo G w G' w'→VR G' w' v x→Q (.panic [{ v:=x,recovered:=false }]) a w'

theorem z8d (hC:CxOk C)(hs:SelfOk C self){G:Gh}{w:World}{S:St}(hI:Inv G w S)(hg:GtR C G w){ev:Operand→AV}{a:Act}(hρ:∀ x,VR G w (ev x) (a.eval x))(o:Oper){r:CR}{S':St}
  (h:opA C self S ev o.op=some (r,S')) (rd:Option Nat) (n:Nat) {next:Act→World→Prop} {Q:Exit→Act→World→Prop} (hnext:After G w r S' o.dst a next Q):o.wpIn (WF rd) n C.P a w next Q:=by
 have plain:(∀ c,o.op≠.defer c)→∀ (a1:AV),z01 C S ev o.op=some a1→r=.ret a1→S'=S→o.wpIn (WF rd) n C.P a w next Q:=by
  intro hd a1 hp hr hS
  subst hr;subst hS
  obtain ⟨v,h1,h2⟩:=y2h hC.eqt hI hρ o hp
  refine ⟨fun _ _=>trivial,?_⟩
  rw[Oper.semAt_eq _ _ _ hd,h2]
  exact hnext G w v hI (Evo.refl _ _) h1
 have mem:(∀ c,o.op≠.defer c)→∀ (a1:AV),stOp C S ev o.op=some (a1,S')→r=.ret a1→o.wpIn (WF rd) n C.P a w next Q:=by
  intro hd a1 hp hr
  subst hr
  obtain ⟨G',w',x,h1,h2,h3,h4⟩:=y45 hI hρ o hp
  refine ⟨fun _ _=>trivial,?_⟩
  rw[Oper.semAt_eq _ _ _ hd,h1]
  rcases h2 with ⟨v,rfl,hv⟩ | ⟨rfl,rfl⟩
  ·exact hnext G' w' v h3 h4 hv
  ·exact hnext G' w' undef h3 h4 (.bad _)
 unfold opA at h
 split at h
 ·rename_i c ho
  have hd:∀ c,o.op≠.defer c:=by intro c' e;rw[ho]at e;cases e
  split at h
  ·rename_i f hcal
   split at h<;>try cases h
   rename_i g x y hf
   have hfv:=hρ f;rw[hf]at hfv
   generalize hv:a.eval f=v at hfv
   cases hfv with
   | fn _ _ _ as bs h1 h2 h3 h4 =>
    have hargs:VRs G w (x++c.args.toList.map ev++y) (as.toList++c.args.toList.map a.eval++bs.toList):=by
     refine VRs.append (VRs.append ⟨by simpa using h1,fun i z hz=>?_⟩ (getElem?_map_VR hρ c.args)) ⟨by simpa using h2,fun i z hz=>?_⟩
     ·have hlt:=(List.getElem?_eq_some_iff.1 hz).1
      have hlt2:i < as.size:=by rw[h1];exact hlt
      exact ⟨as[i],by simp[hlt2],by simpa[Array.getD,hlt2] using h3 i z hz⟩
     ·have hlt:=(List.getElem?_eq_some_iff.1 hz).1
      have hlt2:i < bs.size:=by rw[h2];exact hlt
      exact ⟨bs[i],by simp[hlt2],by simpa[Array.getD,hlt2] using h4 i z hz⟩
    have earr:(as.toList++c.args.toList.map a.eval++bs.toList).toArray=as++c.args.map a.eval++bs:=by apply Array.ext';simp
    unfold z7z at h
    split at h
    ·rename_i u hnat
     cases h
     obtain ⟨uu,n1,n2⟩:=hC.nat g _ u hnat G w _ hargs
     rw[earr]at n1
     refine ⟨fun _ _=>trivial,?_⟩
     rw[Oper.semAt_eq _ _ _ hd]
     have hrun:(execOp a.eval o).run C.P w=.ok (.value uu) w:=by
      simp[execOp,ho,resolve,hcal,hv,Deferred.ofValue,invoke]
      rw[Array.append_assoc]at n1
      exact n1
     rw[hrun]
     exact hnext G w uu hI (Evo.refl _ _) n2
    obtain ⟨⟨fn,cd,hfn,hbody⟩,hcall⟩:=x45 hC hs h
    have hc:=hcall G w _ hI hg hargs
    rw[earr]at hc
    refine ⟨fun _ _=>trivial,?_⟩
    rw[Oper.semAt_eq _ _ _ hd]
    have hnm:=hC.names g fn cd hfn hbody
    have hrun:(execOp a.eval o).run C.P w=.ok (.enter g (as++c.args.map a.eval++bs)) w:=by
     simp[execOp,ho,resolve,hcal,hv,Deferred.ofValue,invoke,callFunc,hfn,hbody,hnm]
     intro e;rw[e]at hnm;simp at hnm
    rw[hrun]
    refine ⟨fun h=>(by simp[Fence.wide]at h),(y1o rd (n-1) hc).mono fun e w' he=>?_⟩
    obtain ⟨G',g1,g2,g3⟩:=he
    cases r with
    | ret v=>obtain ⟨u,rfl,hu⟩:=g3;exact hnext G' w' u g1 g2 hu
    | pan v=>obtain ⟨u,rfl,hu⟩:=g3;exact hnext G' w' u g1 g2 hu
  ·split at h
   ·rename_i v hp
    cases h
    exact plain hd v (by rw[ho];exact hp) rfl rfl
   ·split at h<;>cases h
    rename_i v hp
    exact mem hd v (by rw[ho];exact hp) rfl
 ·rename_i x ho
  have hd:∀ c,o.op≠.defer c:=by intro c' e;rw[ho]at e;cases e
  split at h<;>cases h
  rename_i t v hx
  have hv:=hρ x;rw[hx]at hv
  generalize hw:a.eval x=u at hv
  cases hv with
  | ifc _ _ q hq =>
   refine ⟨fun _ _=>trivial,?_⟩
   rw[Oper.semAt_eq _ _ _ hd]
   have hrun:(execOp a.eval o).run C.P w=.halt (.panic (.iface t q)) w:=by
    simp[execOp,ho,hw,Instr.panic]
   rw[hrun]
   exact hnext G w _ hI (Evo.refl _ _) (.ifc t v q hq)
 ·rename_i n1 n2
  by_cases hdf:∃ c,o.op=.defer c
  ·obtain ⟨c,hdf⟩:=hdf
   rw[hdf]at h
   simp[z01,stOp]at h
  ·have hd:∀ c,o.op≠.defer c:=fun c e=>hdf ⟨c,e⟩
   split at h
   ·rename_i v hp
    cases h
    exact plain hd v hp rfl rfl
   ·split at h<;>cases h
    rename_i v hp
    exact mem hd v hp rfl

theorem y0n {ops:Array Oper}{env:Env}{G:Gh}{w:World}{a:Act}(hsz:a.tmps.size=env.length){o:Oper}(he:∀ d x,(∃ g b,o.guard=some (g,b)∧(ops[g]?).bind (·.dst)=some d)→env[d]?=some x→VR G w x (a.tmps.getD d undef)){b:Bool}(h:z1o ops env o=some b):Region.wanted o (yielded ops a.tmps)=b:=by
 unfold z1o at h
 unfold Region.wanted
 split at h
 ·rename_i hg;cases h;simp[hg]
 ·rename_i j want hg
  simp only[hg]
  split at h<;>try cases h
  rename_i d hd
  split at h<;>try cases h
  ·rename_i bb hb
   split at h<;>cases h
   rename_i hlt
   have h1:env[d]?=some (.bool bb):=by
    rw[List.getElem?_eq_getElem hlt]
    simpa[List.getD_eq_getElem?_getD,hlt] using hb
   have h2:=(he d _ ⟨j,want,hg,hd⟩ h1).bool_inv
   have hlt2:d < a.tmps.size:=by rw[hsz];exact hlt
   have h3:a.tmps[d]?=some (.bool bb):=by
    rw[Array.getElem?_eq_getElem hlt2]
    simpa[Array.getD,hlt2] using h2
   unfold yielded
   simp[hd,h3]
  ·rename_i hb
   split at h<;>cases h
   rename_i hlt
   have h1:env[d]?=some (.tup []):=by
    rw[List.getElem?_eq_getElem hlt]
    simpa[List.getD_eq_getElem?_getD,hlt] using hb
   have h2:=he d _ ⟨j,want,hg,hd⟩ h1
   have hlt2:d < a.tmps.size:=by rw[hsz];exact hlt
   have h3:∃ cs,a.tmps[d]?=some (.tuple cs):=by
    rw[Array.getElem?_eq_getElem hlt2]
    have h4:a.tmps.getD d undef=a.tmps[d]:=by simp[Array.getD,hlt2]
    rw[h4]at h2
    generalize a.tmps[d]=u at h2 ⊢
    cases h2 with
    | tup _ cs _ _=>exact ⟨cs,rfl⟩
   obtain ⟨cs,h3⟩:=h3
   unfold yielded
   simp[hd,h3]
theorem y1v {ops:Array Oper}{env:Env}{G:Gh}{w:World}{a:Act}(he:ER G w env a){o:Oper}{b:Bool}(h:z1o ops env o=some b):Region.wanted o (yielded ops a.tmps)=b :=
 y0n he.1 (fun d x _ hx=>he.2 d x hx) h

theorem Act.put_defers' (a:Act)(d:Option Tmp)(v:Value):(a.put d v).defers=a.defers:=by cases d<;>rfl

theorem y0h (hC:CxOk C)(hs:SelfOk C self)(ops:Array Oper)(rd:Option Nat)(n:Nat)(ds:List Deferred){Q:Exit→Act→World→Prop}:∀ (k:Nat) (rest:List Oper) (env:Env) (S:St) (x:EX) (env':Env) (S':St) (G:Gh) (w:World) (a:Act),
  rest=ops.toList.drop k→z2g C self ops rest env S=some (x,env',S')→Inv G w S→GtR C G w→ER G w env a→a.defers=ds →
  (∀ e a' w',CodePost ds G w x env' S' e a' w'→Q e a' w')→wpOpsIn (WF rd) n C.P ops Q ((List.range ops.size).drop k) a w:=by
 intro k rest
 induction rest generalizing k with
 | nil =>
  intro env S x env' S' G w a hk h hI hg he hd hQ
  simp only[z2g,Option.some.injEq,Prod.mk.injEq]at h
  obtain ⟨rfl,rfl,rfl⟩:=h
  have:ops.size≤k:=by
   have:=congrArg List.length hk
   simp at this;omega
  rw[List.drop_eq_nil_of_le (by simpa using this)]
  exact hQ _ _ _ ⟨G,hI,Evo.refl _ _,he,hd,rfl⟩
 | cons o rest ih =>
  intro env S x env' S' G w a hk h hI hg he hd hQ
  have hlt:k < ops.size:=by
   rcases Nat.lt_or_ge k ops.size with h1 | h1
   ·exact h1
   ·rw[List.drop_eq_nil_of_le (by simpa using h1)]at hk;cases hk
  have hdrop:ops.toList.drop k=ops[k]::ops.toList.drop (k+1):=by
   rw[List.drop_eq_getElem_cons (by simpa using hlt)];simp
  rw[hdrop]at hk
  injection hk with ho hrest
  have hrange:(List.range ops.size).drop k=k::(List.range ops.size).drop (k+1):=by
   rw[List.drop_eq_getElem_cons (by simpa using hlt)];simp
  rw[hrange]
  simp only[wpOpsIn]
  have hget:ops[k]?=some o:=by rw[Array.getElem?_eq_getElem hlt,ho]
  rw[hget]
  simp only
  simp only[z2g]at h
  split at h
  ·rename_i hw
   rw[if_pos (y1v he hw)]
   split at h
   ·rename_i v S1 hop
    refine z8d hC hs hI hg (he.eval hg) o hop rd n ?_
    intro G' w' y hI' hE hv
    refine ih (k+1) _ _ _ _ _ G' w' _ hrest h hI' (hg.mono hE) ((he.mono hE).put hv o.dst) (by rw[Act.put_defers'];exact hd) ?_
    rintro e a' w'' ⟨G'',q1,q2,q3⟩
    exact hQ _ _ _ ⟨G'',q1,hE.trans q2,q3⟩
   ·rename_i v S1 hop
    cases h
    refine z8d hC hs hI hg (he.eval hg) o hop rd n ?_
    intro G' w' y hI' hE hv
    exact hQ _ _ _ ⟨G',hI',hE,he.mono hE,hd,y,rfl,hv⟩
   ·cases h
  ·rename_i hw
   have:=y1v he hw
   rw[if_neg (by simp[this])]
   exact ⟨fun _ _=>trivial,ih (k+1) _ _ _ _ _ G w _ hrest h hI hg (he.put VR.undef o.dst) (by rw[Act.put_defers'];exact hd) hQ⟩
  ·cases h
end
end Go.Ev
namespace Go.Ev
open Go.RowKit

def Gh.cut (G:Gh)(n:Nat):Gh:={ G with σ:=fun h=>if h < n then G.σ h else none }
section
variable {C:Cx}{G:Gh}{w:World}{S:St}

theorem Inv.congr (hI:Inv G w S){S':St}(h:∀ (k:Nat) (x:HB),S.hs[k]?=some (some x)↔S'.hs[k]?=some (some x))(ht:S.ts=S'.ts):Inv G w S' :=
 ⟨fun k x hk=>hI.blk k x ((h k x).2 hk),fun k b hk=>let ⟨x,hx⟩:=hI.dom k b hk; ⟨x,(h k x).1 hx⟩,hI.inj,hI.fr,hI.base,by rw[← ht];exact hI.tok,by rw[← ht];exact hI.tdom,hI.tinj,hI.tσ,hI.kin,hI.bin⟩

theorem z5k {n h b:Nat}(hb:(G.cut n).σ h=some b):h < n∧G.σ h=some b:=by
 simp only[Gh.cut]at hb
 split at hb
 ·rename_i h1;exact ⟨h1,hb⟩
 ·cases hb

theorem z1a {n:Nat}:∀ {l:List AV} {i:Nat} {a:AV},noHL n l=true→l[i]?=some a→noH n a=true
 | [],i,a,_,h=>by simp at h
 | x::l,0,a,h,hi=>by simp at hi;subst hi;simp[noHL]at h;exact h.1
 | x::l,i+1,a,h,hi=>by simp[noHL]at h;exact z1a h.2 (by simpa using hi)

theorem VR.cut {n:Nat}{a:AV}{v:Value}(h:VR G w a v)(hn:noH n a=true):VR (G.cut n) w a v:=by
 induction h with
 | bad v=>exact .bad v
 | int k n=>exact .int k n
 | bool b=>exact .bool b
 | str s=>exact .str s
 | raw r=>exact .raw r
 | agg l cs hs h ih=>exact .agg l cs hs fun i a ha=>ih i a ha (z1a (by simpa[noH] using hn) ha)
 | tup l cs hs h ih=>exact .tup l cs hs fun i a ha=>ih i a ha (z1a (by simpa[noH] using hn) ha)
 | vs l n t A c f hc h hh ht ih=>exact .vs l n t A c f hc (fun i a ha=>ih i a ha (z1a (by simpa[noH] using hn) ha)) hh ht
 | vp l ad f h hh ih=>exact .vp l ad f (fun i a ha=>ih i a ha (z1a (by simpa[noH] using hn) ha)) hh
 | ptr h off b hb=>exact .ptr h off b (by simp[noH]at hn;simp[Gh.cut,hn,hb])
 | row h off n c b hb hc=>exact .row h off n c b (by simp[noH]at hn;simp[Gh.cut,hn,hb]) hc
 | mp h b hb=>exact .mp h b (by simp[noH]at hn;simp[Gh.cut,hn,hb])
 | fn f a b as bs ha hb h1 h2 ih1 ih2 =>
  simp[noH]at hn
  exact .fn f a b as bs ha hb (fun i x hx=>ih1 i x hx (z1a hn.1 hx)) (fun i x hx=>ih2 i x hx (z1a hn.2 hx))
 | ifc t a v h ih=>exact .ifc t a v (ih (by simpa[noH] using hn))

theorem Inv.cut (hI:Inv G w S){S0:St}{n:Nat}(h:∀ (k:Nat) (x:HB),S0.hs[k]?=some (some x)→k < n∧S.hs[k]?=some (some x))(h2:∀ (k:Nat) (x:HB),k < n→S.hs[k]?=some (some x)→S0.hs[k]?=some (some x))(ht:S.ts=S0.ts)
  (hn:∀ (k:Nat) (x:HB),S0.hs[k]?=some (some x)→∀ o b,G.σ k=some b→w.heap[b]?=some o→HR G w x o→HR (G.cut n) w x o):Inv (G.cut n) w S0 where
 blk:=fun k x hk=>by
  obtain ⟨h1,h3⟩:=h k x hk
  obtain ⟨b,o,g1,g2,g3⟩:=hI.blk _ _ h3
  exact ⟨b,o,by simp[Gh.cut,h1,g1],g2,hn k x hk o b g1 g2 g3⟩
 dom:=fun k b hk=>by
  obtain ⟨h1,h3⟩:=z5k hk
  obtain ⟨x,hx⟩:=hI.dom _ _ h3
  exact ⟨x,h2 k x h1 hx⟩
 inj:=fun k k' b h1 h3=>hI.inj _ _ _ (z5k h1).2 (z5k h3).2
 fr:=fun k b o h1=>hI.fr _ _ _ (z5k h1).2
 base:=fun k b h1=>hI.base _ _ (z5k h1).2
 tok:=by rw[← ht];exact hI.tok
 tdom:=by rw[← ht];exact hI.tdom
 tinj:=hI.tinj
 tσ:=fun k b c m z h' hk h1=>hI.tσ _ _ _ _ _ _ hk (z5k h1).2
 kin:=hI.kin
 bin:=hI.bin

def Gh.join (G1 G:Gh)(n:Nat):Gh:={ G1 with σ:=fun h=>if h < n then G1.σ h else G.σ h }

theorem x08 (hI:Inv G w S){S0:St}{n:Nat}{G1:Gh}{w1:World}(h2:∀ (k:Nat) (x:HB),k < n→(S.hs[k]?=some (some x)↔S0.hs[k]?=some (some x)))(hl:S0.hs.length≤n)(ht:S.ts=S0.ts)
  (hE:Evo (G.cut n) w G1 w1) (hI1:Inv G1 w1 S0):Ext G1 w1 (G1.join G n) w1∧Inv (G1.join G n) w1 S∧Evo G w (G1.join G n) w1:=by
 have hσ1:∀ h b,G1.σ h=some b→h < n:=fun h b hb=>by
  obtain ⟨x,hx⟩:=hI1.dom _ _ hb
  have:=(List.getElem?_eq_some_iff.1 hx).1
  omega
 have hext:Ext G1 w1 (G1.join G n) w1:=⟨fun _ _ h=>h,fun _ _ _=>rfl,fun h b hb=>by simp[Gh.join,hσ1 h b hb,hb],fun k b c m z hk=>⟨b,c,m,hk,.inl ⟨rfl,rfl,rfl⟩⟩⟩
 have hσn:∀ h b,¬ h < n→G.σ h=some b→(∀ h',G1.σ h'≠some b)∧(∀ k c m z,G1.tk k≠some (b,c,m,z))∧(∀ o,¬ G1.K b o)∧w1.heap[b]?=w.heap[b]?:=by
  intro h b hh hb
  have hlt:=hI.blk_lt hb
  have a1:∀ h',(G.cut n).σ h'≠some b:=fun h' h'b=>by
   obtain ⟨q1,q2⟩:=z5k h'b
   have:=hI.inj _ _ _ q2 hb
   omega
  have a2:∀ k c m z,G.tk k≠some (b,c,m,z):=fun k c m z hk=>hI.tσ _ _ _ _ _ _ hk hb
  refine ⟨fun h' h'b=>?_,fun k c m z hk=>?_,fun o hK=>?_,hE.frame b hlt a1 a2⟩
  ·rcases hE.σn _ _ h'b with q | q
   ·exact a1 _ q
   ·omega
  ·rcases hE.tkn _ _ _ _ _ hk with ⟨c',m',z',q⟩ | q
   ·exact a2 _ _ _ _ q
   ·omega
  ·rcases hE.kn _ _ hK with q | q | ⟨k,c,m,z,q⟩
   ·exact hI.fr _ _ _ hb q
   ·omega
   ·exact a2 _ _ _ _ q
 have hgσ:∀ h b,(G1.join G n).σ h=some b→(h < n∧G1.σ h=some b)∨(¬ h < n∧G.σ h=some b):=by
  intro h b hb
  simp only[Gh.join]at hb
  split at hb
  ·exact .inl ⟨‹_›,hb⟩
  ·exact .inr ⟨‹_›,hb⟩
 have hevo:Evo G w (G1.join G n) w1:={
  k:=hE.k
  cell:=hE.cell
  σ:=fun h b hb=>by
   by_cases hh:h < n
   ·have:=hE.σ h b (by simp[Gh.cut,hh,hb])
    simp[Gh.join,hh,this]
   ·simp[Gh.join,hh,hb]
  σn:=fun h b hb=>by
   rcases hgσ h b hb with ⟨q1,q2⟩ | ⟨q1,q2⟩
   ·rcases hE.σn _ _ q2 with q3 | q3
    ·exact .inl (z5k q3).2
    ·exact .inr q3
   ·exact .inl q2
  tk:=hE.tk
  tkn:=hE.tkn
  kn:=hE.kn
  B:=hE.B
  size:=hE.size
  os:=hE.os
  tape:=hE.tape
  output:=hE.output
  frame:=fun b hb h1 h3=>hE.frame b hb (fun h hh=>h1 h (z5k hh).2) h3 }
 refine ⟨hext,?_,hevo⟩
 exact {
  blk:=fun k x hk=>by
   by_cases hh:k < n
   ·obtain ⟨b,o,g1,g2,g3⟩:=hI1.blk k x ((h2 k x hh).1 hk)
    exact ⟨b,o,by simp[Gh.join,hh,g1],g2,g3.ext hext⟩
   ·obtain ⟨b,o,g1,g2,g3⟩:=hI.blk k x hk
    exact ⟨b,o,by simp[Gh.join,hh,g1],by rw[(hσn k b hh g1).2.2.2];exact g2,g3.mono hevo⟩
  dom:=fun k b hk=>by
   rcases hgσ k b hk with ⟨q1,q2⟩ | ⟨q1,q2⟩
   ·obtain ⟨x,hx⟩:=hI1.dom _ _ q2
    exact ⟨x,(h2 k x q1).2 hx⟩
   ·exact hI.dom _ _ q2
  inj:=fun k k' b hk hk'=>by
   rcases hgσ k b hk with ⟨q1,q2⟩ | ⟨q1,q2⟩<;>rcases hgσ k' b hk' with ⟨p1,p2⟩ | ⟨p1,p2⟩
   ·exact hI1.inj _ _ _ q2 p2
   ·exact absurd q2 ((hσn _ _ p1 p2).1 _)
   ·exact absurd p2 ((hσn _ _ q1 q2).1 _)
   ·exact hI.inj _ _ _ q2 p2
  fr:=fun k b o hk=>by
   rcases hgσ k b hk with ⟨q1,q2⟩ | ⟨q1,q2⟩
   ·exact hI1.fr _ _ _ q2
   ·exact (hσn _ _ q1 q2).2.2.1 o
  base:=fun k b hk=>by
   rcases hgσ k b hk with ⟨q1,q2⟩ | ⟨q1,q2⟩
   ·exact hI1.base _ _ q2
   ·have:=hI.base _ _ q2
    have e:G1.B=G.B:=hE.B
    show G1.B≤b
    omega
  tok:=by rw[ht];exact hI1.tok
  tdom:=by rw[ht];exact hI1.tdom
  tinj:=hI1.tinj
  tσ:=fun k b c m z h hk hh=>by
   rcases hgσ h b hh with ⟨q1,q2⟩ | ⟨q1,q2⟩
   ·exact hI1.tσ _ _ _ _ _ _ hk q2
   ·exact (hσn _ _ q1 q2).2.1 _ _ _ _ hk
  kin:=hI1.kin
  bin:=hI1.bin }

theorem y4e (P:Nat→Prop):∀ (es:List Edge) (acc:Array Nat) (s:Nat) (i:Nat),
  (es.foldl (fun s e=>if Region.binds .any e then s ||| 2 ^ e.on ||| acc.getD e.on 0 else s) s).testBit i=true →
  s.testBit i=true∨∃ e∈es,Region.binds .any e=true∧(e.on=i∨(acc.getD e.on 0).testBit i=true)
 | [],acc,s,i,h=>.inl h
 | e::es,acc,s,i,h=>by
  simp only[List.foldl_cons]at h
  rcases y4e P es acc _ i h with h1 | ⟨e',h1,h2⟩
  ·split at h1
   ·rename_i hb
    simp only[Nat.testBit_or,Bool.or_eq_true]at h1
    rcases h1 with (h1 | h1) | h1
    ·exact .inl h1
    ·refine .inr ⟨e,by simp,hb,.inl ?_⟩
     have:=Nat.testBit_two_pow (n:=e.on) (m:=i)
     rw[this]at h1
     simpa using h1
    ·exact .inr ⟨e,by simp,hb,.inr h1⟩
   ·exact .inl h1
  ·exact .inr ⟨e',by simp[h1],h2⟩

theorem y24:∀ (os:List Oper) (acc:Array Nat),
  let r:=os.foldl (init:=acc) fun acc o=>acc.push (o.after.foldl (fun s e=>if Region.binds .any e then s ||| 2 ^ e.on ||| acc.getD e.on 0 else s) 0)
  r.size=acc.size+os.length∧(∀ j,j < acc.size→r.getD j 0=acc.getD j 0) ∧
  ∀ j o,os[j]?=some o→∀ i,(r.getD (acc.size+j) 0).testBit i=true→∃ e∈o.after.toList,Region.binds .any e=true∧(e.on=i∨(e.on < acc.size+j∧(r.getD e.on 0).testBit i=true))
 | [],acc=>by simp
 | o::os,acc=>by
  simp only[List.foldl_cons]
  have ih:=y24 os (acc.push (o.after.foldl (fun s e=>if Region.binds .any e then s ||| 2 ^ e.on ||| acc.getD e.on 0 else s) 0))
  simp only[Array.size_push]at ih
  obtain ⟨i1,i2,i3⟩:=ih
  have hsame:∀ j,j < acc.size→(os.foldl (init:=acc.push (o.after.foldl (fun s e=>if Region.binds .any e then s ||| 2 ^ e.on ||| acc.getD e.on 0 else s) 0)) fun acc o=>acc.push (o.after.foldl (fun s e=>if Region.binds .any e then s ||| 2 ^ e.on ||| acc.getD e.on 0 else s) 0)).getD j 0=acc.getD j 0:=by
   intro j hj
   rw[i2 j (by omega)]
   simp[Array.getD_eq_getD_getElem?,Array.getElem?_push,Nat.ne_of_lt hj]
  refine ⟨by rw[i1];simp;omega,hsame,?_⟩
  intro j o' hj i hi
  cases j with
  | zero =>
   simp at hj
   subst hj
   rw[Nat.add_zero,i2 acc.size (by omega)]at hi
   simp only[Array.getD_eq_getD_getElem?,Array.getElem?_push,if_true,Option.getD_some]at hi
   rw[← Array.foldl_toList]at hi
   rcases y4e (fun _=>True) o.after.toList acc 0 i (by simpa[Array.getD_eq_getD_getElem?] using hi) with h1 | ⟨e,h1,h2,h3⟩
   ·simp at h1
   ·refine ⟨e,h1,h2,h3.imp id fun h4=>?_⟩
    have hlt:e.on < acc.size:=by
     rcases Nat.lt_or_ge e.on acc.size with h5 | h5
     ·exact h5
     ·simp[Array.getD_eq_getD_getElem?,Array.getElem?_eq_none h5]at h4
    exact ⟨by omega,by rw[hsame _ hlt];exact h4⟩
  | succ j =>
   simp at hj
   have:=i3 j o' hj i (by rw[show acc.size+1+j=acc.size+(j+1) by omega];exact hi)
   obtain ⟨e,h1,h2,h3⟩:=this
   exact ⟨e,h1,h2,h3.imp id fun h4=>⟨by omega,h4.2⟩⟩

theorem z43 {ops:Array Oper}{i j:Nat}(h:z0p ops i j=true):∃ o,ops[j]?=some o∧∃ e∈o.after.toList,Region.binds .any e=true∧(e.on=i∨(e.on < j∧z0p ops i e.on=true)):=by
 unfold z0p Region.before at h
 have hb:=y24 ops.toList #[]
 rw[← Array.foldl_toList]at h
 simp only at hb
 obtain ⟨h1,h2,h3⟩:=hb
 have hlt:j < ops.size:=by
  rcases Nat.lt_or_ge j ops.size with h4 | h4
  ·exact h4
  ·rw[Array.getD_eq_getD_getElem?,Array.getElem?_eq_none (by rw[h1];simpa using h4)]at h
   simp at h
 have:=h3 j ops[j] (by simp[hlt]) i (by simpa using h)
 obtain ⟨e,g1,g2,g3⟩:=this
 refine ⟨ops[j],by simp[hlt],e,g1,g2,g3.imp id fun g4=>⟨by simpa using g4.1,?_⟩⟩
 unfold z0p Region.before
 rw[← Array.foldl_toList]
 exact g4.2

def Closed (ops:Array Oper)(L:Nat→Prop):Prop:=∀ j o,L j→ops[j]?=some o→∀ e∈o.after.toList,Region.binds .any e=true→L e.on
theorem Closed.before {ops:Array Oper}{L:Nat→Prop}(hc:Closed ops L):∀ (j i:Nat),L j→z0p ops i j=true→L i:=by
 intro j
 induction j using Nat.strongRecOn with
 | _ j ih =>
  intro i hj hb
  obtain ⟨o,ho,e,he,hbd,h⟩:=z43 hb
  have hl:=hc j o hj ho e he hbd
  rcases h with rfl | ⟨hlt,hb2⟩
  ·exact hl
  ·exact ih e.on hlt i hl hb2
end
end Go.Ev
namespace Go.Ev
open Go.RowKit

theorem y9s {C:Cx}{S S':St}(hm:∀ (h:Nat) (x:HB),S.hs[h]?=some (some x)→S'.hs[h]?=some (some x)){ev:Operand→AV}{o:Op}{a:AV}(h:z01 C S ev o=some a):z01 C S' ev o=some a:=by
 have hb:∀ k p,z1e S k=some p→z1e S' k=some p:=by
  intro k p hk
  unfold z1e at hk ⊢
  split at hk<;>cases hk
  rename_i l t hl
  rw[hm _ _ hl]
 cases o<;>(first | exact h | skip)
 case load t x =>
  simp only[z01,z4k]at h ⊢
  split at h<;>(first | exact h | skip)
  split at h<;>try cases h
  rename_i l bt hl
  rw[hb _ _ hl];exact h
 case convert s d x =>
  simp only[z01,y1n]at h ⊢
  repeat' (split at h<;>(first | cases h;done | skip))
  all_goals (first | exact h | skip)
  all_goals (first | (rename_i hq _;rw[hb _ _ hq]) | (rename_i hq _ _;rw[hb _ _ hq]) | skip)
  all_goals simp_all
 case lookup t m k ok =>
  simp only[z01,z8v]at h ⊢
  split at h<;>try cases h
  split at h<;>try cases h
  split at h<;>try cases h
  rename_i es kd hes hkd
  rw[hm _ _ hes,hkd]
  exact h
 case call c =>
  simp only[z01]at h ⊢
  split at h<;>(first | exact h | skip)
  split at h<;>(first | cases h;done | skip)
  simp only[x04]at h ⊢
  split at h<;>(first | exact h | skip)
  split at h<;>(first | cases h;done | skip)
  split at h<;>(first | cases h;done | skip)
  rename_i es hes
  rw[hm _ _ hes]
  exact h

theorem y79 {C:Cx}{S S':St}{ev:Operand→AV}{o:Op}(hc:z4a o=false)(hl:∀ t a,o≠.load t a):z01 C S ev o=z01 C S' ev o:=by
 cases o<;>(first | rfl | (simp[z4a]at hc;done) | skip)
 case load t a=>exact absurd rfl (hl t a)
 case call c =>
  simp only[z4a]at hc
  split at hc
  ·rename_i hb;simp[z01,hb]
  ·cases hc

theorem z6n {n:Nat}:∀ {l:List AV},(∀ (i:Nat) (a:AV),l[i]?=some a→noH n a=true)→noHL n l=true
 | [],_=>rfl
 | x::l,h=>by
  simp only[noHL,Bool.and_eq_true]
  exact ⟨h 0 x rfl,z6n fun i a ha=>h (i+1) a (by simpa using ha)⟩

section
variable {C:Cx}{G:Gh}{w:World}{S:St}

theorem VR.noH {n:Nat}(hn:∀ h b,G.σ h=some b→h < n){a:AV}{v:Value}(h:VR G w a v):Ev.noH n a=true:=by
 induction h with
 | bad v=>rfl
 | int k n=>rfl
 | bool b=>rfl
 | str s=>rfl
 | raw r=>rfl
 | agg l cs hs h ih=>simpa[Ev.noH] using z6n ih
 | tup l cs hs h ih=>simpa[Ev.noH] using z6n ih
 | vs l n t A c f hc h hh ht ih=>simpa[Ev.noH] using z6n ih
 | vp l ad f h hh ih=>simpa[Ev.noH] using z6n ih
 | ptr h off b hb=>simpa[Ev.noH] using hn _ _ hb
 | row h off n c b hb hc=>simpa[Ev.noH] using hn _ _ hb
 | mp h b hb=>simpa[Ev.noH] using hn _ _ hb
 | fn f a b as bs ha hb h1 h2 ih1 ih2=>simp[Ev.noH,z6n ih1,z6n ih2]
 | ifc t a v h ih=>simpa[Ev.noH] using ih

theorem HR.noHB {n:Nat}(hn:∀ h b,G.σ h=some b→h < n){x:HB}{o:Obj}(h:HR G w x o):Ev.noHB n x=true:=by
 cases h with
 | cells l t cs hs h=>exact z6n fun i a ha=>(h i a ha).noH hn
 | map es ms clock p hp hs hst h =>
  simp only[Ev.noHB,List.all_eq_true,Bool.and_eq_true]
  intro e he
  obtain ⟨i,hi⟩:=List.getElem?_of_mem he
  obtain ⟨m,h1,h2,h3⟩:=h i e.1 e.2 hi
  exact ⟨h2.noH hn,h3.noH hn⟩
 | iter s pos=>rfl

theorem HR.cut {n:Nat}{x:HB}{o:Obj}(h:HR G w x o)(hn:Ev.noHB n x=true):HR (G.cut n) w x o:=by
 cases h with
 | cells l t cs hs h=>exact .cells l t cs hs fun i a ha=>(h i a ha).cut (z1a hn ha)
 | map es ms clock p hp hs hst h =>
  refine .map es ms clock p hp hs hst fun i k v hi=>?_
  obtain ⟨m,h1,h2,h3⟩:=h i k v hi
  simp only[Ev.noHB,List.all_eq_true,Bool.and_eq_true]at hn
  have:=hn _ (List.mem_of_getElem? hi)
  exact ⟨m,h1,h2.cut this.1,h3.cut this.2⟩
 | iter s pos=>exact .iter s pos

mutual
theorem VR.scrub' {tb:Nat}:∀ (a:AV) {v:Value},VR G w a v→VR G w (scrub tb a) v
 | .bad,v,h=>by simpa[scrub] using h
 | .int k n,v,h=>by simpa[scrub] using h
 | .bool b,v,h=>by simpa[scrub] using h
 | .str b,v,h=>by simpa[scrub] using h
 | .raw b,v,h=>by simpa[scrub] using h
 | .agg l,v,h=>by
  cases h with
  | agg _ cs hs h=>simp only[scrub];exact .agg _ cs (by rw[hs,z3v]) fun i a ha=>z4n l (f:=fun i=>cs.getD i undef) h i a ha
 | .tup l,v,h=>by
  cases h with
  | tup _ cs hs h=>simp only[scrub];exact .tup _ cs (by rw[hs,z3v]) fun i a ha=>z4n l (f:=fun i=>cs.getD i undef) h i a ha
 | .vs l n t,v,h=>by
  cases h with
  | vs _ _ _ A c f hc h hh ht =>
   simp only[scrub]
   refine .vs _ n _ A c f hc (fun i a ha=>z4n l (f:=f) h i a ha) (hh.imp (fun e=>by rw[e];rfl) fun ⟨ad,h1,h2⟩=>⟨ad,h1,by rw[z3v];exact h2⟩) ?_
   cases t with
   | none=>trivial
   | zero=>exact ht
   | own k=>simp only[Tok.scrub];split;exact ht;trivial
 | .vp l,v,h=>by
  cases h with
  | vp _ ad f h hh=>simp only[scrub];exact .vp _ ad f (fun i a ha=>z4n l (f:=f) h i a ha) (by rw[z3v];exact hh)
 | .ptr h o,v,hh=>by simpa[scrub] using hh
 | .row h o n c,v,hh=>by simpa[scrub] using hh
 | .mp h,v,hh=>by simpa[scrub] using hh
 | .fn f x y,v,h=>by
  cases h with
  | fn _ _ _ as bs ha hb h1 h2=>simp only[scrub];exact .fn f _ _ as bs (by rw[ha,z3v]) (by rw[hb,z3v]) (fun i a ha=>z4n x (f:=fun i=>as.getD i undef) h1 i a ha) fun i a ha=>z4n y (f:=fun i=>bs.getD i undef) h2 i a ha
 | .ifc t x,v,h=>by
  cases h with
  | ifc _ _ u h=>simp only[scrub];exact .ifc t _ u (VR.scrub' x h)
theorem z4n {tb:Nat}:∀ (l:List AV) {f:Nat→Value},(∀ (i:Nat) (a:AV),l[i]?=some a→VR G w a (f i))→∀ (i:Nat) (a:AV),(z0e tb l)[i]?=some a→VR G w a (f i)
 | [],f,h,i,a,ha=>by simp[z0e]at ha
 | x::l,f,h,0,a,ha=>by simp[z0e]at ha;subst ha;exact VR.scrub' x (h 0 x rfl)
 | x::l,f,h,i+1,a,ha=>z4n l (f:=fun i=>f (i+1)) (fun i a ha=>h (i+1) a (by simpa using ha)) i a (by simpa[z0e] using ha)
theorem z3v {tb:Nat}:∀ (l:List AV),(z0e tb l).length=l.length
 | []=>rfl
 | x::l=>by simp[z0e,z3v l]
end

def Gh.cutT (G:Gh)(n:Nat):Gh:={ G with tk:=fun k=>if k < n then G.tk k else none }
mutual
theorem VR.cutT {tb n:Nat}(hn:tb≤n):∀ (a:AV) {v:Value},VR G w (scrub tb a) v→VR (G.cutT n) w (scrub tb a) v
 | .bad,v,h=>by exact .bad v
 | .int k n,v,h=>by simp only [scrub] at *; cases h; exact .int _ _
 | .bool b,v,h=>by simp only [scrub] at *; cases h; exact .bool _
 | .str b,v,h=>by simp only [scrub] at *; cases h; exact .str _
 | .raw b,v,h=>by simp only [scrub] at *; cases h; exact .raw _
 | .agg l,v,h=>by
  simp only [scrub] at *
  cases h with
  | agg _ cs hs h=>exact .agg _ cs hs fun i a ha=>z92 hn l (f:=fun i=>cs.getD i undef) h i a ha
 | .tup l,v,h=>by
  simp only [scrub] at *
  cases h with
  | tup _ cs hs h=>exact .tup _ cs hs fun i a ha=>z92 hn l (f:=fun i=>cs.getD i undef) h i a ha
 | .vs l m t,v,h=>by
  simp only [scrub] at *
  cases h with
  | vs _ _ _ A c f hc h hh ht =>
   refine .vs _ m _ A c f hc (fun i a ha=>z92 hn l (f:=f) h i a ha) hh ?_
   cases t with
   | none=>trivial
   | zero=>exact ht
   | own k =>
    simp only [Tok.scrub] at *
    by_cases hk:k < tb
    ·rw[if_pos hk]at ht ⊢
     obtain ⟨b,c',m',z,h1,h2⟩:=ht
     exact ⟨b,c',m',z,by simp only[Gh.cutT];rw[if_pos (by omega)];exact h1,h2⟩
    ·rw[if_neg hk];trivial
 | .vp l,v,h=>by
  simp only [scrub] at *
  cases h with
  | vp _ ad f h hh=>exact .vp _ ad f (fun i a ha=>z92 hn l (f:=f) h i a ha) hh
 | .ptr h o,v,hh=>by simp only [scrub] at *; cases hh with | ptr _ _ b hb=>exact .ptr _ _ b hb
 | .row h o n c,v,hh=>by simp only [scrub] at *; cases hh with | row _ _ _ _ b hb hc=>exact .row _ _ _ _ b hb hc
 | .mp h,v,hh=>by simp only [scrub] at *; cases hh with | mp _ b hb=>exact .mp _ b hb
 | .fn f x y,v,h=>by
  simp only [scrub] at *
  cases h with
  | fn _ _ _ as bs ha hb h1 h2=>exact .fn f _ _ as bs ha hb (fun i a ha=>z92 hn x (f:=fun i=>as.getD i undef) h1 i a ha) fun i a ha=>z92 hn y (f:=fun i=>bs.getD i undef) h2 i a ha
 | .ifc t x,v,h=>by
  simp only [scrub] at *
  cases h with
  | ifc _ _ u h=>exact .ifc t _ u (VR.cutT hn x h)
theorem z92 {tb n:Nat}(hn:tb≤n):∀ (l:List AV) {f:Nat→Value},(∀ (i:Nat) (a:AV),(z0e tb l)[i]?=some a→VR G w a (f i))→∀ (i:Nat) (a:AV),(z0e tb l)[i]?=some a→VR (G.cutT n) w a (f i)
 | [],f,h,i,a,ha=>by simp[z0e]at ha
 | x::l,f,h,0,a,ha=>by simp[z0e]at ha;subst ha;exact VR.cutT hn x (h 0 _ (by simp[z0e]))
 | x::l,f,h,i+1,a,ha=>z92 hn l (f:=fun i=>f (i+1)) (fun i a ha=>h (i+1) a (by simpa[z0e] using ha)) i a (by simpa[z0e] using ha)
end
end
end Go.Ev
namespace Go.Ev
open Go.RowKit

def SameAt (S S':St)(h:Nat):Prop:=∀ x:HB,S'.hs[h]?=some (some x)↔S.hs[h]?=some (some x)
theorem SameAt.refl (S:St)(h:Nat):SameAt S S h:=fun _=>Iff.rfl
theorem SameAt.symm {S S':St}{h:Nat}(k:SameAt S S' h):SameAt S' S h:=fun x=>(k x).symm
theorem SameAt.trans {S S' S'':St}{h:Nat}(k:SameAt S S' h)(k':SameAt S' S'' h):SameAt S S'' h:=fun x=>(k' x).trans (k x)

theorem SameAt.block {S S':St}{h:Nat}(k:SameAt S S' h):z1e S' h=z1e S h:=by
 unfold z1e
 cases h1:S.hs[h]? with
 | none =>
  cases h2:S'.hs[h]? with
  | none=>rfl
  | some y=>cases y with
   | none=>rfl
   | some x=>have:=(k x).1 h2;rw[h1]at this;cases this
 | some y=>cases y with
  | none =>
   cases h2:S'.hs[h]? with
   | none=>rfl
   | some y=>cases y with
    | none=>rfl
    | some x=>have:=(k x).1 h2;rw[h1]at this;cases this
  | some x=>rw[(k x).2 h1]

inductive Eff (ops:Array Oper) (j:Nat) (S S':St) (D D':DN):Prop
 | none (hs:S'.hs=S.hs) (hd:D'.sts=D.sts):Eff ops j S S' D D'
 | store (h:Nat) (hd:D'.sts=(j,h)::D.sts) (hl:h < S.hs.length) (h1:z1w ops j h D.lds=true) (h2:z1w ops j h D.sts=true) (hn:S'.hs.length=S.hs.length) (ho:∀ k,k≠h→SameAt S S' k):Eff ops j S S' D D'
 | alloc (hd:D'.sts=(j,S.hs.length)::D.sts) (hn:S'.hs.length=S.hs.length+1) (ho:∀ k,k≠S.hs.length→SameAt S S' k):Eff ops j S S' D D'

theorem Eff.len {ops:Array Oper}{j:Nat}{S S':St}{D D':DN}(h:Eff ops j S S' D D'):S.hs.length≤S'.hs.length:=by
 cases h with
 | none hs hd=>rw[hs];exact Nat.le_refl _
 | store h hd hl h1 h2 hn ho=>omega
 | alloc hd hn ho=>omega

theorem SameAt.push (S:St)(x:HB){k:Nat}(hk:k≠S.hs.length):SameAt S (S.push x) k:=by
 intro y
 simp only[St.push]
 rcases Nat.lt_or_ge k S.hs.length with h | h
 ·rw[List.getElem?_append_left h]
 ·rw[List.getElem?_append_right h]
  have:1≤k-S.hs.length:=by omega
  simp[List.getElem?_eq_none h]
  intro e
  have:=(List.getElem?_eq_some_iff.1 e).1
  simp at this;omega
theorem SameAt.put (S:St)(h:Nat)(x:HB){k:Nat}(hk:k≠h):SameAt S (S.put h x) k:=by
 intro y
 simp only[St.put]
 rw[List.getElem?_set_ne (Ne.symm hk)]
theorem y47 {S S':St}{h:Nat}(hl:h < S.hs.length)(x y:HB):(S.put h x).hs[h]?=some (some y)↔y=x:=by
 simp[St.put,hl];exact eq_comm
theorem z5v {S:St}{h:Nat}{p:List AV×TypeId}(hb:z1e S h=some p):h < S.hs.length:=by
 unfold z1e at hb
 split at hb<;>cases hb
 rename_i hx
 exact (List.getElem?_eq_some_iff.1 hx).1

section
variable {C:Cx}{self:Self}{ops:Array Oper}

theorem x1z {S S':St}{t tx:TypeId}{s x a:AV}(h:z2e C S t tx s x=some (a,S')):S'.hs=S.hs∧S.ts.length≤S'.ts.length:=by
 unfold z2e at h
 repeat' (split at h<;>(first | cases h;done | skip))
 all_goals (first | (cases h;simp) | skip)

theorem x1e {S0 S S':St}{D D':DN}{j:Nat}{ev:Operand→AV}{o:Op}{v:AV}(h:z1n C self ops S0 S D j ev o=some (v,S',D')) :
  Eff ops j S S' D D'∧(D'.lds=D.lds∨∃ k,D'.lds=(j,k)::D.lds∧k < S0.hs.length)∧(isApp o=false→S'.ts=S.ts)∧S.ts.length≤S'.ts.length:=by
 unfold z1n at h
 split at h
 ·split at h<;>try cases h
  split at h<;>try cases h
  rename_i hh off ha hc
  split at h<;>cases h
  rename_i hs
  simp only[stOp]at hs
  rw[ha]at hs
  simp only at hs
  split at hs<;>try cases hs
  rename_i l bt hb
  split at hs<;>cases hs
  exact ⟨.store hh rfl (z5v hb) hc.1 hc.2 (by simp[St.put]) fun k hk=>SameAt.put _ _ _ hk,.inl rfl,fun _=>rfl,Nat.le_refl _⟩
 ·split at h<;>cases h
  rename_i v1 hs
  simp only[stOp]at hs
  split at hs<;>cases hs
  exact ⟨.alloc rfl (by simp[St.push]) fun k hk=>SameAt.push _ _ hk,.inl rfl,fun _=>rfl,Nat.le_refl _⟩
 ·split at h<;>cases h
  rename_i v1 hs
  simp only[stOp]at hs
  split at hs<;>cases hs
  exact ⟨.alloc rfl (by simp[St.push]) fun k hk=>SameAt.push _ _ hk,.inl rfl,fun _=>rfl,Nat.le_refl _⟩
 ·split at h<;>cases h
  rename_i v1 hs
  simp only[stOp]at hs
  split at hs<;>cases hs
  exact ⟨.alloc rfl (by simp[St.push]) fun k hk=>SameAt.push _ _ hk,.inl rfl,fun _=>rfl,Nat.le_refl _⟩
 ·split at h<;>try cases h
  split at h<;>try cases h
  rename_i hh ha hc
  split at h<;>cases h
  rename_i hs
  simp only[stOp]at hs
  split at hs<;>try cases hs
  rw[ha]at hs
  simp only at hs
  split at hs<;>try cases hs
  rename_i hes _
  split at hs<;>cases hs
  exact ⟨.store hh rfl (List.getElem?_eq_some_iff.1 hes).1 hc.1 hc.2 (by simp[St.put]) fun k hk=>SameAt.put _ _ _ hk,.inl rfl,fun _=>rfl,Nat.le_refl _⟩
 ·split at h
  ·split at h<;>try cases h
   split at h<;>cases h
   rename_i hl
   simp only[z4k]at hl
   split at hl<;>try cases hl
   rename_i hb
   exact ⟨.none rfl rfl,.inr ⟨_,rfl,z5v hb⟩,fun _=>rfl,Nat.le_refl _⟩
  ·split at h<;>cases h
   exact ⟨.none rfl rfl,.inl rfl,fun _=>rfl,Nat.le_refl _⟩
 ·split at h<;>cases h
  exact ⟨.none rfl rfl,.inl rfl,fun _=>rfl,Nat.le_refl _⟩
 ·rename_i c
  split at h
  ·split at h<;>try cases h
   split at h<;>try cases h
   split at h<;>try cases h
   split at h<;>cases h
   exact ⟨.none rfl rfl,.inl rfl,fun _=>rfl,Nat.le_refl _⟩
  ·rename_i hcal
   split at h<;>try cases h
   split at h<;>try cases h
   split at h<;>cases h
   rename_i hs
   simp only[stOp,hcal]at hs
   split at hs<;>try cases hs
   obtain ⟨g1,g2⟩:=x1z hs
   exact ⟨.none g1 rfl,.inl rfl,fun hf=>by simp[isApp,hcal]at hf,g2⟩
  ·split at h<;>cases h
   exact ⟨.none rfl rfl,.inl rfl,fun _=>rfl,Nat.le_refl _⟩
 ·split at h<;>cases h
  exact ⟨.none rfl rfl,.inl rfl,fun _=>rfl,Nat.le_refl _⟩

structure Stp (o:Op) (j:Nat) (D D':DN) (T' S S':St):Prop where
 hs:∀ h,(j,h)∉D'.sts→SameAt S S' h
 hw:∀ h,(j,h)∈D'.sts→SameAt T' S' h
 t0:isApp o=false→S'.ts=S.ts
 t1:isApp o=true→S'.ts=T'.ts
end
end Go.Ev
namespace Go.Ev
open Go.RowKit

def St.bindAt (S:St)(h:Nat)(x:HB):St:={ S with hs:=(S.hs++List.replicate (h+1-S.hs.length) none).set h (some x) }
theorem y4d (S:St)(h:Nat)(x:HB):(S.bindAt h x).hs[h]?=some (some x):=by
 simp only[St.bindAt]
 rw[List.getElem?_set_self (by simp;omega)]
theorem y2z (S:St){h k:Nat}(x:HB)(hk:k≠h):SameAt S (S.bindAt h x) k:=by
 intro y
 simp only[St.bindAt]
 rw[List.getElem?_set_ne (Ne.symm hk)]
 rcases Nat.lt_or_ge k S.hs.length with h1 | h1
 ·rw[List.getElem?_append_left h1]
 ·rw[List.getElem?_append_right h1,List.getElem?_eq_none h1]
  simp only[reduceCtorEq,iff_false]
  intro e
  have:=List.mem_of_getElem? e
  simp at this

section
variable {C:Cx}{self:Self}{ops:Array Oper}{G:Gh}{w:World}{S:St}

theorem x3j {t:TypeId}{z:List AV}(hz:z4p C t=some z) :
  ∃ o,(Instr.alloc t true (.tuple #[])).run C.P w=.ok (.pointer (some ⟨w.heap.size,0,none⟩)) (w.alloc o)∧HR G w (.cells z t) o:=by
 obtain ⟨i,zv,h1,h2,h3,h4⟩:=z5a (G:=G) (w:=w) hz
 exact ⟨.cells zv.cells t (0,0),by simp[Instr.alloc,zeroValue,typeInfo,h1,h2,newVar,newRow],.cells z t zv.cells h4.1 h4.2⟩
theorem x7n {t:TypeId}{x:AV}(hx:x.cells.all AV.one=true){u:Value}(hu:VR G w x u) :
  ∃ o,(Instr.box t u).run C.P w=.ok (.pointer (some ⟨w.heap.size,0,none⟩)) (w.alloc o)∧HR G w (.cells x.cells t) o:=by
 obtain ⟨q1,q2,q3⟩:=hu.cells hx
 exact ⟨.cells u.cells t (0,0),by simp[Instr.box,newVar,newRow],.cells _ t _ q1 q2⟩

theorem y7h {S S' T:St}{t tx:TypeId}{s x a:AV}(hr:∀ h o n c,x≠.row h o n c)(ht:T.ts=S.ts)(h:z2e C S t tx s x=some (a,S')) :
  z2e C T t tx s x=some (a,{ T with ts:=S'.ts }):=by
 have hsrc:∀ sz,z9a C S sz tx x=z9a C T sz tx x:=by
  intro sz
  unfold z9a
  split
  ·unfold z7r
   split
   ·rfl
   ·exact absurd rfl (hr _ _ _ _)
   ·rfl
  ·rfl
  ·rfl
 unfold z2e at h ⊢
 split at h<;>try cases h
 split at h<;>try cases h
 rw[hsrc]at h
 split at h<;>try cases h
 split at h<;>try cases h
 rename_i hc
 (try rw[if_pos hc])
 split at h
 ·rename_i hd
  cases h
  rw[if_pos hd,← ht]
 ·rename_i hd
  rw[if_neg hd]
  split at h
  ·split at h<;>cases h
   rename_i h0
   simp[h0,ht]
  ·split at h<;>cases h
   rename_i h0
   simp[h0,ht]
  ·cases h

theorem x3a (hC:CxOk C)(hs:SelfOk C self)(hI:Inv G w S)(hg:GtR C G w){ev:Operand→AV}{a:Act}(hρ:∀ x,VR G w (ev x) (a.eval x))(o:Oper){S0 T T':St}{D D':DN}{j:Nat}{v:AV}
  (h:z1n C self ops S0 T D j ev o.op=some (v,T',D')) (hfresh:∀ h,(j,h)∉D.sts)
  (hst:∀ h,h < T.hs.length→(j,h)∈D'.sts→z1w ops j h D.lds=true→z1w ops j h D.sts=true→SameAt T S h)
  (hal:(j,T.hs.length)∈D'.sts→G.σ T.hs.length=none)
  (hld:∀ h,(j,h)∈D'.lds→y7p h D.sts=true→h < S0.hs.length→SameAt S0 S h)
  (hcl:z4a o.op=true→(∀ h,h < S0.hs.length→SameAt S0 S h)∧S.ts=S0.ts)
  (h0:∀ (k:Nat) (x:HB),S0.hs[k]?=some (some x)→noHB S0.hs.length x=true) (hg0:∀ g l,C.gt g=some l→noHL S0.hs.length l=true)
  (hap:isApp o.op=true→S.ts=T.ts) (rd:Option Nat) (n:Nat) {next:Act→World→Prop} {Q:Exit→Act→World→Prop}
  (hnext:∀ G' w' x S',Inv G' w' S'→Evo G w G' w'→VR G' w' v x→Stp o.op j D D' T' S S'→next (a.put o.dst x) w'):o.wpIn (WF rd) n C.P a w next Q:=by
 have plain:(∀ c,o.op≠.defer c)→z01 C S ev o.op=some v→D'.sts=D.sts→T'=T→o.wpIn (WF rd) n C.P a w next Q:=by
  intro hd hp hD hT
  obtain ⟨u,h1,h2⟩:=y2h hC.eqt hI hρ o hp
  refine ⟨fun _ _=>trivial,?_⟩
  rw[Oper.semAt_eq _ _ _ hd,h2]
  exact hnext G w u S hI (Evo.refl _ _) h1 ⟨fun h _=>SameAt.refl _ _,fun h hh=>absurd (hD ▸ hh) (hfresh h),fun _=>rfl,fun hh=>by rw[hT];exact hap hh⟩
 have hothers:(∀ c,o.op≠.defer c)→(∀ t x,o.op≠.load t x)→z01 C S0 ev o.op=some v→D'.sts=D.sts→T'=T→o.wpIn (WF rd) n C.P a w next Q:=by
  intro hd hl hp hD hT
  refine plain hd ?_ hD hT
  by_cases hc:z4a o.op=true
  ·exact y9s (fun k x hk=>((hcl hc).1 k (List.getElem?_eq_some_iff.1 hk).1 x).2 hk) hp
  ·rw[y79 (S':=S0) (by simpa using hc) hl];exact hp
 have mem:(∀ c,o.op≠.defer c)→∀ S1,stOp C S ev o.op=some (v,S1)→Stp o.op j D D' T' S S1→o.wpIn (WF rd) n C.P a w next Q:=by
  intro hd S1 hp hS
  obtain ⟨G',w',x,h1,h2,h3,h4⟩:=y45 hI hρ o hp
  refine ⟨fun _ _=>trivial,?_⟩
  rw[Oper.semAt_eq _ _ _ hd,h1]
  rcases h2 with ⟨u,rfl,hv⟩ | ⟨rfl,hb⟩
  ·exact hnext G' w' u S1 h3 h4 hv hS
  ·exact hnext G' w' undef S1 h3 h4 (hb ▸ .bad _) hS
 have made:(∀ c,o.op≠.defer c)→∀ (hb:HB) (ob:Obj),D'.sts=(j,T.hs.length)::D.sts→T'=T.push hb→isApp o.op=false→∀ u:Value,(∀ G' w',G'.σ T.hs.length=some w.heap.size→VR G' w' v u)→HR G w hb ob →
   (execOp a.eval o).run C.P w=.ok (.value u) (w.alloc ob)→o.wpIn (WF rd) n C.P a w next Q:=by
  intro hd hb ob hD hT hia u hv hr hrun
  have hn:=hal (by rw[hD];exact List.mem_cons_self)
  have ha:=Adds.alloc w ob
  refine ⟨fun _ _=>trivial,?_⟩
  rw[Oper.semAt_eq _ _ _ hd,hrun]
  refine hnext (G.bind T.hs.length w.heap.size) _ _ (S.bindAt T.hs.length hb) (Inv.bind ha hI hn hr (y4d _ _ _) (fun k x hk=>y2z S hb hk x) rfl) (Evo.bind ha hI hn) ?_ ?_
  ·exact hv _ _ (upd_same _ _ _)
  ·refine ⟨fun h hh=>y2z S hb fun e=>hh (by rw[hD,e];exact List.mem_cons_self),fun h hh x=>?_,fun _=>rfl,fun e=>by rw[hia]at e;cases e⟩
   rw[hD]at hh
   rcases List.mem_cons.1 hh with e | e
   ·cases e
    rw[y4d,hT]
    simp[St.push]
   ·exact absurd e (hfresh h)
 unfold z1n at h
 split at h
 ·rename_i t p x ho
  have hd:∀ c,o.op≠.defer c:=by intro c' e;rw[ho]at e;cases e
  split at h<;>try cases h
  split at h<;>try cases h
  rename_i hh off ha hc
  split at h<;>cases h
  rename_i hs'
  have hs2:=hs'
  simp only[stOp]at hs'
  rw[ha]at hs'
  simp only at hs'
  split at hs'<;>try cases hs'
  rename_i l bt hb
  split at hs'<;>cases hs'
  rename_i l' hw
  have hsame:=hst hh (z5v hb) List.mem_cons_self hc.1 hc.2
  have hb2:z1e S hh=some (l,bt):=by rw[hsame.block];exact hb
  refine mem hd (S.put hh (.cells l' bt)) (by rw[ho];simp[stOp,ha,hb2,hw]) ⟨fun k hk=>SameAt.put _ _ _ fun e=>hk (by rw[e];exact List.mem_cons_self),fun k hk y=>?_,fun _=>rfl,fun e=>by rw[ho]at e;cases e⟩
  rcases List.mem_cons.1 hk with e | e
  ·cases e
   rw[y47 (S':=S) (z5v hb2),y47 (S':=S) (z5v hb)]
  ·exact absurd e (hfresh k)
 ·rename_i t ho
  have hd:∀ c,o.op≠.defer c:=by intro c' e;rw[ho]at e;cases e
  split at h<;>cases h
  rename_i hs'
  simp only[stOp]at hs'
  split at hs'<;>cases hs'
  rename_i z hz
  obtain ⟨ob,q1,q2⟩:=x3j (G:=G) (w:=w) hz
  exact made hd _ ob rfl rfl (by rw[ho];rfl) _ (fun G' w' h=>.ptr _ _ _ h) q2 (by simp[execOp,ho,q1])
 ·rename_i t x ho
  have hd:∀ c,o.op≠.defer c:=by intro c' e;rw[ho]at e;cases e
  split at h<;>cases h
  rename_i hs'
  simp only[stOp]at hs'
  split at hs'<;>cases hs'
  rename_i hone
  obtain ⟨ob,q1,q2⟩:=x7n (C:=C) (t:=t) hone (hρ x)
  exact made hd _ ob rfl rfl (by rw[ho];rfl) _ (fun G' w' h=>.ptr _ _ _ h) q2 (by simp[execOp,ho,q1])
 ·rename_i t r ho
  have hd:∀ c,o.op≠.defer c:=by intro c' e;rw[ho]at e;cases e
  split at h<;>cases h
  rename_i hs'
  simp only[stOp]at hs'
  split at hs'<;>cases hs'
  exact made hd _ (.map #[] 0) rfl rfl (by rw[ho];rfl) (.map (some w.heap.size)) (fun G' w' h=>.mp _ _ h) (.map [] #[] 0 [] (by simp) rfl (MapKept.stamped_empty 0) (by simp)) (by simp[execOp,ho,Instr.makeMap])
 ·rename_i t m k x ho
  have hd:∀ c,o.op≠.defer c:=by intro c' e;rw[ho]at e;cases e
  split at h<;>try cases h
  split at h<;>try cases h
  rename_i hh ha hc
  split at h<;>cases h
  rename_i hs'
  simp only[stOp]at hs'
  split at hs'<;>try cases hs'
  rename_i kt et hu
  rw[ha]at hs'
  simp only at hs'
  split at hs'<;>try cases hs'
  rename_i es kd hes hkd
  split at hs'<;>cases hs'
  rename_i hcond
  have hlt:=(List.getElem?_eq_some_iff.1 hes).1
  have hsame:=hst hh hlt List.mem_cons_self hc.1 hc.2
  have hes2:S.hs[hh]?=some (some (.map es)):=(hsame _).2 hes
  have hlt2:=(List.getElem?_eq_some_iff.1 hes2).1
  refine mem hd (S.put hh (.map (z08 (ev k) (ev x) es))) (by rw[ho];simp only[stOp,hu,ha,hes2,hkd];rw[if_pos hcond]) ⟨fun k hk=>SameAt.put _ _ _ fun e=>hk (by rw[e];exact List.mem_cons_self),fun k hk y=>?_,fun _=>rfl,fun e=>by rw[ho]at e;cases e⟩
  rcases List.mem_cons.1 hk with e | e
  ·cases e
   rw[y47 (S':=S) hlt2,y47 (S':=S) hlt]
  ·exact absurd e (hfresh k)
 ·rename_i t p ho
  have hd:∀ c,o.op≠.defer c:=by intro c' e;rw[ho]at e;cases e
  split at h
  ·rename_i hh off hp
   split at h<;>try cases h
   rename_i hnot
   split at h<;>cases h
   rename_i hl
   have hlt:hh < S0.hs.length:=by
    simp only[z4k]at hl
    split at hl<;>try cases hl
    rename_i hb
    exact z5v hb
   have hsame:=hld hh List.mem_cons_self hnot hlt
   refine plain hd ?_ rfl rfl
   rw[ho]
   simp only[z01,hp,z4k]at hl ⊢
   rw[hsame.block];exact hl
  ·rename_i x hx
   split at h<;>cases h
   rename_i hl
   refine plain hd ?_ rfl rfl
   rw[ho]
   simp only[z01]
   unfold z4k at hl ⊢
   split at hl
   ·rename_i hh off e;exact absurd e (hx _ _)
   ·exact hl
   ·cases hl
 ·rename_i t len parts ho
  have hd:∀ c,o.op≠.defer c:=by intro c' e;rw[ho]at e;cases e
  split at h<;>cases h
  rename_i l sze hl
  obtain ⟨sz,e⟩:=sze
  obtain ⟨cs,q1,q2,q3,q4,q5⟩:=z9q (G:=G) (w:=w) hl (parts.map fun (i,x)=>(i,a.eval x)) (by simp) (fun i p hp=>by
   simp only[List.getElem?_map,Option.map_eq_some_iff]at hp
   obtain ⟨q,hq,rfl⟩:=hp
   exact ⟨a.eval q.2,by simp at hq;simp[hq],hρ q.2⟩)
  have ha:=Adds.alloc w (.cells cs e (0,0))
  refine ⟨fun _ _=>trivial,?_⟩
  rw[Oper.semAt_eq _ _ _ hd,show (execOp a.eval o).run C.P w=.ok (.value _) _ by simp[execOp,ho,q5];exact ⟨rfl,rfl⟩]
  refine hnext (G.keep w.heap.size l.length) _ _ S (Inv.keep ha hI _) (Evo.keep ha hI _) ?_ ⟨fun h _=>SameAt.refl _ _,fun h hh=>absurd hh (hfresh h),fun _=>rfl,fun e=>by rw[ho]at e;cases e⟩
  refine VR.ofHeld (f:=fun i=>cs.getD i undef) (Nat.le_refl _) (fun i x hx=>(q4.2 i x hx).mono (Evo.keep ha hI _)) (fun i hi=>⟨.inr ⟨rfl,hi⟩,?_⟩) (by split<;>first | trivial | (rename_i h0;exact ⟨h0,h0⟩))
  have hlt2:i < cs.size:=by rw[q4.1];exact hi
  have hnew:(w.alloc (.cells cs e (0,0))).heap[w.heap.size]?=some (.cells cs e (0,0)):=ha.new
  simp only[World.cell?,hnew]
  simp[Array.getD,hlt2]
 ·rename_i c ho
  have hd:∀ c,o.op≠.defer c:=by intro c' e;rw[ho]at e;cases e
  split at h
  ·rename_i f hcal
   split at h<;>try cases h
   rename_i g x y hf
   split at h<;>try cases h
   rename_i hno
   split at h<;>try cases h
   rename_i v' S1 hcall
   split at h<;>cases h
   rename_i hS1
   subst hS1
   obtain ⟨hc1,hc2⟩:=hcl (by rw[ho];simp[z4a,hcal])
   -- the old handles alone
   have hcut:Inv (G.cut S1.hs.length) w S1:=Inv.cut hI (fun k x hk=>have hlt:=(List.getElem?_eq_some_iff.1 hk).1; ⟨hlt,(hc1 k hlt x).2 hk⟩) (fun k x hlt hk=>(hc1 k hlt x).1 hk) hc2
    (fun k x hk o b _ _ hr=>hr.cut (h0 k x hk))
   have hgc:GtR C (G.cut S1.hs.length) w:=fun g l hl=>(hg g l hl).cut (by simpa[noH] using hg0 g l hl)
   let ev':Operand→AV:=fun x=>if noH S1.hs.length (ev x)=true then ev x else .bad
   have hρ':∀ x,VR (G.cut S1.hs.length) w (ev' x) (a.eval x):=by
    intro x
    show VR _ _ (if noH S1.hs.length (ev x)=true then ev x else .bad) _
    split
    ·rename_i hx;exact (hρ x).cut hx
    ·exact .bad _
   have hnoA:∀ {l m:List AV},noHL S1.hs.length (l++m)=true→noHL S1.hs.length l=true∧noHL S1.hs.length m=true:=by
    intro l m
    induction l with
    | nil=>intro h;exact ⟨rfl,h⟩
    | cons z l ih=>intro h;simp[noHL]at h ⊢;exact ⟨⟨h.1,(ih h.2).1⟩,(ih h.2).2⟩
   obtain ⟨hno1,hno3⟩:=hnoA hno
   obtain ⟨hno1,hno2⟩:=hnoA hno1
   have hf':ev' f=.fn (.func g) x y:=by
    show (if noH S1.hs.length (ev f)=true then ev f else .bad)=_
    rw[hf];simp[noH,hno1,hno3]
   have hmap:c.args.toList.map ev'=c.args.toList.map ev:=by
    refine List.map_congr_left fun z hz=>?_
    show (if noH S1.hs.length (ev z)=true then ev z else .bad)=_
    obtain ⟨i,hi⟩:=List.getElem?_of_mem hz
    have:=z1a (i:=i) (a:=ev z) hno2 (by rw[List.getElem?_map,hi];rfl)
    rw[if_pos this]
   have hop:opA C self S1 ev' o.op=some (.ret v,S1):=by
    rw[ho];simp only[opA,hcal,hf',hmap];exact hcall
   refine z8d hC hs hcut hgc hρ' o hop rd n ?_
   intro G1 w1 u hI1 hE1 hu
   obtain ⟨j1,j2,j3⟩:=x08 (n:=S1.hs.length) hI (fun k x hk=>(hc1 k hk x)) (Nat.le_refl _) hc2 hE1 hI1
   exact hnext _ _ _ S j2 j3 (hu.ext j1) ⟨fun h _=>SameAt.refl _ _,fun h hh=>absurd hh (hfresh h),fun _=>rfl,fun e=>by rw[ho]at e;simp[isApp,hcal]at e⟩
  ·rename_i hcal
   split at h<;>try cases h
   rename_i s x hx
   split at h<;>try cases h
   rename_i hrow
   split at h<;>cases h
   rename_i hs'
   have hia:isApp o.op=true:=by rw[ho];simp[isApp,hcal]
   simp only[stOp,hcal,hx]at hs'
   split at hs'<;>try cases hs'
   rename_i s1 x1 t tx hxe ht
   cases hxe
   have hap':=y7h (T:=S) (fun h o n c e=>hrow h o n c e) (hap hia) hs'
   refine mem hd { S with ts:=T'.ts } (by rw[ho];simp only[stOp,hcal,hx,ht];exact hap') ⟨fun h _=>SameAt.refl _ _,fun h hh=>absurd hh (hfresh h),fun e=>(by rw[hia]at e;cases e),fun _=>rfl⟩
  ·split at h<;>cases h
   rename_i hp
   exact hothers hd (fun t x e=>by rw[ho]at e;cases e) (by rw[ho];exact hp) rfl rfl
 ·split at h<;>cases h
  rename_i n1 n2 n3 n4 n5 n6 _ hp
  by_cases hdf:∃ c,o.op=.defer c
  ·obtain ⟨c,hdf⟩:=hdf
   rw[hdf]at hp
   simp[z01]at hp
  ·exact hothers (fun c e=>hdf ⟨c,e⟩) (fun t x e=>by first | exact n4 _ _ e | exact n1 _ _ e | exact n2 _ _ e | exact n3 _ _ e) hp rfl rfl
end
end Go.Ev
namespace Go.Ev
open Go.RowKit

section
variable {C:Cx}{sf:Self}{ops:Array Oper}{X:Nat→AV→Prop}

def opAt (ops:Array Oper)(j:Nat):Oper:=(ops[j]?).getD default
theorem z1b {ops:Array Oper}{j:Nat}(h:j < ops.size):ops[j]?=some (opAt ops j):=by simp[opAt,h]
theorem z1q {ops:Array Oper}{j:Nat}{o:Oper}(h:ops[j]?=some o):j < ops.size∧opAt ops j=o:=⟨(Array.getElem?_eq_some_iff.1 h).1,by simp[opAt,h]⟩

def Tr (C:Cx)(sf:Self)(ops:Array Oper)(X:Nat→AV→Prop)(S0:St)(j:Nat)(env:Env)(o:Oper)(S:St)(D:DN)(v:AV)(S':St)(D':DN):Prop :=
 (z1o ops env o=some true∧z1n C sf ops S0 S D j (z5i C (o.looksAt ops) env) o.op=some (v,S',D')) ∨
 (z1o ops env o=some false∧v=.tup []∧S'=S∧D'=D)∨(X j v∧S'=S∧D'=D)

structure Trace (C:Cx) (sf:Self) (ops:Array Oper) (X:Nat→AV→Prop) (N:Nat) (S0:St) (k:Nat) (es:Nat→Env) (Ss:Nat→St) (Ds:Nat→DN) (vs:Nat→AV):Prop where
 step:∀ (j:Nat) (o:Oper),k≤j→j < N→ops[j]?=some o→Tr C sf ops X S0 j (es j) o (Ss j) (Ds j) (vs j) (Ss (j+1)) (Ds (j+1))∧es (j+1)=z1u (es j) o.dst (vs j)

theorem z9l {S0:St}{N:Nat}(hN:N≤ops.size):∀ (rest:List Oper) (k:Nat) (env:Env) (S:St) (D:DN) (env':Env) (S':St),k≤N→rest=(ops.toList.take N).drop k→z11 C sf ops S0 rest k env S D=some (env',S') →
  ∃ es Ss Ds vs,Trace C sf ops X N S0 k es Ss Ds vs∧es k=env∧Ss k=S∧Ds k=D∧es N=env'∧Ss N=S':=by
 intro rest
 induction rest with
 | nil =>
  intro k env S D env' S' hk hr h
  simp only[z11,Option.some.injEq,Prod.mk.injEq]at h
  obtain ⟨rfl,rfl⟩:=h
  have:N≤k:=by
   have:=congrArg List.length hr
   simp at this;omega
  refine ⟨fun _=>env,fun _=>S,fun _=>D,fun _=>.bad,⟨fun j o hj hjN ho=>?_⟩,rfl,rfl,rfl,rfl,rfl⟩
  omega
 | cons o rest ih =>
  intro k env S D env' S' hk hr h
  have hlt:k < N:=by
   rcases Nat.lt_or_ge k N with h1 | h1
   ·exact h1
   ·rw[List.drop_eq_nil_of_le (by simp;omega)]at hr;cases hr
  have hlt2:k < ops.size:=by omega
  have hdrop:(ops.toList.take N).drop k=ops[k]::(ops.toList.take N).drop (k+1):=by
   rw[List.drop_eq_getElem_cons (by simp;omega)];simp
  rw[hdrop]at hr
  injection hr with ho hrest
  have hget:ops[k]?=some o:=by rw[Array.getElem?_eq_getElem hlt2,ho]
  have go:∀ (v:AV) (S1:St) (D1:DN),Tr C sf ops X S0 k env o S D v S1 D1→z11 C sf ops S0 rest (k+1) (z1u env o.dst v) S1 D1=some (env',S') →
    ∃ es Ss Ds vs,Trace C sf ops X N S0 k es Ss Ds vs∧es k=env∧Ss k=S∧Ds k=D∧es N=env'∧Ss N=S':=by
   intro v S1 D1 ht hh
   obtain ⟨es,Ss,Ds,vs,h1,h2,h3,h4,h5,h6⟩:=ih (k+1) _ _ _ _ _ (by omega) hrest hh
   refine ⟨fun n=>if n=k then env else es n,fun n=>if n=k then S else Ss n,fun n=>if n=k then D else Ds n,fun n=>if n=k then v else vs n,⟨fun j o' hj hjN ho'=>?_⟩,by simp,by simp,by simp,
    by simp[Nat.ne_of_gt hlt,h5],by simp[Nat.ne_of_gt hlt,h6]⟩
   by_cases e:j=k
   ·subst e
    rw[hget]at ho';cases ho'
    simp only[if_true,if_neg (show ¬ (j+1=j) by omega),h2,h3,h4]
    exact ⟨ht,trivial⟩
   ·simp only[if_neg e,if_neg (show ¬ (j+1=k) by omega)]
    exact h1.step j o' (by omega) hjN ho'
  simp only[z11]at h
  split at h
  ·rename_i hw
   split at h<;>try cases h
   rename_i v S1 D1 hop
   exact go v S1 D1 (.inl ⟨hw,hop⟩) h
  ·rename_i hw
   exact go (.tup []) S D (.inr (.inl ⟨hw,rfl,rfl,rfl⟩)) h
  ·cases h

theorem Tr.eff {S0:St}{j:Nat}{env:Env}{o:Oper}{S S':St}{D D':DN}{v:AV}(h:Tr C sf ops X S0 j env o S D v S' D') :
  Eff ops j S S' D D'∧(D'.lds=D.lds∨∃ k,D'.lds=(j,k)::D.lds∧k < S0.hs.length)∧(isApp o.op=false→S'.ts=S.ts)∧S.ts.length≤S'.ts.length:=by
 rcases h with ⟨_,h⟩ | ⟨_,rfl,rfl,rfl⟩ | ⟨_,rfl,rfl⟩
 ·exact x1e h
 ·exact ⟨.none rfl rfl,.inl rfl,fun _=>rfl,Nat.le_refl _⟩
 ·exact ⟨.none rfl rfl,.inl rfl,fun _=>rfl,Nat.le_refl _⟩

structure Run (C:Cx) (sf:Self) (ops:Array Oper) (X:Nat→AV→Prop) (N:Nat) (S0:St) (env0:Env) (es:Nat→Env) (Ss:Nat→St) (Ds:Nat→DN) (vs:Nat→AV):Prop where
 tr:Trace C sf ops X N S0 0 es Ss Ds vs
 hN:N≤ops.size
 e0:es 0=env0
 s0:Ss 0=S0
 d0:Ds 0=⟨[],[]⟩

variable {N:Nat}{S0:St}{env0:Env}{es:Nat→Env}{Ss:Nat→St}{Ds:Nat→DN}{vs:Nat→AV}

theorem Run.at (R:Run C sf ops X N S0 env0 es Ss Ds vs){j:Nat}(hj:j < N):Tr C sf ops X S0 j (es j) (opAt ops j) (Ss j) (Ds j) (vs j) (Ss (j+1)) (Ds (j+1))∧es (j+1)=z1u (es j) (opAt ops j).dst (vs j) :=
 R.tr.step j _ (Nat.zero_le _) hj (z1b (Nat.lt_of_lt_of_le hj R.hN))
theorem Run.len (R:Run C sf ops X N S0 env0 es Ss Ds vs){i:Nat}:∀ {j:Nat},i≤j→j≤N→(Ss i).hs.length≤(Ss j).hs.length:=by
 intro j hij
 induction hij with
 | refl=>intro _;exact Nat.le_refl _
 | @step m hm ih=>intro hj;exact Nat.le_trans (ih (by omega)) (R.at (show m < N by omega)).1.eff.1.len
theorem Run.sts (R:Run C sf ops X N S0 env0 es Ss Ds vs){i h:Nat}:∀ {j:Nat},j≤N→((i,h)∈(Ds j).sts↔i < j∧(i,h)∈(Ds (i+1)).sts):=by
 intro j
 induction j with
 | zero=>intro _;rw[R.d0];simp
 | succ j ih =>
  intro hj
  have ih:=ih (by omega)
  by_cases e:i=j
  ·subst e;simp
  ·have:(i,h)∈(Ds (j+1)).sts↔(i,h)∈(Ds j).sts:=by
    cases (R.at (show j < N by omega)).1.eff.1 with
    | none _ hd=>rw[hd]
    | store k hd=>rw[hd];simp[e]
    | alloc hd=>rw[hd];simp[e]
   rw[this,ih]
   exact ⟨fun q=>⟨by omega,q.2⟩,fun q=>⟨by omega,q.2⟩⟩
theorem Run.lds (R:Run C sf ops X N S0 env0 es Ss Ds vs){i h:Nat}:∀ {j:Nat},j≤N→((i,h)∈(Ds j).lds↔i < j∧(i,h)∈(Ds (i+1)).lds):=by
 intro j
 induction j with
 | zero=>intro _;rw[R.d0];simp
 | succ j ih =>
  intro hj
  have ih:=ih (by omega)
  by_cases e:i=j
  ·subst e;simp
  ·have:(i,h)∈(Ds (j+1)).lds↔(i,h)∈(Ds j).lds:=by
    rcases (R.at (show j < N by omega)).1.eff.2.1 with hd | ⟨k,hd,_⟩
    ·rw[hd]
    ·rw[hd];simp[e]
   rw[this,ih]
   exact ⟨fun q=>⟨by omega,q.2⟩,fun q=>⟨by omega,q.2⟩⟩
theorem Run.keep (R:Run C sf ops X N S0 env0 es Ss Ds vs){j h:Nat}(hj:j < N)(hn:(j,h)∉(Ds (j+1)).sts):SameAt (Ss j) (Ss (j+1)) h:=by
 cases (R.at hj).1.eff.1 with
 | none hs _=>intro x;rw[hs]
 | store k hd _ _ _ _ ho=>exact ho h fun e=>hn (by rw[hd,e];exact List.mem_cons_self)
 | alloc hd _ ho=>exact ho h fun e=>hn (by rw[hd,e];exact List.mem_cons_self)
theorem Run.keeps (R:Run C sf ops X N S0 env0 es Ss Ds vs){i h:Nat}:∀ {j:Nat},i≤j→j≤N→(∀ k,i≤k→k < j→(k,h)∉(Ds (k+1)).sts)→SameAt (Ss i) (Ss j) h:=by
 intro j hij
 induction hij with
 | refl=>intro _ _;exact SameAt.refl _ _
 | @step m hm ih=>intro hj hn;exact (ih (by omega) fun k h1 h2=>hn k h1 (by omega)).trans (R.keep (by omega) (hn m hm (by omega)))
theorem Run.wr (R:Run C sf ops X N S0 env0 es Ss Ds vs){j h:Nat}(hj:j < N)(hw:(j,h)∈(Ds (j+1)).sts) :
  (h < (Ss j).hs.length∧(∀ i,i < j→(i,h)∈(Ds (i+1)).lds→z0p ops i j=true)∧(∀ i,i < j→(i,h)∈(Ds (i+1)).sts→z0p ops i j=true))∨(h=(Ss j).hs.length∧(Ss (j+1)).hs.length=(Ss j).hs.length+1):=by
 have hno:(j,h)∉(Ds j).sts:=fun e=>absurd ((R.sts (by omega)).1 e).1 (Nat.lt_irrefl _)
 cases (R.at hj).1.eff.1 with
 | none _ hd=>rw[hd]at hw;exact absurd hw hno
 | store k hd hl h1 h2 _ _ =>
  rw[hd]at hw
  rcases List.mem_cons.1 hw with e | e
  ·cases e
   refine .inl ⟨hl,fun i hi hm=>?_,fun i hi hm=>?_⟩
   ·have:=(R.lds (j:=j) (by omega)).2 ⟨hi,hm⟩
    simp only[z1w,List.all_eq_true]at h1
    simpa[z0p] using h1 _ this
   ·have:=(R.sts (j:=j) (by omega)).2 ⟨hi,hm⟩
    simp only[z1w,List.all_eq_true]at h2
    simpa[z0p] using h2 _ this
  ·exact absurd e hno
 | alloc hd hn _ =>
  rw[hd]at hw
  rcases List.mem_cons.1 hw with e | e
  ·cases e;exact .inr ⟨rfl,hn⟩
  ·exact absurd e hno

theorem z3z (h:z1s ops=true){i j:Nat}(hij:i < j)(hj:j < ops.size):z6z ops i j (opAt ops i) (opAt ops j)=true:=by
 simp only[z1s,Bool.and_eq_true,List.all_eq_true,List.mem_range]at h
 have:=h.1 j hj i hij
 rw[z1b hj,z1b (show i < ops.size by omega)]at this
 exact this
theorem y4a (h:z1s ops=true){j:Nat}(hj:j < ops.size){e:Edge}(he:e∈(opAt ops j).after.toList)(hb:Region.binds .any e=true):e.on < j:=by
 simp only[z1s,Bool.and_eq_true,List.all_eq_true,List.mem_range]at h
 have:=h.2 j hj
 rw[z1b hj]at this
 simp only[List.all_eq_true]at this
 have:=this e he
 simpa[hb] using this
theorem z7n (h:z1s ops=true){i j d:Nat}(hi:i < ops.size)(hj:j < ops.size)(h1:(opAt ops i).dst=some d)(h2:(opAt ops j).dst=some d):i=j:=by
 rcases Nat.lt_trichotomy i j with hlt | rfl | hlt
 ·have:=z3z h hlt hj
  simp[z6z,h1,h2]at this
 ·rfl
 ·have:=z3z h hlt hi
  simp[z6z,h1,h2]at this
theorem x2q (h:z1s ops=true){i j d:Nat}(hij:i < j)(hj:j < ops.size)(h1:(opAt ops i).dst=some d)(h2:d∈(opAt ops j).looksAt ops):z0p ops i j=true:=by
 have:=z3z h hij hj
 simp only[z6z,Bool.and_eq_true,h1]at this
 have:=this.1.1.1.1.2
 simpa[h2] using this
theorem x0t (h:z1s ops=true){i j d:Nat}(hij:i < j)(hj:j < ops.size)(h1:(opAt ops j).dst=some d)(h2:d∈(opAt ops i).looksAt ops):z0p ops i j=true:=by
 have:=z3z h hij hj
 simp only[z6z,Bool.and_eq_true,h1]at this
 have:=this.1.1.1.2
 simpa[h2] using this
theorem y60 (h:z1s ops=true){i j:Nat}(hij:i < j)(hj:j < ops.size)(h1:(z3t (opAt ops j).op || isApp (opAt ops j).op)=true)(h2:z4a (opAt ops i).op=true):z0p ops i j=true:=by
 have:=z3z h hij hj
 simp only[z6z,Bool.and_eq_true]at this
 have:=this.1.1.2
 rw[if_pos h1]at this
 simpa[h2] using this
theorem y5 (h:z1s ops=true){i j:Nat}(hij:i < j)(hj:j < ops.size)(h1:(z3t (opAt ops i).op || isApp (opAt ops i).op)=true):z4a (opAt ops j).op=false:=by
 have:=z3z h hij hj
 simp only[z6z,Bool.and_eq_true]at this
 have:=this.1.2
 rw[if_pos h1]at this
 simpa using this
theorem y4l (h:z1s ops=true){i j:Nat}(hij:i < j)(hj:j < ops.size)(h1:isApp (opAt ops i).op=true)(h2:isApp (opAt ops j).op=true):z0p ops i j=true:=by
 have:=z3z h hij hj
 simp only[z6z,Bool.and_eq_true]at this
 have:=this.2
 rw[if_pos h1]at this
 simpa[h2] using this
end
end Go.Ev
namespace Go.Ev
open Go.RowKit

section
variable {C:Cx}{sf:Self}{ops:Array Oper}{X:Nat→AV→Prop}{N:Nat}{S0:St}{env0:Env}{es:Nat→Env}{Ss:Nat→St}{Ds:Nat→DN}{vs:Nat→AV}

theorem Run.elen (R:Run C sf ops X N S0 env0 es Ss Ds vs):∀ {j:Nat},j≤N→(es j).length=env0.length:=by
 intro j
 induction j with
 | zero=>intro _;rw[R.e0]
 | succ j ih =>
  intro hj
  rw[(R.at (show j < N by omega)).2]
  unfold z1u
  split
  ·rw[List.length_set];exact ih (by omega)
  ·exact ih (by omega)
theorem Run.eget (R:Run C sf ops X N S0 env0 es Ss Ds vs){t i:Nat}:∀ {j:Nat},i≤j→j≤N→(∀ (k:Nat) (o:Oper),i≤k→k < j→ops[k]?=some o→o.dst≠some t)→(es j)[t]?=(es i)[t]?:=by
 intro j hij
 induction hij with
 | refl=>intro _ _;rfl
 | @step m hm ih =>
  intro hj hn
  rw[← ih (by omega) fun k o h1 h2=>hn k o h1 (by omega),(R.at (show m < N by omega)).2]
  unfold z1u
  split
  ·rename_i d hd
   rw[List.getElem?_set_ne]
   intro e
   exact hn m _ hm (by omega) (z1b (show m < ops.size by have:=R.hN;omega)) (by rw[hd,e])
  ·rfl
theorem Run.eset (R:Run C sf ops X N S0 env0 es Ss Ds vs){t i:Nat}(hi:i < N)(hd:(opAt ops i).dst=some t)(ht:t < env0.length):(es (i+1))[t]?=some (vs i):=by
 rw[(R.at hi).2]
 unfold z1u
 rw[hd]
 simp only
 rw[List.getElem?_set_self (by rw[R.elen (by omega)];exact ht)]

structure PI (C:Cx) (ops:Array Oper) (N:Nat) (S0:St) (env0:Env) (Ss:Nat→St) (Ds:Nat→DN) (vs:Nat→AV) (ds:List Deferred) (E:Nat→Prop) (G0:Gh) (w0:World) (a:Act) (w:World) (G:Gh) (S:St):Prop where
 lt:∀ i,E i→i < N
 inv:Inv G w S
 evo:Evo G0 w0 G w
 dfr:a.defers=ds
 sz:a.tmps.size=env0.length
 un:∀ h,(∀ i,E i→i < N→(i,h)∉(Ds (i+1)).sts)→SameAt S0 S h
 la:∀ h i,E i→i < N→(i,h)∈(Ds (i+1)).sts→(∀ k,E k→k < N→(k,h)∈(Ds (k+1)).sts→k≤i)→SameAt (Ss (i+1)) S h
 ts0:(∀ (i:Nat) (o:Oper),E i→ops[i]?=some o→isApp o.op=false)→S.ts=S0.ts
 ts1:∀ (i:Nat) (o:Oper),E i→ops[i]?=some o→isApp o.op=true→(∀ (k:Nat) (o':Oper),E k→ops[k]?=some o'→isApp o'.op=true→k≤i)→S.ts=(Ss (i+1)).ts
 d1:∀ (i:Nat) (o:Oper) (t:Nat),E i→ops[i]?=some o→o.dst=some t→t < env0.length→VR G w (vs i) (a.tmps.getD t undef)
 d2:∀ (t:Nat) (x:AV),(∀ (i:Nat) (o:Oper),E i→ops[i]?=some o→o.dst≠some t)→env0[t]?=some x→VR G w x (a.tmps.getD t undef)

variable {ds:List Deferred}{E:Nat→Prop}{G0:Gh}{w0:World}{a:Act}{w:World}{G:Gh}{S:St}

theorem PI.at (R:Run C sf ops X N S0 env0 es Ss Ds vs)(H:PI C ops N S0 env0 Ss Ds vs ds E G0 w0 a w G S){j h:Nat}(hj:j≤N)(h1:∀ i,i < j→(i,h)∈(Ds (i+1)).sts→E i)
  (h2:∀ i,j≤i→i < N→(i,h)∈(Ds (i+1)).sts→¬ E i):SameAt (Ss j) S h:=by
 -- the last writer before j
 have key:∀ m,m≤j→(∀ k,m≤k→k < j→(k,h)∉(Ds (k+1)).sts)→SameAt (Ss j) S h:=by
  intro m
  induction m with
  | zero =>
   intro _ hn
   have:=R.keeps (h:=h) (Nat.zero_le j) hj hn
   rw[R.s0]at this
   refine this.symm.trans (H.un h fun i hi hlt hw=>?_)
   rcases Nat.lt_or_ge i j with hij | hij
   ·exact hn i (Nat.zero_le _) hij hw
   ·exact h2 i hij hlt hw hi
  | succ m ih =>
   intro hm hn
   by_cases hw:(m,h)∈(Ds (m+1)).sts
   ·have:=R.keeps (h:=h) hm hj hn
    refine this.symm.trans (H.la h m (h1 m (by omega) hw) (by omega) hw fun k hk hlt hkw=>?_)
    rcases Nat.lt_or_ge m k with hmk | hmk
    ·rcases Nat.lt_or_ge k j with hkj | hkj
     ·exact absurd hkw (hn k hmk hkj)
     ·exact absurd hk (h2 k hkj hlt hkw)
    ·exact hmk
   ·refine ih (by omega) fun k hk1 hk2=>?_
    rcases Nat.eq_or_lt_of_le hk1 with e | e
    ·rw[← e];exact hw
    ·exact hn k e hk2
 exact key j (Nat.le_refl _) fun k hk1 hk2=>by omega

theorem PI.look (R:Run C sf ops X N S0 env0 es Ss Ds vs)(hok:z1s ops=true)(H:PI C ops N S0 env0 Ss Ds vs ds E G0 w0 a w G S){j t:Nat}(hj:j < N)(hE:¬ E j)(hE2:∀ i,E i→i < N→z0p ops j i=true→E j)
  (hb:∀ i,z0p ops i j=true→E i) (ht:t∈(opAt ops j).looksAt ops) {x:AV} (hx:(es j)[t]?=some x):VR G w x (a.tmps.getD t undef):=by
 have hlen:t < env0.length:=by
  have:=(List.getElem?_eq_some_iff.1 hx).1
  rwa[R.elen (by omega)]at this
 by_cases hex:∃ i,∃ hi:i < N,(opAt ops i).dst=some t
 ·obtain ⟨i,hi,hd⟩:=hex
  have huni:∀ (k:Nat) (o:Oper),ops[k]?=some o→o.dst=some t→k=i:=by
   intro k o hk hkd
   obtain ⟨hk1,rfl⟩:=z1q hk
   exact z7n hok hk1 (Nat.lt_of_lt_of_le hi R.hN) hkd hd
  rcases Nat.lt_or_ge i j with hij | hij
  ·have hEi:=hb i (x2q hok hij (Nat.lt_of_lt_of_le hj R.hN) hd ht)
   have h1:=R.eset hi hd hlen
   have h2:(es j)[t]?=(es (i+1))[t]?:=R.eget (by omega) (by omega) fun k o hk1 hk2 hk hkd=>by
    have:=huni k o hk hkd;omega
   rw[h2,h1]at hx
   cases hx
   exact H.d1 i _ t hEi (z1b (Nat.lt_of_lt_of_le hi R.hN)) hd hlen
  ·have hEi:¬ E i:=by
    rcases Nat.eq_or_lt_of_le hij with e | e
    ·subst e;exact hE
    ·intro hh
     exact hE (hE2 i hh hi (x0t hok e (Nat.lt_of_lt_of_le hi R.hN) hd ht))
   have h2:(es j)[t]?=(es 0)[t]?:=R.eget (Nat.zero_le _) (by omega) fun k o hk1 hk2 hk hkd=>by
    have:=huni k o hk hkd;omega
   rw[h2,R.e0]at hx
   exact H.d2 t x (fun k o hk hko hkd=>hEi (huni k o hko hkd ▸ hk)) hx
 ·have hno:∀ (k:Nat) (o:Oper),k < N→ops[k]?=some o→o.dst≠some t:=by
   intro k o hk1 hk hkd
   obtain ⟨_,rfl⟩:=z1q hk
   exact hex ⟨k,hk1,hkd⟩
  have h2:(es j)[t]?=(es 0)[t]?:=R.eget (Nat.zero_le _) (by omega) fun k o _ hkj hk=>hno k o (by omega) hk
  rw[h2,R.e0]at hx
  exact H.d2 t x (fun k o hk hko=>hno k o (H.lt k hk) hko) hx

theorem PI.step (R:Run C sf ops X N S0 env0 es Ss Ds vs)(hok:z1s ops=true)(H:PI C ops N S0 env0 Ss Ds vs ds E G0 w0 a w G S){j:Nat}(hj:j < N)(hE:¬ E j)(hE2:∀ i,E i→i < N→z0p ops j i=true→E j)
  (hlater:∀ h i,E i→i < N→j < i→(j,h)∈(Ds (j+1)).sts→(i,h)∉(Ds (i+1)).sts)
  {G':Gh} {w':World} {S':St} {x:Value} (hI:Inv G' w' S') (hEv:Evo G w G' w') (hv:VR G' w' (vs j) x) (hS:Stp (opAt ops j).op j (Ds j) (Ds (j+1)) (Ss (j+1)) S S') :
  PI C ops N S0 env0 Ss Ds vs ds (fun i=>E i∨i=j) G0 w0 (a.put (opAt ops j).dst x) w' G' S' where
 lt:=fun i hi=>hi.elim (H.lt i) fun e=>e ▸ hj
 inv:=hI
 evo:=H.evo.trans hEv
 dfr:=by rw[Act.put_defers'];exact H.dfr
 sz:=by
  rw[← H.sz]
  unfold Act.put
  split<;>simp
 un:=fun h hn=>(H.un h fun i hi hlt=>hn i (.inl hi) hlt).trans (hS.hs h (hn j (.inr rfl) hj))
 la:=fun h i hi hlt hw hmax=>by
  by_cases e:i=j
  ·subst e;exact hS.hw h hw
  ·have hi:E i:=hi.resolve_right e
   by_cases hjw:(j,h)∈(Ds (j+1)).sts
   ·have:=hmax j (.inr rfl) hj hjw
    exact absurd hw (hlater h i hi hlt (by omega) hjw)
   ·exact (H.la h i hi hlt hw fun k hk hk2 hk3=>hmax k (.inl hk) hk2 hk3).trans (hS.hs h hjw)
 ts0:=fun hn=>by
  rw[hS.t0 (hn j _ (.inr rfl) (z1b (Nat.lt_of_lt_of_le hj R.hN)))]
  exact H.ts0 fun i o hi ho=>hn i o (.inl hi) ho
 ts1:=fun i o hi ho hia hmax=>by
  by_cases e:i=j
  ·subst e
   rw[z1b (Nat.lt_of_lt_of_le hj R.hN)]at ho;cases ho
   exact hS.t1 hia
  ·have hi:E i:=hi.resolve_right e
   obtain ⟨hi2,rfl⟩:=z1q ho
   have hja:isApp (opAt ops j).op=false:=by
    cases hh:isApp (opAt ops j).op with
    | false=>rfl
    | true =>
     exfalso
     rcases Nat.lt_trichotomy i j with q | q | q
     ·have:=hmax j _ (.inr rfl) (z1b (Nat.lt_of_lt_of_le hj R.hN)) hh;omega
     ·exact e q
     ·exact hE (hE2 i hi (H.lt i hi) (y4l hok q hi2 hh hia))
   rw[hS.t0 hja]
   exact H.ts1 i _ hi ho hia fun k o' hk ho' hka=>hmax k o' (.inl hk) ho' hka
 d1:=fun i o t hi ho hd ht=>by
  by_cases e:i=j
  ·subst e
   rw[z1b (Nat.lt_of_lt_of_le hj R.hN)]at ho;cases ho
   rw[hd]
   have:t < a.tmps.size:=by rw[H.sz];exact ht
   simpa[Act.put,this] using hv
  ·have hi:E i:=hi.resolve_right e
   obtain ⟨hi2,rfl⟩:=z1q ho
   have:=(H.d1 i _ t hi ho hd ht).mono hEv
   unfold Act.put
   split
   ·rename_i d hdd
    have hne:d≠t:=fun e'=>e (z7n hok hi2 (Nat.lt_of_lt_of_le hj R.hN) hd (e' ▸ hdd))
    simpa[Array.getElem?_setIfInBounds_ne hne] using this
   ·exact this
 d2:=fun t y hn hy=>by
  have:=(H.d2 t y (fun i o hi ho=>hn i o (.inl hi) ho) hy).mono hEv
  unfold Act.put
  split
  ·rename_i d hdd
   have hne:d≠t:=fun e'=>hn j _ (.inr rfl) (z1b (Nat.lt_of_lt_of_le hj R.hN)) (e' ▸ hdd)
   simpa[Array.getElem?_setIfInBounds_ne hne] using this
  ·exact this
end
end Go.Ev
namespace Go.Ev
open Go.RowKit

section
variable {C:Cx}{sf:Self}{ops:Array Oper}{X:Nat→AV→Prop}{N:Nat}{S0:St}{env0:Env}{es:Nat→Env}{Ss:Nat→St}{Ds:Nat→DN}{vs:Nat→AV}
variable {ds:List Deferred}{E:Nat→Prop}{G0:Gh}{w0:World}{a:Act}{w:World}{G:Gh}{S:St}

theorem y88 {S0 S S':St}{D D':DN}{j h:Nat}{ev:Operand→AV}{o:Op}{v:AV}(hh:z1n C sf ops S0 S D j ev o=some (v,S',D'))(h1:(j,h)∈D'.sts)(h2:(j,h)∉D.sts)(h3:h≠S.hs.length):z3t o=true:=by
 have hpure:D'.sts=D.sts→z3t o=true:=fun e=>absurd (e ▸ h1) h2
 unfold z1n at hh
 split at hh
 ·rfl
 ·split at hh<;>cases hh
  rcases List.mem_cons.1 h1 with e | e
  ·cases e;exact absurd rfl h3
  ·exact absurd e h2
 ·split at hh<;>cases hh
  rcases List.mem_cons.1 h1 with e | e
  ·cases e;exact absurd rfl h3
  ·exact absurd e h2
 ·split at hh<;>cases hh
  rcases List.mem_cons.1 h1 with e | e
  ·cases e;exact absurd rfl h3
  ·exact absurd e h2
 ·rfl
 ·split at hh
  ·split at hh<;>try cases hh
   split at hh<;>cases hh
   exact hpure rfl
  ·split at hh<;>cases hh
   exact hpure rfl
 ·split at hh<;>cases hh
  exact hpure rfl
 ·split at hh
  ·split at hh<;>try cases hh
   split at hh<;>try cases hh
   split at hh<;>try cases hh
   split at hh<;>cases hh
   exact hpure rfl
  ·split at hh<;>try cases hh
   split at hh<;>try cases hh
   split at hh<;>cases hh
   exact hpure rfl
  ·split at hh<;>cases hh
   exact hpure rfl
 ·split at hh<;>cases hh
  exact hpure rfl

theorem Run.fresh (R:Run C sf ops X N S0 env0 es Ss Ds vs){j h:Nat}(hj:j < N):(j,h)∉(Ds j).sts:=fun e=>absurd ((R.sts (by omega)).1 e).1 (Nat.lt_irrefl _)
theorem Run.store (R:Run C sf ops X N S0 env0 es Ss Ds vs){j h:Nat}(hj:j < N)(hw:(j,h)∈(Ds (j+1)).sts)(hl:h < (Ss j).hs.length):z3t (opAt ops j).op=true:=by
 rcases (R.at hj).1 with ⟨_,h1⟩ | ⟨_,_,_,h1⟩ | ⟨_,_,h1⟩
 ·exact y88 h1 hw (R.fresh hj) (by omega)
 ·rw[h1]at hw;exact absurd hw (R.fresh hj)
 ·rw[h1]at hw;exact absurd hw (R.fresh hj)
theorem Run.ts (R:Run C sf ops X N S0 env0 es Ss Ds vs){i:Nat}:∀ {j:Nat},i≤j→j≤N→(∀ (k:Nat) (o:Oper),i≤k→k < j→ops[k]?=some o→isApp o.op=false)→(Ss j).ts=(Ss i).ts:=by
 intro j hij
 induction hij with
 | refl=>intro _ _;rfl
 | @step m hm ih =>
  intro hj hn
  rw[← ih (by omega) fun k o h1 h2=>hn k o h1 (by omega)]
  exact (R.at (show m < N by omega)).1.eff.2.2.1 (hn m _ hm (by omega) (z1b (show m < ops.size by have:=R.hN;omega)))

theorem PI.tsAt (R:Run C sf ops X N S0 env0 es Ss Ds vs)(H:PI C ops N S0 env0 Ss Ds vs ds E G0 w0 a w G S){j:Nat}(hj:j≤N)(h1:∀ i,i < j→isApp (opAt ops i).op=true→E i)(h2:∀ i,j≤i→E i→isApp (opAt ops i).op=false):S.ts=(Ss j).ts:=by
 have hN:=R.hN
 have key:∀ m,m≤j→(∀ k,m≤k→k < j→isApp (opAt ops k).op=false)→S.ts=(Ss j).ts:=by
  intro m
  induction m with
  | zero =>
   intro _ hno
   rw[H.ts0 fun i o hi ho=>?_,← R.s0]
   ·refine (R.ts (Nat.zero_le _) hj fun k o _ hk ho=>?_).symm
    obtain ⟨_,rfl⟩:=z1q ho
    exact hno k (Nat.zero_le _) hk
   ·obtain ⟨_,rfl⟩:=z1q ho
    rcases Nat.lt_or_ge i j with q | q
    ·exact hno i (Nat.zero_le _) q
    ·exact h2 i q hi
  | succ m ih =>
   intro hm hno
   by_cases ha:isApp (opAt ops m).op=true
   ·rw[H.ts1 m _ (h1 m (by omega) ha) (z1b (show m < ops.size by omega)) ha fun k o' hk ho' hka=>?_]
    ·refine (R.ts hm hj fun k o hk1 hk2 ho=>?_).symm
     obtain ⟨_,rfl⟩:=z1q ho
     exact hno k hk1 hk2
    ·obtain ⟨_,rfl⟩:=z1q ho'
     rcases Nat.lt_or_ge m k with q | q
     ·rcases Nat.lt_or_ge k j with q2 | q2
      ·rw[hno k q q2]at hka;cases hka
      ·rw[h2 k q2 hk]at hka;cases hka
     ·exact q
   ·refine ih (by omega) fun k hk1 hk2=>?_
    rcases Nat.eq_or_lt_of_le hk1 with q | q
    ·rw[← q];simpa using ha
    ·exact hno k q hk2
 exact key j (Nat.le_refl _) fun k hk1 hk2=>by omega

theorem PI.exec (hC:CxOk C)(hs:SelfOk C sf)(R:Run C sf ops X N S0 env0 es Ss Ds vs)(hok:z1s ops=true)(hI0:Inv G0 w0 S0)(hg:GtR C G0 w0)(H:PI C ops N S0 env0 Ss Ds vs ds E G0 w0 a w G S){j:Nat}(hj:j < N)(hE:¬ E j)
  (hX:∀ v,¬ X j v) (hE2:∀ i,E i→i < N→z0p ops j i=true→E j) (hb:∀ i,z0p ops i j=true→E i) (rd:Option Nat) (n:Nat) {Q:Exit→Act→World→Prop} {K:Act→World→Prop}
  (hK:∀ w' G' S' x,Evo G w G' w'→PI C ops N S0 env0 Ss Ds vs ds (fun i=>E i∨i=j) G0 w0 (a.put (opAt ops j).dst x) w' G' S'→K (a.put (opAt ops j).dst x) w'):wpOpIn (WF rd) n C.P ops Q j K a w:=by
 have hσ0:∀ h b,G0.σ h=some b→h < S0.hs.length:=fun h b hb=>hI0.σ_lt hb
 have hle0:∀ {i},i≤N→S0.hs.length≤(Ss i).hs.length:=fun {i} hi=>by have:=R.len (Nat.zero_le i) hi;rwa[R.s0]at this
 have hlater:∀ h i,E i→i < N→j < i→(j,h)∈(Ds (j+1)).sts→(i,h)∉(Ds (i+1)).sts:=by
  intro h i hi hlt hji hjw hiw
  rcases R.wr hlt hiw with ⟨_,_,q⟩ | ⟨q,_⟩
  ·exact hE (hE2 i hi hlt (q j hji hjw))
  ·have h1:=R.len (show j+1≤i by omega) (by omega)
   rcases R.wr hj hjw with ⟨q2,_⟩ | ⟨q2,q3⟩
   ·have:=R.len (show j≤j+1 by omega) (by omega);omega
   ·omega
 have hap:isApp (opAt ops j).op=true→S.ts=(Ss j).ts:=fun hia=>H.tsAt R (by omega) (fun i hij hi=>hb i (y4l hok hij (Nat.lt_of_lt_of_le hj R.hN) hi hia)) (fun i hji hi=>by
  cases hh:isApp (opAt ops i).op with
  | false=>rfl
  | true =>
   exfalso
   rcases Nat.eq_or_lt_of_le hji with q | q
   ·subst q;exact hE hi
   ·exact hE (hE2 i hi (H.lt i hi) (y4l hok q (Nat.lt_of_lt_of_le (H.lt i hi) R.hN) hia hh)))
 have hlook:∀ t,t∈(opAt ops j).looksAt ops→VR G w ((es j).getD t .bad) (a.tmps.getD t undef):=by
  intro t ht
  rcases Nat.lt_or_ge t (es j).length with h1 | h1
  ·have:=H.look R hok hj hE hE2 hb ht (List.getElem?_eq_getElem h1)
   simpa[List.getD_eq_getElem?_getD,h1] using this
  ·rw[List.getD_eq_getElem?_getD,List.getElem?_eq_none h1];exact .bad _
 have hwant:∀ b,z1o ops (es j) (opAt ops j)=some b→Region.wanted (opAt ops j) (yielded ops a.tmps)=b:=by
  intro b h
  refine y0n (env:=es j) (G:=G) (w:=w) (by rw[H.sz,R.elen (show j≤N by omega)]) (fun d x hd hx=>?_) h
  obtain ⟨g,b',hgd,hd⟩:=hd
  refine H.look R hok hj hE hE2 hb ?_ hx
  unfold Oper.looksAt
  refine List.mem_append_right _ ?_
  rw[hgd];simp[hd]
 have hgG:GtR C G w:=hg.mono H.evo
 unfold wpOpIn
 rw[z1b (Nat.lt_of_lt_of_le hj R.hN)]
 simp only
 rcases (R.at hj).1 with ⟨hw,hd⟩ | ⟨hw,hv,hS,hD⟩ | ⟨hx,_⟩
 ·rw[if_pos (hwant _ hw)]
  have hρ:∀ x,VR G w (z5i C ((opAt ops j).looksAt ops) (es j) x) (a.eval x):=by
   intro x
   cases x with
   | tmp t =>
    simp only[z5i,Act.eval]
    split
    ·rename_i hc
     simpa using hlook t (by simpa using hc)
    ·exact .bad _
   | const v=>exact .ofVal G w v
   | global g =>
    simp only[z5i,z1l,Act.eval]
    split
    ·rename_i l hl;exact hgG g l hl
    ·exact .raw (.glob g)
   | func f=>exact .fn _ [] [] #[] #[] rfl rfl (by simp) (by simp)
  refine x3a hC hs H.inv hgG hρ (opAt ops j) hd (fun h=>R.fresh hj) ?_ ?_ ?_ ?_ ?_ ?_ hap rd n ?_
  ·intro h hl hjw h1 h2
   refine H.at R (by omega) (fun i hi hiw=>?_) (fun i hji hlt hiw hi=>?_)
   ·have:=(R.sts (j:=j) (by omega)).2 ⟨hi,hiw⟩
    simp only[z1w,List.all_eq_true]at h2
    exact hb i (by simpa[z0p] using h2 _ this)
   ·rcases Nat.eq_or_lt_of_le hji with e | e
    ·subst e;exact hE hi
    ·exact hlater h i hi hlt e hjw hiw
  ·intro hjw
   have hun:=H.un (Ss j).hs.length fun i hi hlt hiw=>by
    rcases Nat.lt_trichotomy i j with hij | e | hij
    ·have h1:=R.len (show i≤j by omega) (by omega)
     have h2:=R.len (show i+1≤j by omega) (by omega)
     rcases R.wr hlt hiw with ⟨q,_⟩ | ⟨q,q2⟩<;>omega
    ·subst e;exact hE hi
    ·exact hlater _ i hi hlt hij hjw hiw
   cases hx:G.σ (Ss j).hs.length with
   | none=>rfl
   | some b =>
    obtain ⟨y,hy⟩:=H.inv.dom _ _ hx
    have:=(List.getElem?_eq_some_iff.1 ((hun y).1 hy)).1
    have:=hle0 (show j≤N by omega)
    omega
  ·intro h hjl hnot hl
   refine H.un h fun i hi hlt hiw=>?_
   rcases Nat.lt_trichotomy i j with hij | e | hij
   ·have:=(R.sts (j:=j) (by omega)).2 ⟨hij,hiw⟩
    simp only[y7p,List.all_eq_true]at hnot
    have:=hnot _ this
    simp at this
   ·subst e;exact hE hi
   ·rcases R.wr hlt hiw with ⟨_,q,_⟩ | ⟨q,_⟩
    ·exact hE (hE2 i hi hlt (q j hij hjl))
    ·have:=hle0 (show i≤N by omega);omega
  ·intro hcl
   refine ⟨fun h hl=>H.un h fun i hi hlt hiw=>?_,H.ts0 fun i o hi ho=>?_⟩
   ·have hil:h < (Ss i).hs.length:=Nat.lt_of_lt_of_le hl (hle0 (by omega))
    have hst:=R.store hlt hiw hil
    rcases Nat.lt_trichotomy i j with hij | e | hij
    ·have:=y5 hok hij (Nat.lt_of_lt_of_le hj R.hN) (by rw[hst];rfl)
     rw[hcl]at this;cases this
    ·subst e;exact hE hi
    ·exact hE (hE2 i hi hlt (y60 hok hij (Nat.lt_of_lt_of_le hlt R.hN) (by rw[hst];rfl) hcl))
   ·obtain ⟨hlt,rfl⟩:=z1q ho
    cases hh:isApp (opAt ops i).op with
    | false=>rfl
    | true =>
     exfalso
     rcases Nat.lt_trichotomy i j with hij | e | hij
     ·have:=y5 hok hij (Nat.lt_of_lt_of_le hj R.hN) (by rw[hh];simp)
      rw[hcl]at this;cases this
     ·subst e;exact hE hi
     ·exact hE (hE2 i hi (H.lt i hi) (y60 hok hij hlt (by rw[hh];simp) hcl))
  ·intro k x hk
   obtain ⟨b,o,h1,h2,h3⟩:=hI0.blk _ _ hk
   exact h3.noHB hσ0
  ·intro g l hl
   have:=(hg g l hl).noH hσ0
   simpa[noH] using this
  ·intro G' w' x S' hI' hE' hv hS
   exact hK _ _ _ _ hE' (H.step R hok hj hE hE2 hlater hI' hE' hv hS)
 ·have hww:=hwant _ hw
  rw[if_neg (by rw[hww];simp)]
  refine ⟨fun _ _=>trivial,hK _ _ _ _ (Evo.refl _ _) (H.step R hok hj hE hE2 hlater H.inv (Evo.refl _ _) (hv ▸ VR.undef) ⟨fun h _=>SameAt.refl _ _,fun h hh=>?_,fun _=>rfl,fun hia=>?_⟩)⟩
  ·rw[hD]at hh;exact absurd hh (R.fresh hj)
  ·rw[hS];exact hap hia
 ·exact absurd hx (hX _)

theorem PI.done (R:Run C sf ops X N S0 env0 es Ss Ds vs)(hok:z1s ops=true)(H:PI C ops N S0 env0 Ss Ds vs ds E G0 w0 a w G S)(hall:∀ j,j < N→E j):CodePost ds G0 w0 .normal (es N) (Ss N) .normal a w:=by
 refine ⟨G,H.inv.congr (fun k x=>?_) ?_,H.evo,⟨?_,fun t x hx=>?_⟩,H.dfr,rfl⟩
 ·exact (H.at R (Nat.le_refl _) (fun i hi _=>hall i hi) (fun i h1 h2=>by omega)) x
 ·exact (H.tsAt R (Nat.le_refl _) (fun i hi _=>hall i hi) (fun i h1 h2=>by have:=H.lt i h2;omega))
 ·rw[H.sz,R.elen (Nat.le_refl _)]
 ·have hlen:t < env0.length:=by
   have:=(List.getElem?_eq_some_iff.1 hx).1
   rwa[R.elen (Nat.le_refl _)]at this
  by_cases hex:∃ i,∃ hi:i < N,(opAt ops i).dst=some t
  ·obtain ⟨i,hi,hd⟩:=hex
   have h1:=R.eset hi hd hlen
   have h2:(es N)[t]?=(es (i+1))[t]?:=R.eget (by omega) (Nat.le_refl _) fun k o hk1 hk2 hk hkd=>by
    obtain ⟨hk3,rfl⟩:=z1q hk
    have:=z7n hok hk3 (Nat.lt_of_lt_of_le hi R.hN) hkd hd;omega
   rw[h2,h1]at hx
   cases hx
   exact H.d1 i _ t (hall i hi) (z1b (Nat.lt_of_lt_of_le hi R.hN)) hd hlen
  ·have hno:∀ (k:Nat) (o:Oper),k < N→ops[k]?=some o→o.dst≠some t:=by
    intro k o hk1 hk hkd
    obtain ⟨_,rfl⟩:=z1q hk
    exact hex ⟨k,hk1,hkd⟩
   have h2:(es N)[t]?=(es 0)[t]?:=R.eget (Nat.zero_le _) (Nat.le_refl _) fun k o _ hkN hk=>hno k o hkN hk
   rw[h2,R.e0]at hx
   exact H.d2 t x (fun k o hk hko=>hno k o (H.lt k hk) hko) hx

theorem ready_nil (hok:z1s ops=true){listed:Array Bool}(hsz:listed.size=ops.size)(h:Region.ready .any ops listed=[]):∀ j,j < ops.size→listed.getD j false=true:=by
 intro j
 induction j using Nat.strongRecOn with
 | _ j ih =>
  intro hj
  cases hx:listed.getD j false with
  | true=>rfl
  | false =>
   have hx':listed.getD j true=false:=by
    have:j < listed.size:=by omega
    simpa[Array.getD,this] using hx
   have:j∈Region.ready .any ops listed:=mem_ready.2 ⟨hx',(opAt ops j),z1b hj,fun e he hbd=>by
    have hlt:=y4a hok hj (by simpa using he) hbd
    exact ih e.on hlt (by omega)⟩
   rw[h]at this;cases this

theorem z7g:∀ (l:List Bool) (i:Nat),l[i]?=some false→(l.set i true).count false+1=l.count false
 | [],i,h=>by simp at h
 | b::l,0,h=>by simp at h;subst h;simp
 | b::l,i+1,h=>by
  have:=z7g l i (by simpa using h)
  simp only[List.set_cons_succ,List.count_cons]
  omega

theorem z5b (n i:Nat):¬ ((Array.replicate n false).getD i false=true):=by
 intro h
 rw[Array.getD_eq_getD_getElem?,Array.getElem?_replicate]at h
 split at h<;>simp at h

theorem wpAny_sound (hC:CxOk C)(hs:SelfOk C sf)(R:Run C sf ops X N S0 env0 es Ss Ds vs)(hX:∀ j v,¬ X j v)(hok:z1s ops=true)(hI0:Inv G0 w0 S0)(hg:GtR C G0 w0)(rd:Option Nat)(n:Nat){Q:Exit→Act→World→Prop}
  (hpre:∀ j,j < ops.size→N≤j→∀ i,i < N→z0p ops i j=true)
  (hrest:∀ (fuel:Nat) (listed:Array Bool) (a:Act) (w:World) (G:Gh) (S:St),listed.size=ops.size→listed.toList.count false≤fuel→(∀ j,j < N→listed.getD j false=true) →
   PI C ops N S0 env0 Ss Ds vs ds (fun i=>listed.getD i false=true) G0 w0 a w G S→wpAnyIn (WF rd) n C.P .any ops Q fuel listed a w):∀ (fuel:Nat) (listed:Array Bool) (a:Act) (w:World) (G:Gh) (S:St),listed.size=ops.size→listed.toList.count false≤fuel →
  Closed ops (fun i=>listed.getD i false=true)→PI C ops N S0 env0 Ss Ds vs ds (fun i=>listed.getD i false=true) G0 w0 a w G S→wpAnyIn (WF rd) n C.P .any ops Q fuel listed a w:=by
 intro fuel
 induction fuel with
 | zero =>
  intro listed a w G S hsz hcnt hcl H
  refine hrest 0 listed a w G S hsz hcnt (fun j hj=>?_) H
  have hN:=R.hN
  have hj':j < listed.size:=by omega
  cases hx:listed.getD j false with
  | true=>rfl
  | false =>
   have:false∈listed.toList:=by
    have h1:listed[j]=false:=by simpa[Array.getD,hj'] using hx
    rw[← h1];exact Array.getElem_mem_toList hj'
   have:=List.count_pos_iff.2 this
   omega
 | succ fuel ih =>
  intro listed a w G S hsz hcnt hcl H
  by_cases hall:∀ j,j < N→listed.getD j false=true
  ·exact hrest _ listed a w G S hsz hcnt hall H
  have hN:=R.hN
  refine ⟨fun h=>absurd (fun j hj=>ready_nil hok hsz h j (by omega)) hall,fun j hj=>?_⟩
  obtain ⟨h1,o,ho,hafter⟩:=mem_ready.1 hj
  obtain ⟨hlt,rfl⟩:=z1q ho
  have hj':j < listed.size:=by omega
  have hf:listed[j]=false:=by simpa[Array.getD,hj'] using h1
  have hE:¬ listed.getD j false=true:=by simp[Array.getD,hj',hf]
  have hb:∀ i,z0p ops i j=true→listed.getD i false=true:=by
   intro i hb
   obtain ⟨o',ho',e,he,hbd,h⟩:=z43 hb
   rw[ho]at ho';cases ho'
   have hl:=hafter e (by simpa using he) hbd
   rcases h with rfl | ⟨_,hb2⟩
   ·exact hl
   ·exact hcl.before e.on i hl hb2
  have hjN:j < N:=by
   rcases Nat.lt_or_ge j N with h | h
   ·exact h
   ·exact absurd (fun i hi=>hb i (hpre j hlt h i hi)) hall
  refine H.exec hC hs R hok hI0 hg hjN hE (hX j) (fun i hi hilt hb=>hcl.before i j hi hb) hb rd n ?_
  intro w' G' S' x _ H'
  have heq:(fun i=>listed.getD i false=true∨i=j)=(fun i=>(listed.setIfInBounds j true).getD i false=true):=by
   funext i
   apply propext
   by_cases e:j=i
   ·subst e;simp[hj']
   ·rw[getD_set_ne false e]
    exact ⟨fun h=>h.resolve_right (Ne.symm e),.inl⟩
  rw[heq]at H'
  refine ih _ _ _ _ _ (by simpa using hsz) ?_ ?_ H'
  ·have:=z7g listed.toList j (by simp[hj',hf])
   simp only[Array.toList_setIfInBounds]
   omega
  ·intro k ok hk hok' e he hbd
   have hk:(listed.setIfInBounds j true).getD k false=true:=hk
   show (listed.setIfInBounds j true).getD e.on false=true
   by_cases ek:j=k
   ·subst ek
    rw[ho]at hok';cases hok'
    exact getD_set_true (hafter e (by simpa using he) hbd)
   ·rw[getD_set_ne false ek]at hk
    exact getD_set_true (hcl k ok hk hok' e he hbd)

theorem z8i {listed:Array Bool}(hsz:listed.size=ops.size)(hall:∀ j,j < ops.size→listed.getD j false=true):Region.ready .any ops listed=[]:=by
 apply List.eq_nil_iff_forall_not_mem.2
 intro j hj
 obtain ⟨h1,o,ho,_⟩:=mem_ready.1 hj
 have hlt:=(Array.getElem?_eq_some_iff.1 ho).1
 have:=hall j hlt
 have hj':j < listed.size:=by omega
 simp[Array.getD,hj']at h1 this
 rw[h1]at this;cases this

theorem y1k (hC:CxOk C)(hs:SelfOk C sf)(R:Run C sf ops X N S0 env0 es Ss Ds vs)(hX:∀ j v,¬ X j v)(hok:z1s ops=true){a:Act}{w:World}{G:Gh}(hI:Inv G w S0)(hg:GtR C G w)
  (he:ER G w env0 a) (hd:a.defers=ds) (id:Nat) (rd:Option Nat) (n:Nat) {Q:Exit→Act→World→Prop} (hpre:∀ j,j < ops.size→N≤j→∀ i,i < N→z0p ops i j=true)
  (hrest:∀ w1,Evo G w G w1→∀ (fuel:Nat) (listed:Array Bool) (a':Act) (w':World) (G':Gh) (S':St),listed.size=ops.size→listed.toList.count false≤fuel→(∀ j,j < N→listed.getD j false=true) →
   PI C ops N S0 env0 Ss Ds vs ds (fun i=>listed.getD i false=true) G w1 a' w' G' S'→wpAnyIn (WF rd) n C.P .any ops Q fuel listed a' w'):(Code.region id ops true).wpIn (WF rd) n C.P Q a w:=by
 refine wpIn_region_any hC.mixed ?_
 have hE1:Evo G w G { w with drawn:=w.drawn+1 }:=⟨fun _ _ h=>h,fun _ _ _=>rfl,fun _ _ h=>h,fun _ _ h=>.inl h,fun k b c m z h=>⟨b,c,m,h,.inl ⟨rfl,rfl,rfl⟩⟩,fun k b c m z h=>.inl ⟨c,m,z,h⟩,fun _ _ h=>.inl h,rfl,Nat.le_refl _,rfl,rfl,rfl,fun _ _ _ _=>rfl⟩
 have hI1:Inv G { w with drawn:=w.drawn+1 } S0:=⟨fun h hb hh=>let ⟨b,o,q1,q2,q3⟩:=hI.blk h hb hh; ⟨b,o,q1,q2,q3.mono hE1⟩,hI.dom,hI.inj,hI.fr,hI.base,hI.tok,hI.tdom,hI.tinj,hI.tσ,hI.kin,hI.bin⟩
 refine wpAny_sound (ds:=ds) hC hs R hX hok hI1 (hg.mono hE1) rd n (Q:=Q) hpre (hrest _ hE1) ops.size _ a _ G S0 (by simp) ?_ ?_ ?_
 ·have:=List.count_le_length (a:=false) (l:=(Array.replicate ops.size false).toList)
  simp at this ⊢
 ·intro j o hj
  exact absurd hj (z5b _ _)
 ·have hno:∀ i,¬ ((Array.replicate ops.size false).getD i false=true):=z5b _
  exact {
   lt:=fun i hi=>absurd hi (hno i)
   inv:=hI1
   evo:=Evo.refl _ _
   dfr:=hd
   sz:=he.1
   un:=fun h _=>SameAt.refl _ _
   la:=fun h i hi=>absurd hi (hno i)
   ts0:=fun _=>rfl
   ts1:=fun i o hi=>absurd hi (hno i)
   d1:=fun i o t hi=>absurd hi (hno i)
   d2:=fun t x _ hx=>(he.2 t x hx).mono hE1 }

theorem y83 (hC:CxOk C)(hs:SelfOk C sf)(hok:z1s ops=true){env env':Env}{S S':St}(h:z11 C sf ops S (ops.toList.take ops.size) 0 env S ⟨[],[]⟩=some (env',S')){G:Gh}{w:World}{a:Act}(hI:Inv G w S)(hg:GtR C G w)
  (he:ER G w env a) (hd:a.defers=ds) (id:Nat) (rd:Option Nat) (n:Nat) {Q:Exit→Act→World→Prop} (hQ:∀ e a' w',CodePost ds G w .normal env' S' e a' w'→Q e a' w'):(Code.region id ops true).wpIn (WF rd) n C.P Q a w:=by
 obtain ⟨es,Ss,Ds,vs,h1,h2,h3,h4,h5,h6⟩:=z9l (X:=fun _ _=>False) (Nat.le_refl _) _ 0 env S ⟨[],[]⟩ env' S' (Nat.zero_le _) rfl h
 have R:Run C sf ops (fun _ _=>False) ops.size S env es Ss Ds vs:=⟨h1,Nat.le_refl _,h2,h3,h4⟩
 refine y1k hC hs R (fun _ _ h=>h) hok hI hg he hd id rd n (fun j h1 h2=>by omega) ?_
 intro w1 hE1 fuel listed a' w' G' S1 hsz hcnt hall H
 refine wpAnyIn_done (z8i hsz hall) ?_ fuel
 obtain ⟨G',q1,q2,q3⟩:=H.done R hok hall
 rw [h5,h6] at *
 exact hQ _ _ _ ⟨G',q1,hE1.trans q2,q3⟩

theorem y9x (hC:CxOk C)(hs:SelfOk C sf)(hok:z1s ops=true)(hfin:y3j ops=true){env env1 env':Env}{S S1 S':St}{x:EX}(h:z11 C sf ops S (ops.toList.take (ops.size-1)) 0 env S ⟨[],[]⟩=some (env1,S1))
  (h':z2g C sf ops (ops.toList.drop (ops.size-1)) env1 S1=some (x,env',S')) {G:Gh} {w:World} {a:Act} (hI:Inv G w S) (hg:GtR C G w)
  (he:ER G w env a) (hd:a.defers=ds) (id:Nat) (rd:Option Nat) (n:Nat) {Q:Exit→Act→World→Prop} (hQ:∀ e a' w',CodePost ds G w x env' S' e a' w'→Q e a' w'):(Code.region id ops true).wpIn (WF rd) n C.P Q a w:=by
 obtain ⟨es,Ss,Ds,vs,h1,h2,h3,h4,h5,h6⟩:=z9l (X:=fun _ _=>False) (N:=ops.size-1) (by omega) _ 0 env S ⟨[],[]⟩ env1 S1 (Nat.zero_le _) rfl h
 have R:Run C sf ops (fun _ _=>False) (ops.size-1) S env es Ss Ds vs:=⟨h1,by omega,h2,h3,h4⟩
 have hpos:0 < ops.size:=by
  rcases Nat.eq_zero_or_pos ops.size with h | h
  ·simp[y3j,h]at hfin
  ·exact h
 refine y1k hC hs R (fun _ _ h=>h) hok hI hg he hd id rd n (fun j g1 g2 i hi=>?_) ?_
 ·have:j=ops.size-1:=by omega
  subst this
  simp only[y3j,Bool.and_eq_true,List.all_eq_true,List.mem_range]at hfin
  exact hfin.1 i hi
 ·intro w1 hE1 fuel listed a' w' G' S2 hsz hcnt hall H
  obtain ⟨G2,q1,q2,q3,q4,_⟩:=H.done R hok hall
  rw[h5]at q3
  rw[h6]at q1
  have hnl:¬ listed.getD (ops.size-1) false=true:=fun e=>by have:=H.lt _ e;omega
  have hl1:ops.size-1 < listed.size:=by omega
  have hf:listed[ops.size-1]=false:=by simpa[Array.getD,hl1] using hnl
  have hops:=y0h hC hs ops rd n ds (Q:=Q) (ops.size-1) _ env1 S1 x env' S' G2 w' a' rfl h' q1 (hg.mono (hE1.trans q2)) q3 q4 (fun e a2 w2 hp=>by
   obtain ⟨G3,p1,p2,p3⟩:=hp
   exact hQ _ _ _ ⟨G3,p1,(hE1.trans q2).trans p2,p3⟩)
  have hdrop:(List.range ops.size).drop (ops.size-1)=[ops.size-1]:=by
   rw[List.drop_eq_getElem_cons (by simp;omega)]
   simp
   try omega
  rw[hdrop,wpOpsIn_cons]at hops
  cases fuel with
  | zero =>
   have:false∈listed.toList:=by rw[← hf];exact Array.getElem_mem_toList hl1
   have:=List.count_pos_iff.2 this
   omega
  | succ fuel =>
   refine ⟨fun h=>absurd (ready_nil hok hsz h _ (by omega)) hnl,fun j hj=>?_⟩
   obtain ⟨g1,o,ho,_⟩:=mem_ready.1 hj
   have hlt:=(Array.getElem?_eq_some_iff.1 ho).1
   have:j=ops.size-1:=by
    rcases Nat.lt_or_ge j (ops.size-1) with h | h
    ·have:=hall j h
     have hj':j < listed.size:=by omega
     simp[Array.getD,hj']at g1 this
     rw[g1]at this;cases this
    ·omega
   subst this
   refine wpOpIn_mono (fun a2 w2 hh=>wpAnyIn_done (z8i (by simpa using hsz) fun k hk=>?_) hh fuel) hops
   by_cases e:ops.size-1=k
   ·subst e;simp[hl1]
   ·rw[getD_set_ne false e];exact hall k (by omega)
end
end Go.Ev
