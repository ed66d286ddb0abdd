/- An evaluator of the model, part 8: a builder that grows. -/
import Derived.Test.YtdpfgjljehajbaaGreatDoorE4
import Derived.Shelf.Strings.Builder2
set_option linter.unusedVariables false
set_option linter.unusedSimpArgs false
namespace Go.Ev
open Go.RowKit Go.Shelf Go.Proofs

set_option maxHeartbeats 2000000 in
set_option maxRecDepth 1000000 in
theorem x46 {P:Program}{ρ:Ren}(L:Lays.n241 P ρ)(X:Builder.Extra P ρ)(b n:Nat)(pv:Value)(A:Option Addr)(w:World)(hbk:w.heap[b]?=some (.cells #[pv,.slice A 0 0] (ρ.t 72) (0,0)))(hn:n≤281474976710656) :
  Calls P (ρ.f 241) #[.pointer (some ⟨b,0,none⟩),.int .i64 n] w fun e w'=>e=.returned (.tuple #[])∧∃ cs:Array Value,n≤cs.size∧cs.size≤maxLen∧∃ w1,Adds w w1 (.cells cs (ρ.t 5) (0,0))∧w'=w1.setCell ⟨b,1,none⟩ (.slice (some ⟨w.heap.size,0,none⟩) 0 cs.size):=by
 obtain ⟨cs,hrun,hle,hmax⟩:=Lib.run_makeNoZero (P:=P) w.drew #[(ρ.t 3)] (ρ.t 37) (ρ.t 5) L.t37 n hn
 have hw:IntKind.i64.wrap (IntKind.i64.wrap 0+(n:Int))=n:=by
  rw[IntKind.wrap_i64,IntKind.wrap_i64]
  omega
 have hcall:(callFunc (ρ.f 277) #[.int .i64 (IntKind.i64.wrap (IntKind.i64.wrap 0+(n:Int)))]).run P w.drew=.ok (.value (.slice (some ⟨w.drew.heap.size,0,none⟩) n cs.size)) (w.drew.drew.drew.alloc (.cells cs (ρ.t 5))):=by
  rw[hw,run_callFunc_extern L.f277 (by kernel_rfl) (by kernel_rfl) (by kernel_rfl) (e:=Extern.BytealgMakeNoZero.makeNoZero #[(ρ.t 3)] #[(ρ.t 37)]) (by kernel_rfl),hrun]
  rfl
 have c1:w.drew.cell? ⟨b,1,none⟩=some (.slice A 0 0):=by
  have:w.drew.heap[b]?=_:=hbk
  rw[Lib.cell_of_heap this];rfl
 have c2:(w.alloc (.cells cs (ρ.t 5))).cell? ⟨b,1,none⟩=some (.slice A 0 0):=by
  have hlt:b < w.heap.size:=by
   rcases Nat.lt_or_ge b w.heap.size with h' | h'
   ·exact h'
   ·simp[Array.getElem?_eq_none h']at hbk
  have:(w.alloc (.cells cs (ρ.t 5))).heap[b]?=_:=(Lib.alloc_old w _ b hlt).trans hbk
  rw[Lib.cell_of_heap this];rfl
 have f2:(w.alloc (.cells cs (ρ.t 5))).frozen? ⟨b,1,none⟩=false:=by
  have hlt:b < w.heap.size:=by
   rcases Nat.lt_or_ge b w.heap.size with h' | h'
   ·exact h'
   ·simp[Array.getElem?_eq_none h']at hbk
  exact Lib.frozen_of_heap ((Lib.alloc_old w _ b hlt).trans hbk) 1
 have hcopy:∀ W:World,(Builtin.copy_ #[(ρ.t 37),(ρ.t 37)] (ρ.t 3) #[.slice (some ⟨w.heap.size,0,none⟩) 0 cs.size,.slice A 0 0]).run P W=.ok (goInt 0) W :=
  fun W=>run_copy_none W (ρ.t 37) (ρ.t 37) (ρ.t 3) (ρ.t 5) _ _ 0 cs.size 0 0 L.t37 X.sizeByte rfl
 clear hw
 have mixed:=L.mixed
 have t72:=L.t72;have a72:=L.a72;have z72:=L.z72;have v72:=L.v72;have u72:=run_underlying L.t72
 have t70:=L.t70;have a70:=L.a70;have z70:=L.z70;have v70:=L.v70;have u70:=run_underlying L.t70
 have t37:=L.t37;have a37:=L.a37;have z37:=L.z37;have v37:=L.v37;have u37:=run_underlying L.t37
 have t3:=L.t3;have a3:=L.a3;have z3:=L.z3;have v3:=L.v3;have u3:=run_underlying L.t3
 have t5:=X.t5;have a5:=X.a5;have z5:=X.z5;have v5:=X.v5;have u5:=run_underlying X.t5
 go_enter L.f241,Body.n241_ntmps ρ
 go_wp2
 have hfin:=hmax (by unfold maxLen;omega)
 go_region_o
 all_goals (go_wp2;go_end0;exact ⟨rfl,cs,hle,hfin,w.drew.drew.drew.alloc (.cells cs (ρ.t 5)),⟨rfl,rfl,rfl,rfl⟩,rfl⟩)

section
variable {C:Cx}{G:Gh}{w:World}{S:St}
theorem Mods.setCell {b i:Nat}{cs:Array Value}{t:TypeId}(h:w.heap[b]?=some (.cells cs t (0,0)))(v:Value):Mods w (w.setCell ⟨b,i,none⟩ v) b (.cells (cs.setIfInBounds i v) t (0,0)) where
 at_:=by simp[World.setCell,Array.getElem?_modify,h]
 other:=fun k hk=>by simp[World.setCell,Array.getElem?_modify,Ne.symm hk]
 size:=by simp[World.setCell]
 os:=rfl
 tape:=rfl
 output:=rfl

theorem y9h {h:Nat}{p:List AV×TypeId}(hb:z1e S h=some p):S.hs[h]?=some (some (.cells p.1 p.2)):=by
 unfold z1e at hb
 split at hb<;>cases hb
 assumption
def y2r (bt be:TypeId)(args:List AV)(S:St):Option (CR×St) :=
 match args with
 | [.ptr h 0,.int .i64 n]=>match z1e S h with
  | some ([a,.vs [] 0 .zero],t)=>if t=bt∧0≤n∧n≤140737488355328 then some (.ret (.tup []),({ S with ts:=S.ts++[(0,(1,be))] }:St).put h (.cells [a,.vs [] 0 (.own S.ts.length)] t)) else none
  | _=>none
 | _=>none
theorem x29 {ρ:Ren}(L:Lays.n241 C.P ρ)(X:Builder.Extra C.P ρ){args:List AV}{S S':St}{r:CR}(h:y2r (ρ.t 72) (ρ.t 5) args S=some (r,S')):CallOk C (ρ.f 241) args S r S':=by
 unfold y2r at h
 split at h<;>try cases h
 rename_i hh n
 split at h<;>try cases h
 rename_i p a t hb
 split at h<;>cases h
 rename_i hc
 obtain ⟨rfl,hn0,hn⟩:=hc
 intro G w us hI hg has
 obtain ⟨v,hv1,hv2⟩:=has.2 0 _ rfl
 obtain ⟨u,hu1,hu2⟩:=has.2 1 _ rfl
 have has1:us=[v,u]:=by
  match us,has.1,hv1,hu1 with
  | [x,y],_,hv1,hu1=>simp at hv1 hu1;rw[hv1,hu1]
 subst has1
 have eu:=hu2.int_inv
 subst eu
 cases hv2 with
 | ptr _ _ b hσ =>
  obtain ⟨b',o,h1,h2,h3⟩:=hI.blk _ _ (y9h hb)
  rw[hσ]at h1;cases h1
  cases h3 with
  | cells _ _ cs hs hcs =>
   have hs2:cs.size=2:=by simpa using hs
   have ha:=hcs 0 a rfl
   have hvs:=hcs 1 _ rfl
   have ecs:cs=#[cs.getD 0 undef,cs.getD 1 undef]:=by
    apply Array.ext
    ·simp[hs2]
    ·intro i hi1 hi2
     match i,hi1,hi2 with
     | 0,hi1,_=>simp[Array.getD,hi1]
     | 1,hi1,_=>simp[Array.getD,hi1]
     | i+2,hi1,_=>omega
   generalize cs.getD 0 undef=pv at ha ecs
   generalize cs.getD 1 undef=bv at hvs ecs
   subst ecs
   cases hvs with
   | vs _ _ _ A c f hcc hf hheld ht =>
    obtain ⟨_,rfl⟩:=ht
    have hcall:=x46 L X b n.toNat pv A w h2 (by omega)
    rw[Int.toNat_of_nonneg hn0]at hcall
    refine hcall.mono ?_
    rintro e w' ⟨rfl,cs1,q1,q2,w1,hadds,rfl⟩
    have hk:G.tk S.ts.length=none:=hI.tk_len
    have i1:Inv (G.tnew S.ts.length w.heap.size cs1.size 0 (1,ρ.t 5)) w1 { S with ts:=S.ts++[(0,(1,ρ.t 5))] } :=
     Inv.tnew (z:=(1,ρ.t 5)) hadds hI (.inl hk) (by simp) (Nat.zero_le _) q2 (by simp) rfl rfl (by simp) (fun j hj=>by
      rcases Nat.lt_or_ge j S.ts.length with h1 | h1
      ·simp only;rw[List.getElem?_append_left h1]
      ·simp only
       rw[List.getElem?_append_right h1,List.getElem?_eq_none h1]
       have:1≤j-S.ts.length:=by omega
       simp;omega)
    have e1:Evo G w (G.tnew S.ts.length w.heap.size cs1.size 0 (1,ρ.t 5)) w1:=Evo.tnew hadds hI (.inl hk)
    have hlt:b < w.heap.size:=(Array.getElem?_eq_some_iff.1 h2).1
    have hb1:w1.heap[b]?=some (.cells #[pv,.slice A 0 0] (ρ.t 72) (0,0)):=by rw[hadds.old hlt];exact h2
    have hσ1:(G.tnew S.ts.length w.heap.size cs1.size 0 (1,ρ.t 5)).σ hh=some b:=hσ
    have hm:=Mods.setCell (i:=1) hb1 (.slice (some ⟨w.heap.size,0,none⟩) 0 cs1.size)
    refine ⟨_,Inv.put hm i1 hσ1 (.cells _ _ _ (by simp) fun i x hx=>?_),e1.trans (Evo.mods hm i1 hσ1),_,rfl,VR.undef⟩
    match i,hx with
    | 0,hx =>
     simp at hx;subst hx
     simpa[Array.getD] using ha.mono e1
    | 1,hx =>
     simp at hx;subst hx
     have:VR (G.tnew S.ts.length w.heap.size cs1.size 0 (1,ρ.t 5)) w1 (.vs [] 0 (.own S.ts.length)) (.slice (some ⟨w.heap.size,0,none⟩) 0 cs1.size) :=
      .vs [] 0 _ _ _ (fun _=>undef) (Nat.zero_le _) (by simp) (.inl rfl) ⟨w.heap.size,cs1.size,0,(1,ρ.t 5),upd_same _ _ _,Nat.le_refl _,fun _=>⟨rfl,rfl⟩⟩
     simpa[Array.getD] using this
theorem x28 {bt be:TypeId}{args:List AV}{S S':St}{r:CR}(h:y2r bt be args S=some (r,S')):Wl S S':=by
 unfold y2r at h
 split at h<;>try cases h
 split at h<;>try cases h
 split at h<;>cases h
 refine Wl.trans (S':={ S with ts:=S.ts++[(0,(1,be))] }) ⟨Nat.le_refl _,by simp,fun _ h=>h,fun _ _ _=>rfl⟩ (Wl.put _ _ _)
end
end Go.Ev
