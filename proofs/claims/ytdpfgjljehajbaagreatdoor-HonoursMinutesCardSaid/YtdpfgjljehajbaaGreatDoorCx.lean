/- The context in which alive is evaluated. -/
import Derived.Test.YtdpfgjljehajbaaGreatDoorLp
import Derived.Test.YtdpfgjljehajbaaGreatDoorE8
import Derived.Test.YtdpfgjljehajbaaGreatDoorS1
set_option linter.unusedVariables false
set_option linter.unusedSimpArgs false
set_option maxRecDepth 100000
noncomputable section
namespace Go.Proofs
open Go.Ev Go.Shelf Go.RowKit Go.Maps Go.Sort
theorem Tryz.bextra169:Builder.Extra Tryz.prog Tryz.lays169_ren where
 sizeBuilder:=by kernel_rfl
 liesBuilder:=by kernel_rfl
 t5:=Tryz.underlying5
 a5:=Tryz.isAgg5
 z5:=Tryz.sizeOf5
 v5:=Tryz.zeroValue5
 infoByte:=by kernel_rfl
 cellsByte:=by kernel_rfl
 sizeByte:=by kernel_rfl
 neB5:=by decide
theorem Tryz.bextra241:Builder.Extra Tryz.prog Tryz.lays241_ren where
 sizeBuilder:=by kernel_rfl
 liesBuilder:=by kernel_rfl
 t5:=Tryz.underlying5
 a5:=Tryz.isAgg5
 z5:=Tryz.sizeOf5
 v5:=Tryz.zeroValue5
 infoByte:=by kernel_rfl
 cellsByte:=by kernel_rfl
 sizeByte:=by kernel_rfl
 neB5:=by decide

theorem Tryz.sortsA (m:Nat):AnyZI.SortsIn Tryz.prog Tryz.sortedA_ren Fence.wide m :=
  ⟨fun blk off cap ss W hH hblk hsz=>callsIn_wide.2 (AnyM.slices_Sort_int Tryz.sortA blk off cap ss W hH hblk hsz),
   fun p cap W=>callsIn_wide.2 (AnyM.slices_Sort_int_none Tryz.sortA p cap W)⟩
theorem Tryz.sorted_ok {C:Cx}(hP:C.P=Tryz.prog){args:List AV}{S S':St}{r:CR}(h:z3o 174 3 args S=some (r,S')):CallOk C 141 args S r S':=by
 obtain ⟨P,gt,hk,eqt,nat⟩:=C
 simp only at hP
 subst hP
 exact y9p (C:={ P:=Tryz.prog,gt:=gt,hk:=hk,eqt:=eqt,nat:=nat }) (ρ:=Tryz.sortedA_ren) (τ:=Tryz.keysA_ren) (et:=4) Tryz.sortedA { Tryz.keysA with } Tryz.underlying4 (Tryz.sortsA _) (enters_of Tryz.func92 (by kernel_rfl) rfl) (enters_of Tryz.func174 (by kernel_rfl) rfl) h
theorem Tryz.cloneSpecM:z6t Tryz.prog 108 58 2 16:=⟨fun ad n c news w h1 h2 h3 h4 h5=>Tryz.clone108 ad n c news w h1 h2 h3 h4 h5,fun n c w=>Tryz.clonenil108 n c w⟩
theorem Tryz.cloneSpecD:z6t Tryz.prog 109 46 9 72:=⟨fun ad n c news w h1 h2 h3 h4 h5=>Tryz.clone109 ad n c news w h1 h2 h3 h4 h5,fun n c w=>Tryz.clonenil109 n c w⟩

def Tryz.u8s (l:List Nat):List AV:=l.map fun (n:Nat)=>.int .u8 (n:Int)
def Tryz.gt:Nat→Option (List AV)
 | 2=>some ([1,10,100,1000,10000,100000,1000000,10000000,100000000,1000000000,10000000000,100000000000,1000000000000,10000000000000,100000000000000,1000000000000000,10000000000000000,100000000000000000,1000000000000000000,10000000000000000000].map fun (n:Nat)=>.int .u64 (n:Int))
 | 6=>some (u8s [0,1,28,2,29,14,24,3,30,22,20,15,25,17,4,8,31,27,13,23,21,19,16,7,26,12,18,6,11,5,10,9])
 | 7=>some (u8s [0,1,56,2,57,49,28,3,61,58,42,50,38,29,17,4,62,47,59,36,45,43,51,22,53,39,33,30,24,18,12,5,63,55,48,27,60,41,37,16,46,35,44,21,52,32,23,11,54,26,40,15,34,20,31,10,25,14,19,9,13,8,7,6])
 | _=>none
def Tryz.hk0 (g:FuncId):Option (List AV→St→Option (CR×St)) :=
 if g=155 then some (y44 195 5) else if g=192 then some (y2r 195 5) else if g=141 then some (z3o 174 3) else if g=108 then some (z8y 2 16) else if g=109 then some (z8y 9 72) else none
def Tryz.C00:Cx:={ P:=Tryz.prog,gt:=Tryz.gt,hk:=Tryz.hk0,eqt:=y2u Tryz.prog,nat:=z9x 222 244 218 }

def Tryz.okF (n : Nat) : Bool := match Tryz.prog.funcs[n]? with | some fn => (match fn.body with | some c => okC c | none => true) && !(fn.name == "runtime.NumGoroutine") | none => true
theorem Tryz.ok0:(List.range 276).all Tryz.okF=true:=by kernel_rfl
theorem Tryz.size:Tryz.prog.funcs.size=276:=by kernel_rfl
theorem Tryz.okF_of {g:Nat}{fn:Func}(h:Tryz.prog.funcs[g]?=some fn):Tryz.okF g=true:=by
 have hlt:g < 276:=by rw[← Tryz.size];exact (Array.getElem?_eq_some_iff.1 h).1
 have:=Tryz.ok0
 rw[List.all_eq_true]at this
 exact this g (List.mem_range.2 hlt)
theorem Tryz.nat222:y3t Tryz.prog 222 Extern.BytealgCount.count:=⟨Tryz.f222,by kernel_rfl,by kernel_rfl,by kernel_rfl,by kernel_rfl,by kernel_rfl⟩
theorem Tryz.nat244:y3t Tryz.prog 244 Extern.BytealgIndexByte.indexByte:=⟨Tryz.f244,by kernel_rfl,by kernel_rfl,by kernel_rfl,by kernel_rfl,by kernel_rfl⟩
theorem Tryz.nat218:y3t Tryz.prog 218 Extern.AbiNoEscape.same:=⟨Tryz.f218,by kernel_rfl,by kernel_rfl,by kernel_rfl,by kernel_rfl,by kernel_rfl⟩
theorem Tryz.c00hk:∀ (g:FuncId) (f:List AV→St→Option (CR×St)),Tryz.C00.hk g=some f→∀ args S r S',f args S=some (r,S')→(∃ (fn:Func) (c:Code),Tryz.C00.P.funcs[g]?=some fn∧fn.body=some c)∧CallOk Tryz.C00 g args S r S':=by
 intro g f h args S r S' hr
 simp only[Tryz.C00,Tryz.hk0]at h
 split at h
 ·rename_i hg;subst hg;cases h
  exact ⟨⟨_,_,Tryz.func155,rfl⟩,x3y (C:=Tryz.C00) (ρ:=Tryz.lays169_ren) Tryz.lays169 Tryz.bextra169 hr⟩
 split at h
 ·rename_i hg;subst hg;cases h
  exact ⟨⟨_,_,Tryz.func192,rfl⟩,x29 (C:=Tryz.C00) (ρ:=Tryz.lays241_ren) Tryz.lays241 Tryz.bextra241 hr⟩
 split at h
 ·rename_i hg;subst hg;cases h
  exact ⟨⟨_,_,Tryz.func141,rfl⟩,Tryz.sorted_ok rfl hr⟩
 split at h
 ·rename_i hg;subst hg;cases h
  exact ⟨⟨_,_,Tryz.func108,rfl⟩,y5p (C:=Tryz.C00) Tryz.cloneSpecM hr⟩
 split at h
 ·rename_i hg;subst hg;cases h
  exact ⟨⟨_,_,Tryz.func109,rfl⟩,y5p (C:=Tryz.C00) Tryz.cloneSpecD hr⟩
 ·cases h
theorem Tryz.c00ok:CxOk Tryz.C00 where
 eqt:=z8x fun t h=>h
 hk:=Tryz.c00hk
 codes:=fun g fn c h hb=>by
  have:=Tryz.okF_of h
  simp only[Tryz.okF,show Tryz.prog.funcs[g]?=some fn from h,hb,Bool.and_eq_true]at this
  exact this.1
 nat:=fun g args v h G w us hu=>x4f Tryz.nat222 Tryz.nat244 Tryz.nat218 g args v h G w us hu
 mixed:=by kernel_rfl
 names:=fun g fn c h hb=>by
  have:=Tryz.okF_of h
  simp only[Tryz.okF,show Tryz.prog.funcs[g]?=some fn from h,hb,Bool.and_eq_true]at this
  simpa using this.2
theorem x3x {bt be:TypeId}{args:List AV}{S S':St}{r:CR}(hr:y44 bt be args S=some (r,S')):Wl S S':=by
 unfold y44 at hr
 split at hr<;>try cases hr
 split at hr<;>try cases hr
 split at hr<;>try cases hr
 obtain ⟨s,hs,hq⟩:=Option.map_eq_some_iff.1 hr
 cases hq
 exact Wl.refl _
theorem Tryz.c00w:HkW Tryz.C00:=by
 intro g f h args S r S' hr
 simp only[Tryz.C00,Tryz.hk0]at h
 split at h
 ·cases h;exact x3x hr
 split at h
 ·cases h;exact x28 hr
 split at h
 ·cases h;exact y9o hr
 split at h
 ·cases h;exact y5o hr
 split at h
 ·cases h;exact y5o hr
 ·cases h
theorem Tryz.gtp0:z1v Tryz.C00:=by
 intro g l h
 simp only[Tryz.C00,Tryz.gt]at h
 split at h<;>cases h<;>exact ⟨by kernel_rfl,by kernel_rfl⟩

theorem Tryz.keysSpec:y41 Tryz.prog 142 174 122:=fun b w=>(callsIn_wide (n:=1)).1 (AnyZI.keys_in Tryz.keysA Fence.wide 1 trivial rfl (some b) w)
def x1p:Code:=(Tryz.f88.body).getD .skip
def y09 (V:AV):Nat→Option AV
 | 3=>some .bad
 | 4=>some V
 | _=>none
def a88:Code:=match x1p with | .seq a _=>a | _=>.skip
def b88:Code:=match x1p with | .seq _ (.seq b _)=>b | _=>.skip
def c88:Code:=match x1p with | .seq _ (.seq _ (.seq c _))=>c | _=>.skip
def ops88:Array Oper:=match x1p with | .seq _ (.seq _ (.seq _ (.seq (.region _ ops _) _)))=>ops | _=>#[]
def y8n (args:List AV)(S:St):Option (CR×St) :=
 match ev3 Tryz.C00 (lev Tryz.C00 400) a88 b88 c88 (args++List.replicate (34-args.length) .bad) { S with wl:=[] } with
 | some (e1,S1)=>match z0u Tryz.C00 (lev Tryz.C00 400) ops88 (y09 .bad) S1 (ops88.toList.take 3) 0 e1 S1 ⟨[],[]⟩ with
  | some (ec,_)=>match ec.getD 28 .bad with
   | .mp m=>match S1.hs[m]? with
    | some (some (.map es))=>match z8s es with
     | some (l,n,t)=>if 29 < e1.length then match z0u Tryz.C00 (lev Tryz.C00 400) ops88 (y09 (.vs l n t)) S1 (ops88.toList.take 3) 0 e1 S1 ⟨[],[]⟩,z0u Tryz.C00 (lev Tryz.C00 400) ops88 (y09 (.vs l n t)) S1 (ops88.toList.take 4) 0 e1 S1 ⟨[],[]⟩,z0u Tryz.C00 (lev Tryz.C00 400) ops88 (y09 (.vs l n t)) S1 ops88.toList 0 e1 S1 ⟨[],[]⟩ with
      | some (ec,_),some _,some (e2,S2)=>match ec.getD 28 .bad with
       | .mp m'=>if m'=m then match z0v Tryz.C00 Tryz.f88 e2 S2 with
        | some r=>some (.ret (finish Tryz.C00 S S2 r).1,(finish Tryz.C00 S S2 r).2)
        | none=>none
        else none
       | _=>none
      | _,_,_=>none
      else none
     | none=>none
    | _=>none
   | _=>none
  | none=>none
 | _=>none
theorem x7i:Tryz.f88.body=some (.seq a88 (.seq b88 (.seq c88 (.seq (.region 9 ops88 true) .ret)))):=by kernel_rfl
theorem w2e:Tryz.f88.ntmps=34:=by kernel_rfl
theorem y54:ops88.size=9:=by kernel_rfl
theorem z8e:opAt ops88 3={ dst:=some 29,op:=.call { callee:=.value (.func 142),args:=#[.tmp 28],argTypes:=#[122] },type:=(opAt ops88 3).type,pos:=(opAt ops88 3).pos,after:=(opAt ops88 3).after,guard:=none }:=by kernel_rfl
theorem y0s:opAt ops88 4={ dst:=some 30,op:=.call { callee:=.value (.func 141),args:=#[.tmp 29],argTypes:=#[179] },type:=(opAt ops88 4).type,pos:=(opAt ops88 4).pos,after:=(opAt ops88 4).after,guard:=none }:=by kernel_rfl
theorem w0e:z0p ops88 3 4=true:=by kernel_rfl
theorem x77:(List.range 9).all (fun i=>!z3t (opAt ops88 i).op)=true:=by kernel_rfl
theorem x9e:(opAt ops88 3).looksAt ops88=[28]:=by kernel_rfl
theorem y64 {args:List AV}{S S':St}{r:CR}(h:y8n args S=some (r,S')):CallOk Tryz.C00 88 args S r S'∧Wl S S':=by
 have hsf:=z4y Tryz.c00ok Tryz.c00w 400
 have hsw:=z6b Tryz.c00w 400
 unfold y8n at h
 split at h<;>try cases h
 rename_i e1 S1 h1
 split at h<;>try cases h
 split at h<;>try cases h
 rename_i m hm0
 split at h<;>try cases h
 rename_i es hes
 split at h<;>try cases h
 rename_i l n t hl
 split at h<;>try cases h
 rename_i hlen
 split at h<;>try cases h
 rename_i ec sc ei e2 S2 hec hei hall
 split at h<;>try cases h
 rename_i m' hm'
 split at h
 rotate_left
 ·exact absurd h (by simp)
 rename_i hmm
 subst hmm
 generalize hv:z0v Tryz.C00 Tryz.f88 e2 S2=v at h
 cases v with
 | none=>exact absurd h (by simp)
 | some v =>
 simp only[Option.some.injEq,Prod.mk.injEq]at h
 obtain ⟨rfl,rfl⟩:=h
 obtain ⟨ei,si⟩:=ei
 have hand:HandOk Tryz.C00 ops88 S1 ec ei 3 4 29 (.vs l n t) (x14 174 122 m') :=
  HandOk.keys (C:=Tryz.C00) Tryz.c00ok (ρ:=Tryz.sortedA_ren) (τ:=Tryz.keysA_ren) (et:=4) Tryz.keysSpec Tryz.sortedA { Tryz.keysA with } Tryz.underlying4 (Tryz.sortsA _) (enters_of Tryz.func92 (by kernel_rfl) rfl) (enters_of Tryz.func174 (by kernel_rfl) rfl)
   (by rw[z8e]) rfl rfl (by rw[y0s]) rfl rfl (by rw[x9e];exact List.mem_singleton.2 rfl) hm' hes hl Tryz.func142 rfl Tryz.func141 rfl
 have hp:Pce Tryz.C00 (.region 9 ops88 true) e1 S1 .normal e2 S2:=by
  refine Pce.drawX (jc:=3) (ji:=4) (tC:=29) Tryz.c00ok Tryz.c00w hsf hsw hall (fun j v hj=>?_) rfl rfl (by rw[y54];omega) (by rw[y54];omega) w0e (by omega) (by rw[z8e]) hlen (by rw[z8e]) (by rw[y0s]) (by rw[z8e];rfl) (.inl (by rw[y0s];rfl)) hec hei (fun i hi hs=>?_) hand
  ·unfold y09 at hj
   split at hj<;>cases hj
   ·exact .inl ⟨rfl,rfl⟩
   ·exact .inr ⟨rfl,rfl⟩
  ·rw[y54]at hi
   have:=List.all_eq_true.1 x77 i (List.mem_range.2 hi)
   rw[hs]at this
   cases this
 have body:Pce Tryz.C00 (.seq a88 (.seq b88 (.seq c88 (.seq (.region 9 ops88 true) .ret)))) (args++List.replicate (34-args.length) .bad) { S with wl:=[] } .ret e2 S2 :=
  Pce.ev3 Tryz.c00ok Tryz.c00w hsf hsw h1 (Pce.seq hp (Pce.of_ev (sf:=z6m) Tryz.c00ok Tryz.c00w (z8n _) z9w rfl))
 refine ⟨?_,z5o body.wl⟩
 have:=CallOk.of_Pce (C:=Tryz.C00) Tryz.c00ok Tryz.func88 x7i (.inr rfl) (args:=args) (by rw[w2e];exact body) hv
 exact this
def Tryz.C0:Cx:={ P:=Tryz.prog,gt:=Tryz.gt,hk:=fun g=>if g=88 then some y8n else Tryz.hk0 g,eqt:=y2u Tryz.prog,nat:=z9x 222 244 218 }
theorem Tryz.c0ok:CxOk Tryz.C0 where
 eqt:=z8x fun t h=>h
 hk:=fun g f h args S r S' hr=>by
  simp only[Tryz.C0]at h
  split at h
  ·rename_i hg;subst hg;cases h
   exact ⟨⟨_,_,Tryz.func88,rfl⟩,(y64 hr).1⟩
  ·exact Tryz.c00hk g f h args S r S' hr
 codes:=Tryz.c00ok.codes
 nat:=Tryz.c00ok.nat
 mixed:=Tryz.c00ok.mixed
 names:=Tryz.c00ok.names
theorem Tryz.c0w:HkW Tryz.C0:=by
 intro g f h args S r S' hr
 simp only[Tryz.C0]at h
 split at h
 ·cases h;exact (y64 hr).2
 ·exact Tryz.c00w g f h args S r S' hr
theorem Tryz.gtp:z1v Tryz.C0:=Tryz.gtp0
end Go.Proofs
