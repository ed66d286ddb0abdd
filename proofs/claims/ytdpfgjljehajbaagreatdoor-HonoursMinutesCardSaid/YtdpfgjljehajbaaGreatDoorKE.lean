/- Contracts of functions of the program and of the reference. -/
import Derived.Test.YtdpfgjljehajbaaGreatDoorKC
set_option linter.unusedVariables false
set_option linter.unusedSimpArgs false
set_option linter.unusedSectionVars false
set_option maxRecDepth 100000
open Go.Ev.AV (vs ptr agg tup vp mp ofVal raw)
open Go.Ev.HB (cells map)
open Go.Ev.CR (ret)
open Go.IntKind (i64)
open List (drop replicate)
noncomputable section
--BASE BM1
namespace Go.Proofs
open Go Go.Ev
def z6g:List Dcr→List (AV×AV)→List (AV×AV)
 | [],t=>t
 | x::l,t=>z6g l (if x.un≠0 then z08 (I x.un) (Bo true) (z08 (I x.fr) (Bo true) t) else z08 (I x.fr) (Bo true) t)
def bC (c:List AV):List AV:=z0a z0s (brk (z0j c))
def bN (c:List AV):Nat:=(brk (z0j c)).length
def y9j (a c:List AV)(n k:Nat)(ms:List Mst)(ds:List Dcr):Prop:=a=z0a z0d ms∧n=ms.length∧c=z0a z0b ds∧k=ds.length∧(∀ x∈ds,DecOk x)∧ds.length≤100∧ms.length≤40
def R88:SpcO:=fun args=>match args with
 | [.agg [.vs a n .none,.vs c k .none],.agg [.int .i64 id,.int .i64 zo]]=>some (∃ ms ds,y9j a c n k ms ds,false,.ret .bad,fun p=>.ret p,[.cells [.vs a n .none,.vs c k .none] 25,.cells [I id,I zo] 58,.map (z6g (z0j c) [])],[.vs a n .none,.vs c k .none,I id,I zo,.vs (bC c) (bN c) .none])
 | _=>none
def x8r:List (Nat×List Nat):=[(3,[2,3,5,10,11,12]),(9,[2,3,5])]
def X88:WCx:=BM1.wcx [] x8r [] [9] [(3,3)]
theorem v88 (a c:List AV)(n k:Nat)(id zo:Int)(Q:CR→List (Option HB)→Prop):wpE X88 5 88 [.agg [.vs a n .none,.vs c k .none],.agg [I id,I zo]] [] Q =
 (cIf (noHL 3 ([X,X,ptr 0 0,ptr 1 0,X,mp 2,X,X,X,X,vs c k .none,I k,I 0]++replicate 21 X)) (cIf ([some (cells [vs a n .none,vs c k .none] 25),some (cells [I id,I zo] 58),some (map [])].all (okBlk 3)) (z0l X88 (cd X88.P 88 [1,1,0,1,0,0]) ([X,X,ptr 0 0,ptr 1 0,X,mp 2,X,X,X,X,vs c k .none,I k,I 0]++replicate 21 X) (St.mk [some (cells [vs a n .none,vs c k .none] 25),some (cells [I id,I zo] 58),some (map [])] [] []) (z0g 0 (z0k X88 (cd X88.P 88 [1,1,1]) (z7w X88 5 88 Q)))) False) False):=by kernel_rfl
theorem x7y (a c:List AV)(n k i:Nat)(id zo:Int)(ts:List (AV×AV))(Q:CR→List (Option HB)→Prop):wpC X88 (cd PP 88 [1,1,0,1,0,0]) ([X,X,.ptr 0 0,.ptr 1 0,X,.mp 2,X,X,X,X,.vs c k .none,I k,I i]++replicate 21 X) ⟨[some (.cells [.vs a n .none,.vs c k .none] 25),some (.cells [I id,I zo] 58),some (.map ts)],[],[]⟩ (z1i X88 (cd PP 88 [1,1,0,1,0,0]) (z0g 0 (z0k X88 (cd PP 88 [1,1,1]) (z7w X88 5 88 Q)))) =
 (cIf (decide ((↑i:Int) < (↑k:Int))) (cIf (decide (i < k)) (cIf (decide (k*9=c.length)) (cIf (decide (9≤(drop (i*9) c).length)) (cIf (like [I 0,U 0,I 0,I 0,I 0,I 0,I 0,I 0,I 0] (el (drop (i*9) c) 0 9)) (cIf (ts.all fun (x:AV×AV)=>z09 (I (cI (el (drop (i*9) c) 0 9) 5)) x.fst) (cIf (cI (el (drop (i*9) c) 0 9) 6 != 0) (cIf ((z08 (I (cI (el (drop (i*9) c) 0 9) 5)) (Bo true) ts).all fun (x:AV×AV)=>z09 (I (cI (el (drop (i*9) c) 0 9) 6)) x.fst) (cIf (noHL 3 ([X,X,ptr 0 0,ptr 1 0,X,mp 2,X,X,X,X,vs c k .none,I k,I (IntKind.i64.wrap ((↑i:Int)+1))]++replicate 21 X)) (cIf ([some (cells [vs a n .none,vs c k .none] 25),some (cells [I id,I zo] 58),some (map (z08 (I (cI (el (drop (i*9) c) 0 9) 6)) (Bo true) (z08 (I (cI (el (drop (i*9) c) 0 9) 5)) (Bo true) ts)))].all (okBlk 3)) (z0l X88 (cd PP 88 [1,1,0,1,0,0]) ([X,X,ptr 0 0,ptr 1 0,X,mp 2,X,X,X,X,vs c k .none,I k,I (IntKind.i64.wrap ((↑i:Int)+1))]++replicate 21 X) (St.mk [some (cells [vs a n .none,vs c k .none] 25),some (cells [I id,I zo] 58),some (map (z08 (I (cI (el (drop (i*9) c) 0 9) 6)) (Bo true) (z08 (I (cI (el (drop (i*9) c) 0 9) 5)) (Bo true) ts)))] [] []) (z0g 0 (z0k X88 (cd PP 88 [1,1,1]) (z7w X88 5 88 Q)))) False) False) False) (cIf (noHL 3 ([X,X,ptr 0 0,ptr 1 0,X,mp 2,X,X,X,X,vs c k .none,I k,I (IntKind.i64.wrap ((↑i:Int)+1))]++replicate 21 X)) (cIf ([some (cells [vs a n .none,vs c k .none] 25),some (cells [I id,I zo] 58),some (map (z08 (I (cI (el (drop (i*9) c) 0 9) 5)) (Bo true) ts))].all (okBlk 3)) (z0l X88 (cd PP 88 [1,1,0,1,0,0]) ([X,X,ptr 0 0,ptr 1 0,X,mp 2,X,X,X,X,vs c k .none,I k,I (IntKind.i64.wrap ((↑i:Int)+1))]++replicate 21 X) (St.mk [some (cells [vs a n .none,vs c k .none] 25),some (cells [I id,I zo] 58),some (map (z08 (I (cI (el (drop (i*9) c) 0 9) 5)) (Bo true) ts))] [] []) (z0g 0 (z0k X88 (cd PP 88 [1,1,1]) (z7w X88 5 88 Q)))) False) False)) False) False) False) False) False) (z2z X88 (cd PP 88 [1,1,1]) ([X,X,ptr 0 0,ptr 1 0,X,mp 2]++replicate 28 X) (St.mk [some (cells [vs a n .none,vs c k .none] 25),some (cells [I id,I zo] 58),some (map ts)] [] []) (z7w X88 5 88 Q))):=by kernel_rfl
end Go.Proofs
namespace Go.Ev
theorem HandOk.weak {C:Cx}{ops:Array Oper}{S0:St}{ec ei:Env}{jc ji:Nat}{tC:Tmp}{V V':AV}{Φ:World→Gh→World→Value→Prop}(h:HandOk C ops S0 ec ei jc ji tC V Φ)(hw:∀ G w v,VR G w V v→VR G w V' v):HandOk C ops S0 ec ei jc ji tC V' Φ :=
 ⟨h.mono,h.first,fun G0 w0 G w a S h1 h2 h3 h4 h5 h6 h7 rd n next Q hnext=>h.second G0 w0 G w a S h1 h2 h3 h4 h5 h6 h7 rd n next Q fun G' w' v q1 q2 q3 q4=>hnext G' w' v q1 q2 q3 (hw _ _ _ q4)⟩
theorem x6p {ts:List (AV×AV)}{ks:List Int}(hk:z4s ts=some ks)(hlen:ks.length≤1000000):∃ l n t,z8s ts=some (l,n,t)∧∀ G w v,VR G w (.vs l n t) v→VR G w (.vs (z0a z0s (z1h ks)) (z1h ks).length .none) v:=by
 unfold z8s
 rw[hk]
 simp only
 have hl:=(z03 ks).length_eq
 cases hi:z1h ks with
 | nil=>exact ⟨[],0,.zero,rfl,fun G w v h=>h.zap⟩
 | cons n r =>
  simp only
  rw[if_pos hlen]
  refine ⟨_,_,_,rfl,fun G w v h=>?_⟩
  rw[y3c]at h
  rw[hi]at hl
  rw[hl]
  exact h
theorem x25 {C:WCx}{ne:Nat}{g:FuncId}{fn:Func}{Q:CR→List (Option HB)→Prop}{env:Env}{s:St}{h o:Nat}(hfn:C.P.funcs[g]?=some fn)(hres:z0v C.pc fn env s=some (.ptr h o))(hlt:h < ne)(hb:(s.hs.take ne).all (okBlk ne)=true)
  (hq:Q (.ret (.ptr h o)) ((s.hs.take ne).map (Option.map (z0n 0)))):z7w C ne g Q EX.ret env s:=by
 unfold z7w
 rw[hfn]
 simp only
 rw[hres]
 show z2b (pub C.pc s.hs ne (.ptr h o)) _
 have e1:pub C.pc s.hs ne (.ptr h o)=some (.ptr h o):=by simp[pub,noH,hlt]
 rw[e1]
 exact z0h hb hq
open Go.Proofs in
theorem y3q:∀ (l:List Dcr) (t:List (AV×AV)) (ks:List Int),SetOk t ks→SetOk (z6g l t) (z15 l ks)
 | [],t,ks,h=>h
 | x::l,t,ks,h=>by
  unfold z6g z15
  split
  ·exact y3q l _ _ ((h.put _ _).put _ _)
  ·exact y3q l _ _ (h.put _ _)
theorem SetOk.scrub {ts:List (AV×AV)}{ks:List Int}(h:SetOk ts ks):z0n 0 (.map ts)=.map ts:=by
 obtain ⟨l,rfl,_⟩:=h
 simp only[z0n,List.map_map]
 congr 1
theorem SetOk.mv {ts:List (AV×AV)}{ks:List Int}(h:SetOk ts ks)(m:Nat):mvB m (.map ts)=.map ts:=by
 obtain ⟨l,rfl,_⟩:=h
 simp only[mvB,List.map_map]
 congr 1
theorem x7u {ds:List Dcr}(hd:∀ x∈ds,DecOk x):∀ k∈z15 ds [],i64 k:=by
 intro k hk
 rcases y0a.1 hk with h | ⟨x,hx,h⟩
 ·cases h
 ·have:=(hd x hx).f1
  have:=(hd x hx).f2
  have:=(hd x hx).un
  unfold i64
  rcases h with rfl | ⟨_,rfl⟩<;>omega
end Go.Ev
namespace Go.Proofs
open Go Go.Ev
attribute [local irreducible] wpF wpC wpE cd
abbrev y85:Env:=[X,X,.ptr 0 0,.ptr 1 0,X,.mp 2]++replicate 28 X
abbrev st9 (a c:List AV)(n k:Nat)(id zo:Int)(ts:List (AV×AV)):St:=⟨[some (.cells [.vs a n .none,.vs c k .none] 25),some (.cells [I id,I zo] 58),some (.map ts)],[],[]⟩
abbrev x1d (a c l:List AV)(n k p:Nat)(id zo:Int):Env:=[X,X,.ptr 0 0,.ptr 1 0,.ptr 4 0,.mp 2]++replicate 20 X++[.agg [.vs a n .none,.vs c k .none],.agg [I id,I zo],.mp 2,X,.vs l p .none,.mp 3,.agg [.vs a n .none,.vs c k .none,I id,I zo,.vs l p .none,.mp 3],.ptr 4 0]
abbrev x3z (a c l:List AV)(n k p:Nat)(id zo:Int)(ts:List (AV×AV)):St:=⟨[some (.cells [.vs a n .none,.vs c k .none] 25),some (.cells [I id,I zo] 58),some (.map ts),some (.map []),some (.cells [.vs a n .none,.vs c k .none,I id,I zo,.vs l p .none,.mp 3] 185)],[],[]⟩
theorem ev9 (a c l:List AV)(n k p:Nat)(id zo:Int)(ts:List (AV×AV)):z0u Tryz.C00 z6m ops88 (y09 (.vs l p .none)) (st9 a c n k id zo ts) ops88.toList 0 y85 (st9 a c n k id zo ts) ⟨[],[]⟩=some (x1d a c l n k p id zo,x3z a c l n k p id zo ts):=by kernel_rfl
theorem w2s (a c l:List AV)(n k p:Nat)(id zo:Int)(ts:List (AV×AV)):z0u Tryz.C00 z6m ops88 (y09 (.vs l p .none)) (st9 a c n k id zo ts) (ops88.toList.take 3) 0 y85 (st9 a c n k id zo ts) ⟨[],[]⟩=some ([X,X,.ptr 0 0,.ptr 1 0,X,.mp 2]++replicate 20 X++[.agg [.vs a n .none,.vs c k .none],.agg [I id,I zo],.mp 2,X,X,X,X,X],st9 a c n k id zo ts):=by kernel_rfl
theorem w2r (a c l:List AV)(n k p:Nat)(id zo:Int)(ts:List (AV×AV)):z0u Tryz.C00 z6m ops88 (y09 (.vs l p .none)) (st9 a c n k id zo ts) (ops88.toList.take 4) 0 y85 (st9 a c n k id zo ts) ⟨[],[]⟩=some ([X,X,.ptr 0 0,.ptr 1 0,X,.mp 2]++replicate 20 X++[.agg [.vs a n .none,.vs c k .none],.agg [I id,I zo],.mp 2,X,X,X,X,X],st9 a c n k id zo ts):=by kernel_rfl
theorem cd9:cd PP 88 [1,1,1]=.seq (.region 9 ops88 true) .ret:=by kernel_rfl
theorem w2c {a c:List AV}{n k:Nat}{id zo:Int}{ts:List (AV×AV)}{ks:List Int}(hk:z4s ts=some ks)(hlen:ks.length≤1000000) :
  Pce Tryz.C00 (.seq (.region 9 ops88 true) .ret) y85 (st9 a c n k id zo ts) .ret (x1d a c (z0a z0s (z1h ks)) n k (z1h ks).length id zo) (x3z a c (z0a z0s (z1h ks)) n k (z1h ks).length id zo ts):=by
 obtain ⟨l,p,t,hl,hw⟩:=x6p hk hlen
 have hand:HandOk Tryz.C00 ops88 (st9 a c n k id zo ts) ([X,X,.ptr 0 0,.ptr 1 0,X,.mp 2]++replicate 20 X++[.agg [.vs a n .none,.vs c k .none],.agg [I id,I zo],.mp 2,X,X,X,X,X]) ([X,X,.ptr 0 0,.ptr 1 0,X,.mp 2]++replicate 20 X++[.agg [.vs a n .none,.vs c k .none],.agg [I id,I zo],.mp 2,X,X,X,X,X]) 3 4 29 (.vs l p t) (x14 174 122 2) :=
  HandOk.keys (C:=Tryz.C00) Tryz.c00ok (ρ:=Tryz.sortedA_ren) (τ:=Tryz.keysA_ren) (et:=4) Tryz.keysSpec Tryz.sortedA { Tryz.keysA with } Tryz.underlying4 (Tryz.sortsA _) (enters_of Tryz.func92 (by kernel_rfl) rfl) (enters_of Tryz.func174 (by kernel_rfl) rfl)
   (by rw[z8e]) rfl rfl (by rw[y0s]) rfl rfl (by rw[x9e];exact List.mem_singleton.2 rfl) rfl rfl hl Tryz.func142 rfl Tryz.func141 rfl
 refine Pce.seq (Pce.drawX (jc:=3) (ji:=4) (tC:=29) Tryz.c00ok Tryz.c00w (z8n _) z9w (ev9 a c (z0a z0s (z1h ks)) n k (z1h ks).length id zo ts) (fun j v hj=>?_) rfl rfl (by rw[y54];omega) (by rw[y54];omega) w0e (by omega) (by rw[z8e]) (by decide) (by rw[z8e]) (by rw[y0s]) (by rw[z8e];rfl) (.inl (by rw[y0s];rfl)) (w2s a c _ n k _ id zo ts) (w2r a c _ n k _ id zo ts) (fun i hi hs=>?_) (hand.weak hw)) (Pce.of_ev (sf:=z6m) Tryz.c00ok Tryz.c00w (z8n _) z9w rfl)
 ·unfold y09 at hj
  split at hj<;>cases hj
  ·exact .inl ⟨rfl,rfl⟩
  ·exact .inr ⟨rfl,rfl⟩
 ·rw[y54]at hi
  have:=List.all_eq_true.1 x77 i (List.mem_range.2 hi)
  rw[hs]at this
  cases this
theorem w0z {a c:List AV}{n k:Nat}{id zo:Int}{ts:List (AV×AV)}{ks:List Int}(hk:z4s ts=some ks)(hlen:ks.length≤1000000){K:Kont}(hK:K .ret (x1d a c (z0a z0s (z1h ks)) n k (z1h ks).length id zo) (x3z a c (z0a z0s (z1h ks)) n k (z1h ks).length id zo ts)) :
  z2z X88 (cd PP 88 [1,1,1]) y85 (st9 a c n k id zo ts) K:=by
 rw[cd9]
 exact ⟨_,_,_,CSem.of_Pce (C':=Tryz.C00) rfl rfl (w2c hk hlen),hK⟩
section
variable {ms:List Mst}{ds:List Dcr}{id zo:Int}(hd:∀ x∈ds,DecOk x)(hdl:ds.length≤100)
theorem x4e {ts:List (AV×AV)}{ks:List Int}(hT:SetOk ts ks):([some (.cells [.vs (z0a z0d ms) ms.length .none,.vs (z0a z0b ds) ds.length .none] 25),some (.cells [I id,I zo] 58),some (.map ts)]:List (Option HB)).all (okBlk 3)=true:=by
 rw[List.all_cons,List.all_cons,List.all_cons,List.all_nil,hT.blk]
 simp[okBlk,noHB,noHL,noH,eM.noHL',eD.noHL']
include hd hdl
theorem x8k (Q:CR→List (Option HB)→Prop)(hQ:Q (.ret (.ptr 4 0)) [some (.cells [.vs (z0a z0d ms) ms.length .none,.vs (z0a z0b ds) ds.length .none] 25),some (.cells [I id,I zo] 58),some (.map (z6g ds [])),some (.map []),some (.cells [.vs (z0a z0d ms) ms.length .none,.vs (z0a z0b ds) ds.length .none,I id,I zo,.vs (z0a z0s (brk ds)) (brk ds).length .none,.mp 3] 185)]) :
  ∀ (d i:Nat) (ts:List (AV×AV)) (ks:List Int),ds.length-i=d→i≤ds.length→SetOk ts ks→z6g (ds.drop i) ts=z6g ds []→z15 (ds.drop i) ks=z15 ds [] →
  z0l X88 (cd PP 88 [1,1,0,1,0,0]) ([X,X,.ptr 0 0,.ptr 1 0,X,.mp 2,X,X,X,X,.vs (z0a z0b ds) ds.length .none,I ds.length,I i]++replicate 21 X) ⟨[some (.cells [.vs (z0a z0d ms) ms.length .none,.vs (z0a z0b ds) ds.length .none] 25),some (.cells [I id,I zo] 58),some (.map ts)],[],[]⟩ (z0g 0 (z0k X88 (cd PP 88 [1,1,1]) (z7w X88 5 88 Q))):=by
 intro d
 induction d with
 | zero =>
  intro i ts ks hdd hi hT hts hks
  have hi':i=ds.length:=by omega
  subst hi'
  have hno:¬ ((ds.length:Nat):Int) < (ds.length:Nat):=by omega
  rw[List.drop_length]at hts hks
  have hts:ts=z6g ds []:=hts
  have hks:ks=z15 ds []:=hks
  subst hts;subst hks
  have hlen:=x0i ds
  unfold brk at hlen
  rw[(z03 _).length_eq]at hlen
  have hkeys:=hT.keys (x7u hd)
  refine z0y bm1ok (Cts.nil _) ((x7y (z0a z0d ms) (z0a z0b ds) ms.length ds.length ds.length id zo (z6g ds []) Q).mpr (z02 (df hno) (w0z hkeys (by omega) ?_)))
  refine x25 (C:=X88) (fn:=Tryz.f88) Tryz.func88 rfl (by omega) ?_ ?_
  ·show ([_,_,_,_,_]:List (Option HB)).all (okBlk 5)=true
   rw[List.all_cons,List.all_cons,List.all_cons,List.all_cons,List.all_cons,List.all_nil,hT.blk]
   simp[okBlk,noHB,noHL,noH,eM.noHL',eD.noHL',eNum.noHL']
  ·show Q (.ret (.ptr 4 0)) [some (.cells [.vs (z0e 0 (z0a z0d ms)) ms.length .none,.vs (z0e 0 (z0a z0b ds)) ds.length .none] 25),some (.cells [I id,I zo] 58),some (z0n 0 (.map (z6g ds []))),some (.map []),some (.cells [.vs (z0e 0 (z0a z0d ms)) ms.length .none,.vs (z0e 0 (z0a z0b ds)) ds.length .none,I id,I zo,.vs (z0e 0 (z0a z0s (brk ds))) (brk ds).length .none,.mp 3] 185)]
   rw[hT.scrub,eM.scL,eD.scL,eNum.scL]
   exact hQ
 | succ d ih =>
  intro i ts ks hdd hi hT hts hks
  have hlt:i < ds.length:=by omega
  have e1:ds.length-(i+1)=d:=by omega
  have w1:IntKind.i64.wrap ((i:Int)+1)=((i+1:Nat):Int):=z1c (by omega) (by omega)
  have hl1:(i:Int) < ds.length:=by omega
  obtain ⟨x,hx,hdr⟩:=z06 hlt
  rw[hdr]at hts hks
  have hblk:noHL 3 ([X,X,.ptr 0 0,.ptr 1 0,X,.mp 2,X,X,X,X,.vs (z0a z0b ds) ds.length .none,I ds.length,I ((i+1:Nat):Int)]++replicate 21 X)=true:=by
   simp[z00,noHL,noH,eD.noHL',z1r]
  refine z0y bm1ok (Cts.nil _) ((x7y (z0a z0d ms) (z0a z0b ds) ms.length ds.length i id zo ts Q).mpr ?_)
  simp only[dt hl1,dt hlt,eD.gl,eD.gd hlt,eD.g0 hlt (by decide),eD.el hx,eD.ld0 hx (by decide),z16,eD.cI0 hx (by decide),z2t,z4j,eD.gf hlt 1 (by decide),eD.ld hx 1 (by decide),eD.cI hx 1 (by decide),z2s,z4i,eD.gf hlt 2 (by decide),eD.ld hx 2 (by decide),eD.cI hx 2 (by decide),z2r,z4h,eD.gf hlt 3 (by decide),eD.ld hx 3 (by decide),eD.cI hx 3 (by decide),z2q,z4g,eD.gf hlt 4 (by decide),eD.ld hx 4 (by decide),eD.cI hx 4 (by decide),z2p,z4f,eD.gf hlt 5 (by decide),eD.ld hx 5 (by decide),eD.cI hx 5 (by decide),z2o,z4e,eD.gf hlt 6 (by decide),eD.ld hx 6 (by decide),eD.cI hx 6 (by decide),z2n,z4d,eD.gf hlt 7 (by decide),eD.ld hx 7 (by decide),eD.cI hx 7 (by decide),z2m,z4c,eD.gf hlt 8 (by decide),eD.ld hx 8 (by decide),eD.cI hx 8 (by decide),z2l,z4b,z0x,w1]
  refine z0h (hT.kk _) (z0i (fun c=>z0h ((hT.put _ _).kk _) (z0h hblk (z0h (x4e ((hT.put _ _).put _ _)) (ih (i+1) _ _ e1 hlt ((hT.put _ _).put _ _) ?_ ?_)))) (fun c=>z0h hblk (z0h (x4e (hT.put _ _)) (ih (i+1) _ _ e1 hlt (hT.put _ _) ?_ ?_))))
  ·have c:x.un≠0:=by simpa using c
   rw[z6g,if_pos c]at hts
   exact hts
  ·have c:x.un≠0:=by simpa using c
   rw[z15,if_pos c]at hks
   exact hks
  ·have c:¬ x.un≠0:=by simpa using c
   rw[z6g,if_neg c]at hts
   exact hts
  ·have c:¬ x.un≠0:=by simpa using c
   rw[z15,if_neg c]at hks
   exact hks
end
theorem y5w (ds:List Dcr):bC (z0a z0b ds)=z0a z0s (brk ds):=by unfold bC;rw[z1m]
theorem y5v (ds:List Dcr):bN (z0a z0b ds)=(brk ds).length:=by unfold bN;rw[z1m]
theorem co88:CtO qB.c0 185 88 R88:=⟨⟨_,_,Tryz.func88,rfl⟩,fun args D b r0 r gs cs hR hD=>by
 unfold R88 at hR
 split at hR<;>cases hR
 rename_i a n c k id zo
 obtain ⟨ms,ds,rfl,rfl,rfl,rfl,hd,hdl,hml⟩:=hD
 rw[y5w,y5v,z1m]
 have hS:=y3q ds [] [] SetOk.nil
 refine ⟨by simp[noHL,noH,eM.noHL',eD.noHL'],z6e ms ds id zo,?_,fun m n=>?_,fun h=>(by cases h),fun _=>?_⟩
 ·intro x hx m
  simp only[List.mem_cons,List.mem_nil_iff,or_false]at hx
  rcases hx with rfl | rfl | rfl
  ·simp only[mvB,mvL,mvA,z2h m _ (eM.noHL' 0 _),z2h m _ (eD.noHL' 0 _)]
  ·rfl
  ·exact hS.mv m
 ·rfl
 ·rw[show z0e 0 [agg [vs (z0a z0d ms) ms.length .none,vs (z0a z0b ds) ds.length .none],agg [I id,I zo]]=[agg [vs (z0a z0d ms) ms.length .none,vs (z0a z0b ds) ds.length .none],agg [I id,I zo]] by simp[z0e,scrub,eM.scL,eD.scL,Tok.scrub]]
  refine y0k (B:=BM1) (l:=[]) (lm:=x8r) (tp:=[]) (ct:=[9]) (sm:=[(3,3)]) bm1ok (Cts.nil _) ?_
  show wpE X88 5 88 _ [] _
  rw[v88]
  refine z0h ?_ (z0h (x4e SetOk.nil) ?_)
  ·simp[z00,noHL,noH,eD.noHL',z1r]
  ·exact x8k hd hdl _ ⟨rfl,rfl⟩ _ 0 [] [] rfl (Nat.zero_le _) SetOk.nil rfl rfl⟩
end Go.Proofs
namespace Go.Proofs
open Go Go.Ev
def z3r:List Mst→Int→Int→Int
 | [],_,_=>-1
 | x::l,jd,i=>if x.id=jd then i else z3r l jd (i+1)
def z1f (a:List AV):List Mst:=z0c (z0a z0d) (fun ms=>ms) [] a
def R176:Spc:=fun args=>match args with
 | [.agg [.int .i64 id,.int .i64 _],.vp [.int .i64 jd]]=>some (True,rB (decide (id=jd)))
 | _=>none
def R175:Spc:=fun args=>match args with
 | [.vs l n .none,.fn (.func 176) [] [.vp [.int .i64 jd]]]=>some (∃ x,l=z0a z0d x∧n=x.length∧x.length≤10000000,rI (z3r (z1f l) jd 0))
 | _=>none
def x5q:List (Nat×List Nat):=[]
def X176:WCx:=qB.wcx [] x5q [] [] []
def x5r:List (Nat×List Nat):=[(2,[0,1,7,8]),(7,[])]
def X175:WCx:=qB.wcx [(176,R176)] x5r [] [] []
theorem w1t (id zo jd:Int)(Q:CR→Prop):wpF X176 176 [.agg [I id,I zo],.vp [I jd]] Q =
 (Q (ret (Bo (id == jd)))):=by kernel_rfl
theorem v175 (l:List AV)(n:Nat)(jd:Int)(Q:CR→Prop):wpF X175 175 [.vs l n .none,.fn (.func 176) [] [.vp [I jd]]] Q =
 (z0l X175 (cd X175.P 175 [1,0,1,0,0]) ([vs l n .none,AV.fn (Fn.func 176) [] [vp [I jd]],X,X,X,X,X,I n,I 0]++replicate 10 X) (St.mk [] [] []) (z0g 0 (z0k X175 (cd X175.P 175 [1,1]) (z0q X175 175 Q)))):=by kernel_rfl
theorem x5g (l:List AV)(n i:Nat)(jd:Int)(Q:CR→Prop):wpC X175 (cd PP 175 [1,0,1,0,0]) ([.vs l n .none,.fn (.func 176) [] [.vp [I jd]],X,X,X,X,X,I n,I i]++replicate 10 X) ⟨[],[],[]⟩ (z1i X175 (cd PP 175 [1,0,1,0,0]) (z0g 0 (z0k X175 (cd PP 175 [1,1]) (z0q X175 175 Q)))) =
 (cIf (decide ((↑i:Int) < (↑n:Int))) (cIf (decide (i < n)) (cIf (decide (n*2=l.length)) (cIf (decide (2≤(drop (i*2) l).length)) (cIf (like [I 0,I 0] (el (drop (i*2) l) 0 2)) (True∧cIf (decide (cI (el (drop (i*2) l) 0 2) 0=jd)) (Q (ret (I i))) (z0l X175 (cd PP 175 [1,0,1,0,0]) ([vs l n .none,AV.fn (Fn.func 176) [] [vp [I jd]],X,X,X,X,X,I n,I (IntKind.i64.wrap ((↑i:Int)+1))]++replicate 10 X) (St.mk [] [] []) (z0g 0 (z0k X175 (cd PP 175 [1,1]) (z0q X175 175 Q))))) False) False) False) False) (Q (ret (I (-1))))):=by kernel_rfl
end Go.Proofs
namespace Go.Proofs
open Go Go.Ev
attribute [local irreducible] wpF wpC cd
theorem z6p (ms:List Mst):z1f (z0a z0d ms)=ms:=eM.on (by decide) _ _ _
theorem x1h:Ct qB.c0 176 R176:=Ct.of_wp (l:=[]) (lm:=x5q) (tp:=[]) (ct:=[]) (sm:=[]) bok (Cts.nil _) ⟨_,_,Tryz.func176,rfl⟩ fun args D r hR hD=>by
 unfold R176 at hR
 split at hR<;>cases hR
 rename_i id zo jd
 refine ⟨rfl,?_⟩
 simp only[z0e,scrub]
 show wpF X176 176 _ _
 rw[w1t]
 rfl
section
variable {xs:List Mst}(hl:xs.length≤10000000){jd:Int}
include hl
theorem x6z (Q:CR→Prop):∀ (d i:Nat),xs.length-i=d→i≤xs.length→Q (rI (z3r (xs.drop i) jd i)) →
  z0l X175 (cd PP 175 [1,0,1,0,0]) ([.vs (z0a z0d xs) xs.length .none,.fn (.func 176) [] [.vp [I jd]],X,X,X,X,X,I xs.length,I i]++replicate 10 X) ⟨[],[],[]⟩ (z0g 0 (z0k X175 (cd PP 175 [1,1]) (z0q X175 175 Q))):=by
 intro d
 induction d with
 | zero =>
  intro i hd hi hQ
  have hi':i=xs.length:=by omega
  subst hi'
  have hno:¬ ((xs.length:Nat):Int) < (xs.length:Nat):=by omega
  rw[List.drop_length]at hQ
  exact z0y bok ((Cts.nil _).cons x1h) ((x5g _ _ _ jd Q).mpr (z02 (df hno) hQ))
 | succ d ih =>
  intro i hd hi hQ
  have hlt:i < xs.length:=by omega
  have e1:xs.length-(i+1)=d:=by omega
  have w1:IntKind.i64.wrap ((i:Int)+1)=((i+1:Nat):Int):=z1c (by omega) (by omega)
  have h1:(i:Int) < xs.length:=by omega
  obtain ⟨x,hx,hdr⟩:=z06 hlt
  rw[hdr]at hQ
  refine z0y bok ((Cts.nil _).cons x1h) ((x5g _ _ _ jd Q).mpr ?_)
  simp only[dt h1,dt hlt,eM.gl,eM.gd hlt,eM.g0 hlt (by decide),eM.el hx,eM.ld0 hx (by decide),z9p,eM.cI0 hx (by decide),y1u,y40,eM.gf hlt 1 (by decide),eM.ld hx 1 (by decide),eM.cI hx 1 (by decide),y1t,y4z,z0x,w1,true_and]
  refine z0i (fun h=>?_) (fun h=>?_)
  ·rw[show z3r (x::xs.drop (i+1)) jd i=i by unfold z3r;rw[if_pos (of_decide_eq_true h)]]at hQ
   exact hQ
  ·refine ih (i+1) e1 hlt ?_
   rw[show z3r (x::xs.drop (i+1)) jd i=z3r (xs.drop (i+1)) jd ((i+1:Nat):Int) by rw[z3r,if_neg (of_decide_eq_false h)];rfl]at hQ
   exact hQ
end
theorem ct175:Ct qB.c0 175 R175:=Ct.of_wp (l:=[(176,R176)]) (lm:=x5r) (tp:=[]) (ct:=[]) (sm:=[]) bok ((Cts.nil _).cons x1h) ⟨_,_,Tryz.func175,rfl⟩ fun args D r hR hD=>by
 unfold R175 at hR
 split at hR<;>cases hR
 rename_i l n jd
 obtain ⟨xs,rfl,rfl,hx⟩:=hD
 refine ⟨by simp[noHL,noH,eM.noHL'],?_⟩
 rw[show z0e 0 [vs (z0a z0d xs) xs.length .none,.fn (.func 176) [] [.vp [I jd]]]=[vs (z0a z0d xs) xs.length .none,.fn (.func 176) [] [.vp [I jd]]] by simp[z0e,scrub,eM.scL,Tok.scrub],z6p]
 show wpF X175 175 _ _
 rw[v175]
 exact x6z hx _ _ 0 rfl (Nat.zero_le _) rfl
theorem x7:HookOk qB.c0 175 (z7t R175):=ct175.hookS gtpB fun args D r hR hD=>by
 unfold R175 at hR
 split at hR<;>cases hR
 obtain ⟨xs,rfl,rfl,hx⟩:=hD
 simp[z0e,scrub,eM.scL,Tok.scrub]
def BN0:Base:=qB.hk 175 (z7t R175)
theorem bn0ok:BaseOk BN0:=bok.hk x7
theorem x0c (jd:Int):∀ (l:List Mst) (i:Nat),(z3r l jd i=-1∧z0w jd l=(⟨0,0⟩,false))∨∃ (k:Nat) (m:Mst),z3r l jd i=((i+k:Nat):Int)∧l[k]?=some m∧z0w jd l=(m,true)
 | [],i=>.inl ⟨rfl,rfl⟩
 | x::l,i=>by
  by_cases h:x.id=jd
  ·exact .inr ⟨0,x,by rw[z3r,if_pos h];rfl,rfl,by rw[z0w,if_pos h]⟩
  ·rw[z3r,if_neg h,z0w,if_neg h]
   rcases x0c jd l (i+1) with q | ⟨k,m,h1,h2,h3⟩
   ·exact .inl q
   ·exact .inr ⟨k+1,m,by rw[show (i:Int)+1=((i+1:Nat):Int) by omega,h1];congr 1;omega,by simpa using h2,h3⟩
end Go.Proofs
--BASE BN0
namespace Go.Proofs
open Go Go.Ev
def R143:Spc:=fun args=>match args with
 | [.agg [.vs l n .none,.vs c k .none],.int .i64 id]=>some (∃ ms ds,l=z0a z0d ms∧n=ms.length∧c=z0a z0b ds∧k=ds.length∧ms.length≤10000000∧ds.length≤10000000,.ret (.tup [.agg [I (z0w id (z1f l)).1.id,I (z0w id (z1f l)).1.zo],Bo (z0w id (z1f l)).2]))
 | _=>none
def x5y:List (Nat×List Nat):=[]
def X143:WCx:=BN0.wcx [] x5y [] [] []
theorem v143 (l c:List AV)(n k:Nat)(id:Int)(Q:CR→Prop):wpF X143 143 [.agg [.vs l n .none,.vs c k .none],I id] Q =
 ((∃ x,l=z0a z0d x∧n=x.length∧x.length≤10000000)∧(y4g (rI (z3r (z1f l) id 0))=true∧z3b [some (cells [vs l n .none,vs c k .none] 25),some (cells [I id] 3),some (cells [I 0,I 0] 58)] ([]++[vs l n .none,AV.fn (Fn.func 176) [] [ptr 1 0]]++[])=true)∧cIf (decide (z3r (z1f l) id (0:Int) < 0)) (Q (ret (tup [agg [I 0,I 0],Bo false]))) (cIf (decide ((0:Int)≤z3r (z1f l) id 0)) (cIf (decide ((z3r (z1f l) id 0).toNat < n)) (cIf (decide (n*2=l.length)) (cIf (decide (2≤(drop ((z3r (z1f l) id 0).toNat*2) l).length)) (cIf (like [I 0,I 0] (el (drop ((z3r (z1f l) id 0).toNat*2) l) 0 2)) (Q (ret (tup [agg [I (cI (el (drop ((z3r (z1f l) id 0).toNat*2) l) 0 2) 0),I (cI (el (drop ((z3r (z1f l) id 0).toNat*2) l) 0 2) 1)],Bo true]))) False) False) False) False) False)):=by kernel_rfl
end Go.Proofs
namespace Go.Ev
theorem x0g:∀ (l pre:List Dcr),z5r pre l=0→(∀ x∈l,DecOk x)∧(∀ x∈l,∀ y∈pre,y.id≠x.id)∧l.Pairwise (fun a b=>a.id≠b.id)
 | [],pre,_=>by simp
 | x::l,pre,h=>by
  unfold z5r at h
  split at h
  ·cases h
  ·rename_i hx
   split at h
   ·cases h
   ·rename_i hp
    obtain ⟨h1,h2,h3⟩:=x0g l (pre++[x]) h
    simp only[Bool.not_eq_true,List.any_eq_false,decide_eq_true_eq]at hp
    have hx:x1f x=true:=by
     show z7f x=true
     simpa using hx
    refine ⟨fun y hy=>?_,fun y hy z hz=>?_,List.pairwise_cons.2 ⟨fun y hy=>h2 y hy x (by simp),h3⟩⟩
    ·rcases List.mem_cons.1 hy with rfl | hy
     ·exact (x4t _).1 hx
     ·exact h1 y hy
    ·rcases List.mem_cons.1 hy with rfl | hy
     ·exact hp z hz
     ·exact h2 y hy z (List.mem_append_left _ hz)
structure ChkOk (ms:List Mst) (ds:List Dcr):Prop where
 ml:ms.length≤40
 dl:ds.length≤100
 mok:∀ x∈ms,z4r x=true
 dok:∀ x∈ds,DecOk x
 dif:ds.Pairwise (fun a b=>a.id≠b.id)
theorem x7f {ms:List Mst}{ds:List Dcr}(h:z1x ms ds=0):ChkOk ms ds:=by
 unfold z1x at h
 split at h
 ·cases h
 ·rename_i hl
  split at h
  ·rename_i q;exact (q h).elim
  ·rename_i q
   obtain ⟨h1,_,h3⟩:=x0g ds [] h
   exact ⟨by omega,by omega,y6k ms 0 (Decidable.not_not.1 q),h1,h3⟩
theorem y1r {ms:List Mst}{ds:List Dcr}{a m:Int}(h:(z0f ms ds a m).2=0):ChkOk ms ds∧(z0f ms ds a m).1∈ms∧(z0f ms ds a m).1.id=a:=by
 by_cases h1:z1x ms ds≠0
 ·have e:z0f ms ds a m=(⟨0,0⟩,z1x ms ds):=by unfold z0f;rw[if_pos h1]
  rw[e]at h
  exact (h1 h).elim
 ·by_cases h2:(z0w a ms).2=false
  ·have e:z0f ms ds a m=(⟨0,0⟩,5):=by unfold z0f;rw[if_neg h1,if_pos h2]
   rw[e]at h;cases h
  ·by_cases h3:(decide (0≤m) && decide (m≤144001439))=false
   ·have e:z0f ms ds a m=(⟨0,0⟩,1):=by unfold z0f;rw[if_neg h1,if_neg h2,if_pos h3]
    rw[e]at h;cases h
   ·have e:z0f ms ds a m=((z0w a ms).1,0):=by unfold z0f;rw[if_neg h1,if_neg h2,if_neg h3]
    rw[e]
    refine ⟨x7f (Decidable.not_not.1 h1),y2k a ms h2,?_⟩
    clear e h h1 h3
    induction ms with
    | nil=>exact absurd rfl h2
    | cons x l ih =>
     unfold z0w at h2 ⊢
     split
     ·assumption
     ·rename_i q
      rw[if_neg q]at h2
      exact ih h2
end Go.Ev
namespace Go.Proofs
open Go Go.Ev
attribute [local irreducible] wpF wpC cd
theorem w07:Ct qB.c0 143 R143:=Ct.of_wp (B:=BN0) (l:=[]) (lm:=x5y) (tp:=[]) (ct:=[]) (sm:=[]) bn0ok (Cts.nil _) ⟨_,_,Tryz.func143,rfl⟩ fun args D r hR hD=>by
 unfold R143 at hR
 split at hR<;>cases hR
 rename_i l n c k id
 obtain ⟨ms,ds,rfl,rfl,rfl,rfl,hm,hk⟩:=hD
 refine ⟨by simp[noHL,noH,eM.noHL',eD.noHL'],?_⟩
 rw[show z0e 0 [agg [vs (z0a z0d ms) ms.length .none,vs (z0a z0b ds) ds.length .none],I id]=[agg [vs (z0a z0d ms) ms.length .none,vs (z0a z0b ds) ds.length .none],I id] by simp[z0e,scrub,eM.scL,eD.scL,Tok.scrub]]
 show wpF X143 143 _ _
 rw[v143,z6p]
 refine ⟨⟨ms,rfl,rfl,hm⟩,⟨rfl,by simp[z3b,z8j,eM.noHL',y8i,noHL,noH,z1y,noT]⟩,?_⟩
 rcases x0c id ms 0 with ⟨h1,h2⟩ | ⟨i,x,h1,hx,h3⟩
 ·have h1:z3r ms id 0=-1:=h1
  rw[h1,h2]
  exact z0h rfl rfl
 ·have h1:z3r ms id 0=(i:Int):=by have h4:z3r ms id 0=((0+i:Nat):Int):=h1;rw[h4,Nat.zero_add]
  have hi:=(List.getElem?_eq_some_iff.1 hx).1
  have hn:¬ ((i:Nat):Int) < 0:=by omega
  rw[h1,h3]
  simp only[df hn,z6s,dt (Int.natCast_nonneg i),Int.toNat_natCast,dt hi,eM.gl,eM.gd hi,eM.g0 hi (by decide),eM.el hx,eM.ld0 hx (by decide),z9p,eM.cI0 hx (by decide),y1u,y40,eM.gf hi 1 (by decide),eM.ld hx 1 (by decide),eM.cI hx 1 (by decide),y1t,y4z,z0x]
end Go.Proofs
--BASE BM6
namespace Go.Proofs
open Go Go.Ev
def BM6:Base:=BM5.hk 88 (y29 185 R88)
theorem bm6ok:BaseOk BM6:=bm5ok.hk (co88.hook gtpB)
def aA (a c:List AV)(i m:Int):Mst:=(z0f (z1f a) (z0j c) i m).1
def aE (a c:List AV)(i m:Int):Int:=(z0f (z1f a) (z0j c) i m).2
def R78:SpcO:=fun args=>match args with
 | [.agg [.vs a n .none,.vs c k .none],.int .i64 i,.int .i64 m]=>some (∃ ms ds,a=z0a z0d ms∧n=ms.length∧c=z0a z0b ds∧k=ds.length∧ms.length≤10000000∧ds.length≤10000000,decide (aE a c i m≠0),.ret (.tup [.raw .nilPtr,I (aE a c i m)]),fun p=>.ret (.tup [p,I 0]),
  [.cells [.vs a n .none,.vs c k .none] 25,.cells [I (aA a c i m).id,I (aA a c i m).zo] 58,.cells [.vs a n .none,.vs c k .none] 25,.cells [I (aA a c i m).id,I (aA a c i m).zo] 58,.map (z6g (z0j c) [])],[.vs a n .none,.vs c k .none,I (aA a c i m).id,I (aA a c i m).zo,.vs (bC c) (bN c) .none])
 | _=>none
def x8x:List (Nat×List Nat):=[]
def X78:WCx:=BM6.wcx [(45,R45),(143,R143),(115,R115)] x8x [] [] []
def x5m:List (Nat×List Nat):=[]
def X78e:WCx:=BM6.wcx [(45,R45),(143,R143),(115,R115)] x5m [] [] []
theorem v78 (a c:List AV)(n k:Nat)(i m:Int)(Q:CR→Prop):wpF X78 78 [.agg [.vs a n .none,.vs c k .none],I i,I m] Q =
 ((∃ ms,∃ ds,a=z0a z0d ms∧n=ms.length∧c=z0a z0b ds∧k=ds.length∧ms.length≤10000000∧ds.length≤10000000)∧cIf (z0c (z0a z0d) (fun ms=>z0c (z0a z0b) (fun ds=>z1x ms ds) 0 c) 0 a != 0) (Q (ret (tup [raw RV.nilPtr,I (z0c (z0a z0d) (fun ms=>z0c (z0a z0b) (fun ds=>z1x ms ds) 0 c) 0 a)]))) ((∃ ms,∃ ds,a=z0a z0d ms∧n=ms.length∧c=z0a z0b ds∧k=ds.length∧ms.length≤10000000∧ds.length≤10000000)∧cIf (!(z0w i (z1f a)).snd) (Q (ret (tup [raw RV.nilPtr,I 5]))) (True∧cIf (!(decide ((0:Int)≤m) && decide (m≤144001439))) (Q (ret (tup [raw RV.nilPtr,I 1]))) ((∃ ms,∃ ds,y9j a c n k ms ds)∧False)))):=by kernel_rfl
theorem w1p (a c:List AV)(n k:Nat)(i m:Int)(Q:CR→List (Option HB)→Prop):wpE X78e 7 78 [.agg [.vs a n .none,.vs c k .none],I i,I m] [] Q =
 ((∃ ms,∃ ds,a=z0a z0d ms∧n=ms.length∧c=z0a z0b ds∧k=ds.length∧ms.length≤10000000∧ds.length≤10000000)∧cIf (z0c (z0a z0d) (fun ms=>z0c (z0a z0b) (fun ds=>z1x ms ds) 0 c) 0 a != 0) (cIf ((List.take 7 [some (cells [vs a n .none,vs c k .none] 25)]).all (okBlk 7)) (Q (ret (tup [raw RV.nilPtr,I (z0c (z0a z0d) (fun ms=>z0c (z0a z0b) (fun ds=>z1x ms ds) 0 c) 0 a)])) [some (cells [vs (z0e 0 a) n .none,vs (z0e 0 c) k .none] 25)]) False) ((∃ ms,∃ ds,a=z0a z0d ms∧n=ms.length∧c=z0a z0b ds∧k=ds.length∧ms.length≤10000000∧ds.length≤10000000)∧cIf (!(z0w i (z1f a)).snd) (cIf ((List.take 7 [some (cells [vs a n .none,vs c k .none] 25),some (cells [I (z0w i (z1f a)).fst.id,I (z0w i (z1f a)).fst.zo] 58)]).all (okBlk 7)) (Q (ret (tup [raw RV.nilPtr,I 5])) [some (cells [vs (z0e 0 a) n .none,vs (z0e 0 c) k .none] 25),some (cells [I (z0w i (z1f a)).fst.id,I (z0w i (z1f a)).fst.zo] 58)]) False) (True∧cIf (!(decide ((0:Int)≤m) && decide (m≤144001439))) (cIf ((List.take 7 [some (cells [vs a n .none,vs c k .none] 25),some (cells [I (z0w i (z1f a)).fst.id,I (z0w i (z1f a)).fst.zo] 58)]).all (okBlk 7)) (Q (ret (tup [raw RV.nilPtr,I 1])) [some (cells [vs (z0e 0 a) n .none,vs (z0e 0 c) k .none] 25),some (cells [I (z0w i (z1f a)).fst.id,I (z0w i (z1f a)).fst.zo] 58)]) False) ((∃ ms,∃ ds,y9j a c n k ms ds)∧cIf ((List.take 7 [some (cells [vs a n .none,vs c k .none] 25),some (cells [I (z0w i (z1f a)).fst.id,I (z0w i (z1f a)).fst.zo] 58),some (cells [vs a n .none,vs c k .none] 25),some (cells [I (z0w i (z1f a)).fst.id,I (z0w i (z1f a)).fst.zo] 58),some (map (z6g (z0j c) [])),some (map []),some (cells [vs a n .none,vs c k .none,I (z0w i (z1f a)).fst.id,I (z0w i (z1f a)).fst.zo,vs (bC c) (bN c) .none,mp 5] 185)]).all (okBlk 7)) (Q (ret (tup [ptr 6 0,I 0])) [some (cells [vs (z0e 0 a) n .none,vs (z0e 0 c) k .none] 25),some (cells [I (z0w i (z1f a)).fst.id,I (z0w i (z1f a)).fst.zo] 58),some (cells [vs (z0e 0 a) n .none,vs (z0e 0 c) k .none] 25),some (cells [I (z0w i (z1f a)).fst.id,I (z0w i (z1f a)).fst.zo] 58),some (z0n 0 (map (z6g (z0j c) []))),some (z0n 0 (map [])),some (cells [vs (z0e 0 a) n .none,vs (z0e 0 c) k .none,I (z0w i (z1f a)).fst.id,I (z0w i (z1f a)).fst.zo,vs (z0e 0 (bC c)) (bN c) .none,mp 5] 185)]) False)))):=by kernel_rfl
end Go.Proofs
namespace Go.Proofs
open Go Go.Ev
attribute [local irreducible] wpF wpC wpE cd
theorem x6b:Cts BM6 [(45,R45),(143,R143),(115,R115)]:=(((Cts.nil BM6).cons (g:=115) x6e).cons (g:=143) w07).cons (g:=45) w2w
theorem x11 (ms:List Mst)(ds:List Dcr)(i m:Int):aE (z0a z0d ms) (z0a z0b ds) i m=(z0f ms ds i m).2:=by unfold aE;rw[z6p,z1m]
theorem x12 (ms:List Mst)(ds:List Dcr)(i m:Int):aA (z0a z0d ms) (z0a z0b ds) i m=(z0f ms ds i m).1:=by unfold aA;rw[z6p,z1m]
theorem co78:CtO qB.c0 185 78 R78:=⟨⟨_,_,Tryz.func78,rfl⟩,fun args D b r0 r gs cs hR hD=>by
 unfold R78 at hR
 split at hR<;>cases hR
 rename_i a n c k i m
 obtain ⟨ms,ds,rfl,rfl,rfl,rfl,hm,hk⟩:=hD
 rw[y5w,y5v,z1m,x11,x12]
 have hp:∃ ms' ds',z0a z0d ms=z0a z0d ms'∧ms.length=ms'.length∧z0a z0b ds=z0a z0b ds'∧ds.length=ds'.length∧ms'.length≤10000000∧ds'.length≤10000000:=⟨ms,ds,rfl,rfl,rfl,rfl,hm,hk⟩
 have hS:=y3q ds [] [] SetOk.nil
 have hsc:z0e 0 [agg [vs (z0a z0d ms) ms.length .none,vs (z0a z0b ds) ds.length .none],I i,I m]=[agg [vs (z0a z0d ms) ms.length .none,vs (z0a z0b ds) ds.length .none],I i,I m]:=by simp[z0e,scrub,eM.scL,eD.scL,Tok.scrub]
 have hoc:z0c (z0a z0d) (fun ms=>z0c (z0a z0b) (fun ds=>z1x ms ds) 0 (z0a z0b ds)) 0 (z0a z0d ms)=z1x ms ds:=by
  rw[eM.on (by decide),eD.on (by decide)]
 refine ⟨by simp[noHL,noH,eM.noHL',eD.noHL'],z6e ms ds _ _,?_,fun m n=>rfl,fun hb=>?_,fun hb=>?_⟩
 ·intro x hx m
  simp only[List.mem_cons,List.mem_nil_iff,or_false]at hx
  rcases hx with rfl | rfl | rfl | rfl | rfl
  ·simp only[mvB,mvL,mvA,z2h m _ (eM.noHL' 0 _),z2h m _ (eD.noHL' 0 _)]
  ·rfl
  ·simp only[mvB,mvL,mvA,z2h m _ (eM.noHL' 0 _),z2h m _ (eD.noHL' 0 _)]
  ·rfl
  ·exact hS.mv m
 ·have hb:(z0f ms ds i m).2≠0:=of_decide_eq_true hb
  rw[hsc]
  refine y5r (B:=BM6) (l:=[(45,R45),(143,R143),(115,R115)]) (lm:=x8x) (tp:=[]) (ct:=[]) (sm:=[]) bm6ok x6b ?_
  show wpF X78 78 _ _
  rw[v78,hoc,z6p]
  refine ⟨hp,z0i (fun h=>?_) (fun h=>⟨hp,z0i (fun h2=>?_) (fun h2=>⟨trivial,z0i (fun h3=>?_) (fun h3=>?_)⟩)⟩)⟩
  ·have h:z1x ms ds≠0:=by simpa using h
   have e:z0f ms ds i m=(⟨0,0⟩,z1x ms ds):=by unfold z0f;rw[if_pos h]
   rw[e]
  ·have h:z1x ms ds=0:=by simpa using h
   have h2:(z0w i ms).2=false:=by simpa using h2
   have e:z0f ms ds i m=(⟨0,0⟩,5):=by unfold z0f;rw[if_neg (fun q=>q h),if_pos h2]
   rw[e]
  ·have h:z1x ms ds=0:=by simpa using h
   have h2:¬ (z0w i ms).2=false:=by simpa using h2
   have h3:(decide (0≤m) && decide (m≤144001439))=false:=by rw[Bool.not_eq_true']at h3;exact h3
   have e:z0f ms ds i m=(⟨0,0⟩,1):=by unfold z0f;rw[if_neg (fun q=>q h),if_neg h2,if_pos h3]
   rw[e]
  ·have h:z1x ms ds=0:=by simpa using h
   have h2:¬ (z0w i ms).2=false:=by simpa using h2
   have h3:¬ (decide (0≤m) && decide (m≤144001439))=false:=by rw[Bool.not_eq_false']at h3;rw[h3];decide
   have e:z0f ms ds i m=((z0w i ms).1,0):=by unfold z0f;rw[if_neg (fun q=>q h),if_neg h2,if_neg h3]
   rw[e]at hb
   exact (hb rfl).elim
 ·have hb:(z0f ms ds i m).2=0:=by simpa using hb
  have hchk:=y1r hb
  rw[hsc]
  refine y0k (B:=BM6) (l:=[(45,R45),(143,R143),(115,R115)]) (lm:=x5m) (tp:=[]) (ct:=[]) (sm:=[]) bm6ok x6b ?_
  show wpE X78e 7 78 _ [] _
  rw[w1p,hoc,z6p,z1m,y5w,y5v]
  have h:z1x ms ds=0:=Decidable.byContradiction fun q=>by
   have e:z0f ms ds i m=(⟨0,0⟩,z1x ms ds):=by unfold z0f;rw[if_pos q]
   rw[e]at hb;exact q hb
  have h2:¬ (z0w i ms).2=false:=fun q=>by
   have e:z0f ms ds i m=(⟨0,0⟩,5):=by unfold z0f;rw[if_neg (fun z=>z h),if_pos q]
   rw[e]at hb;cases hb
  have h3:¬ (decide (0≤m) && decide (m≤144001439))=false:=fun q=>by
   have e:z0f ms ds i m=(⟨0,0⟩,1):=by unfold z0f;rw[if_neg (fun z=>z h),if_neg h2,if_pos q]
   rw[e]at hb;cases hb
  have e:z0f ms ds i m=((z0w i ms).1,0):=by unfold z0f;rw[if_neg (fun q=>q h),if_neg h2,if_neg h3]
  rw[e]
  refine ⟨hp,z02 (by simp[h]) ⟨hp,z02 (by simpa using h2) ⟨trivial,z02 (by rw[Bool.not_eq_false'];simpa using h3) ⟨⟨ms,ds,rfl,rfl,rfl,rfl,hchk.1.dok,hchk.1.dl,hchk.1.ml⟩,z0h ?_ ?_⟩⟩⟩⟩
  ·show ([_,_,_,_,_,_,_]:List (Option HB)).all (okBlk 7)=true
   rw[List.all_cons,List.all_cons,List.all_cons,List.all_cons,List.all_cons,List.all_cons,List.all_cons,List.all_nil,hS.blk]
   simp[okBlk,noHB,noHL,noH,eM.noHL',eD.noHL',eNum.noHL']
  ·rw[hS.scrub,eM.scL,eD.scL,eNum.scL]
   exact ⟨rfl,rfl⟩⟩
def BM7:Base:=BM6.hk 78 (y29 185 R78)
theorem bm7ok:BaseOk BM7:=bm6ok.hk (co78.hook gtpB)
end Go.Proofs
--BASE BM7
namespace Go.Proofs
open Go Go.Ev
def x9c:List (Nat×List Nat):=[]
def X27:WCx:=BM7.wcx [] x9c [] [] []
theorem v27 (a c:List AV)(n k:Nat)(i m:Int)(Q:CR→Prop):wpF X27 27 [.agg [.vs a n .none,.vs c k .none],I i,I m] Q =
 ((∃ ms,∃ ds,a=z0a z0d ms∧n=ms.length∧c=z0a z0b ds∧k=ds.length∧ms.length≤10000000∧ds.length≤10000000)∧cIf (decide (aE a c i m≠0)) (cIf (aE a c i m != 0) (Q (ret (tup [agg [I 0,Bo false],I (aE a c i m)]))) False) (((∃ ms,∃ ds,ObjOk a c (bC c) n k (bN c) (aA a c i m).id (aA a c i m).zo [] ms ds)∧(0:Int)≤m∧m≤144001439)∧(185=(185:Nat)∧[vs a n .none,vs c k .none,I (aA a c i m).id,I (aA a c i m).zo,vs (bC c) (bN c) .none,mp 7]=List.take 5 [vs a n .none,vs c k .none,I (aA a c i m).id,I (aA a c i m).zo,vs (bC c) (bN c) .none,mp 7]++[mp (nat_lit 7)])∧Q (ret (tup [agg [I (pAt (z0j c) (Mst.mk (aA a c i m).id (aA a c i m).zo) m).fl,Bo (pAt (z0j c) (Mst.mk (aA a c i m).id (aA a c i m).zo) m).ho],I 0])))):=by kernel_rfl
end Go.Proofs
namespace Go.Ev
theorem x6q {ds:List Dcr}(hd:∀ x∈ds,DecOk x)(m:Mst)(n:Int):z96 ds m n=TV ds m (n+m.zo):=by
 unfold z96 TV z3a
 exact (y9r hd ((z2x ds m _ _ 1 2).imp fun x hx=>by simp only[Bool.and_eq_true]at hx;exact hx.1.1)).symm
end Go.Ev
namespace Go.Proofs
open Go Go.Ev
attribute [local irreducible] wpF wpC cd
theorem w44 {ds:List Dcr}{m:Mst}{n:Int}(h0:0≤n)(h1:n≤144001439)(hz:-720≤m.zo∧m.zo≤840) :
  w3q ds m n=if (z5y ds m n).2 then some (z5y ds m n).1 else none:=by
 rw[w4p h0 h1 hz]
 unfold z5y
 cases h:x4u ds m (n+m.zo) with
 | none=>simp
 | some s =>
  obtain ⟨g1,g2,g3,g4⟩:=w3e h
  simp only
  by_cases hs:s-m.zo≤144001439
  ·rw[if_pos hs,dt (show 0≤s-m.zo by omega),dt hs];rfl
  ·rw[if_neg hs,df hs,Bool.and_false];rfl
section
variable {ms:List Mst}{ds:List Dcr}{i m:Int}
theorem y98 (h:(z0f ms ds i m).2=0):(∃ ms' ds',ObjOk (z0a z0d ms) (z0a z0b ds) (z0a z0s (brk ds)) ms.length ds.length (brk ds).length (z0f ms ds i m).1.id (z0f ms ds i m).1.zo [] ms' ds')∧0≤m∧m≤144001439:=by
 obtain ⟨h1,h2,h3⟩:=y1r h
 obtain ⟨g1,g2,g3,g4⟩:=y6s h
 exact ⟨⟨ms,ds,y8h h1.dok h1.ml h1.dl g3 g4 (MapOk.nil _ _)⟩,g1,g2⟩
end
theorem w20:Ct qB.c0 27 R28:=Ct.of_wp (B:=BM7) (l:=[]) (lm:=x9c) (tp:=[]) (ct:=[]) (sm:=[]) bm7ok (Cts.nil _) ⟨_,_,Tryz.func27,rfl⟩ fun args D r hR hD=>by
 unfold R28 at hR
 split at hR<;>cases hR
 rename_i l n c k a m
 obtain ⟨ms,ds,rfl,rfl,rfl,rfl,hm,hk⟩:=hD
 refine ⟨by simp[noHL,noH,eM.noHL',eD.noHL'],?_⟩
 rw[show z0e 0 [agg [vs (z0a z0d ms) ms.length .none,vs (z0a z0b ds) ds.length .none],I a,I m]=[agg [vs (z0a z0d ms) ms.length .none,vs (z0a z0b ds) ds.length .none],I a,I m] by simp[z0e,scrub,eM.scL,eD.scL,Tok.scrub]]
 simp only[eM.on (show 0 < 2 by decide),eD.on (show 0 < 9 by decide)]
 show wpF X27 27 _ _
 rw[v27,x11,x12,z1m,y5w,y5v]
 have hp:∃ ms' ds',z0a z0d ms=z0a z0d ms'∧ms.length=ms'.length∧z0a z0b ds=z0a z0b ds'∧ds.length=ds'.length∧ms'.length≤10000000∧ds'.length≤10000000:=⟨ms,ds,rfl,rfl,rfl,rfl,hm,hk⟩
 refine ⟨hp,z0i (fun h=>?_) (fun h=>?_)⟩
 ·have h:(z0f ms ds a m).2≠0:=of_decide_eq_true h
  have e:atV ms ds a m=(⟨0,false⟩,(z0f ms ds a m).2):=by unfold atV;rw[if_pos h]
  rw[e]
  exact z0h (by simpa using h) rfl
 ·have h:(z0f ms ds a m).2=0:=by simpa using h
  have e:atV ms ds a m=(z96 ds (z0f ms ds a m).1 m,0):=by unfold atV;rw[if_neg (fun q=>q h)]
  have hc:=(y1r h).1
  have hpa:=(y8e hc.dok (z0f ms ds a m).1 m).1
  rw[← x6q hc.dok]at hpa
  refine ⟨y98 h,⟨rfl,rfl⟩,?_⟩
  rw[e,← hpa]
  rfl
end Go.Proofs
namespace Go.Proofs
open Go Go.Ev
end Go.Proofs
namespace Go.Proofs
open Go Go.Ev
attribute [local irreducible] wpF wpC cd
end Go.Proofs
namespace Go.Ev
def w3t:List AV→List AV
 | []=>[]
 | .vs l n t::r=>.vs l n .none::w3t r
 | a::r=>a::w3t r
def w4q:AV→AV
 | .vs l n t=>.vs l n .none
 | .agg l=>.agg (w3t l)
 | a=>a
theorem VR.unt0 {G:Gh}{w:World}{l:List AV}{n:Nat}{t:Tok}{v:Value}(h:VR G w (.vs l n t) v):VR G w (.vs l n .none) v:=by
 cases h with
 | vs _ _ _ A c f hc h hh ht=>exact .vs l n .none A c f hc h hh trivial
theorem w4d:∀ (l:List AV) (i:Nat) (a:AV),(w3t l)[i]?=some a→∃ b,l[i]?=some b∧(a=b∨∃ m n t,b=.vs m n t∧a=.vs m n .none)
 | [],i,a,h=>by simp[w3t]at h
 | b::r,0,a,h=>by
  refine ⟨b,rfl,?_⟩
  cases b<;>simp[w3t]at h<;>subst h<;>first | exact .inl rfl | exact .inr ⟨_,_,_,rfl,rfl⟩
 | b::r,i+1,a,h=>by
  have:(w3t r)[i]?=some a:=by cases b<;>simpa[w3t] using h
  simpa using w4d r i a this
theorem w4c:∀ l:List AV,(w3t l).length=l.length
 | []=>rfl
 | a::r=>by cases a<;>simp[w3t,w4c r]
theorem VR.unt {G:Gh}{w:World}{a:AV}{v:Value}(h:VR G w a v):VR G w (w4q a) v:=by
 cases a with
 | vs l n t=>exact h.unt0
 | agg l =>
  cases h with
  | agg _ cs hs h =>
   refine .agg _ cs (by rw[w4c];exact hs) fun i x hx=>?_
   obtain ⟨b,h1,rfl | ⟨m,n,t,rfl,rfl⟩⟩:=w4d l i x hx
   ·exact h i _ h1
   ·exact (h i _ h1).unt0
 | _=>exact h
def w3r (R:Spc)(args:List AV)(S:St)(k:CR→St→Prop):Prop:=match R (args.map w4q) with
 | some (D,r)=>D∧k r S
 | none=>False
theorem w4m (R:Spc):One (w3r R):=by
 intro args S
 unfold w3r
 cases h:R (args.map w4q) with
 | none=>exact ⟨(.ret .bad,S),False,fun k=>by simp⟩
 | some p=>exact ⟨(p.2,S),p.1,fun k=>Iff.rfl⟩
theorem Ct.hookU {C0:Cx}(hgt:z1v C0){g:FuncId}{R:Spc}(h:Ct C0 g R):HookOk C0 g (w3r R) where
 one:=w4m R
 body:=h.body
 ok:=fun args S r S' hw=>by
  unfold w3r at hw
  split at hw
  ·rename_i D r' hR
   obtain ⟨hD,rfl,rfl⟩:=hw
   obtain ⟨h1,h2⟩:=h.ok _ D r' hR hD
   refine ⟨fun G w us hI hg has=>(h2.frame hgt h1 S) G w us hI hg ⟨by rw[List.length_map];exact has.1,fun i x hx=>?_⟩,Wl.refl S⟩
   rw[List.getElem?_map,Option.map_eq_some_iff]at hx
   obtain ⟨y,hy,rfl⟩:=hx
   obtain ⟨v,q1,q2⟩:=has.2 i y hy
   exact ⟨v,q1,q2.unt⟩
  ·exact hw.elim
end Go.Ev
namespace Go.Proofs
open Go Go.Ev
end Go.Proofs
namespace Go.Ev
theorem w4r {α:Type}{T:List α}{j:Nat}{a b:α}(h:T[j]?=some a):(T++[b])[j]?=some a:=by
 rw[List.getElem?_append_left (List.getElem?_eq_some_iff.1 h).1];exact h
theorem w4e {α:Type}{T:List α}{j:Nat}{a b c:α}(h:T[j]?=some a):((T++[b]).set j c)[j]?=some c:=by
 have:=(List.getElem?_eq_some_iff.1 h).1
 rw[List.getElem?_set_self (by simp;omega)]
end Go.Ev
namespace Go.Proofs
open Go Go.Ev
attribute [local irreducible] wpF wpC cd
section
variable {xs:List Int}(hl:xs.length≤1000000){x:Int}
include hl
end
end Go.Proofs
--BASE BR1
namespace Go.Proofs
open Go Go.Ev
end Go.Proofs
namespace Go.Proofs
open Go Go.Ev
attribute [local irreducible] wpF wpC cd
end Go.Proofs
--BASE BR2
namespace Go.Proofs
open Go Go.Ev
def w3z (ds:List Dcr):Prop:=∀ x∈ds,(-1000000≤x.fr∧x.fr≤1000000)∧(-1000000≤x.un∧x.un≤1000000)∧(0≤x.op∧x.op≤1440)∧(0≤x.cl∧x.cl≤1440)
end Go.Proofs
namespace Go.Proofs
open Go Go.Ev
attribute [local irreducible] wpF wpC cd
section
variable {ds:List Dcr}{a b:Int}(hdl:ds.length≤10000)(hB:w3z ds)
include hdl hB
end
section
variable {ms:List Mst}{ds:List Dcr}{id zo day a b:Int}(hdl:ds.length≤10000)(hB:w3z ds)(h1:-1000000≤day)(h2:day≤1000000)(h3:-10000≤zo)(h4:zo≤10000)
include hdl hB h1 h2 h3 h4
end
end Go.Proofs
--BASE BR3
namespace Go.Proofs
open Go Go.Ev
end Go.Proofs
namespace Go.Proofs
open Go Go.Ev
attribute [local irreducible] wpF wpC cd
section
variable {ms:List Mst}{ds:List Dcr}{id zo m wf:Int}{wb:Bool}(hm:ms.length≤10000000)(hk:ds.length≤10000000)(hz1:-720≤zo)(hz2:zo≤840)
include hm hk hz1 hz2
end
end Go.Proofs
namespace Go.Proofs
open Go Go.Ev
end Go.Proofs
namespace Go.Ev
open Go.Proofs
theorem w4y {ms:List Mst}{ds:List Dcr}{a m t:Int}(h:(z0f ms ds a m).2=0)(h0:0≤t)(h1:t≤144001439):z0f ms ds a t=z0f ms ds a m:=by
 unfold z0f at h ⊢
 by_cases c1:z1x ms ds≠0
 ·rw[if_pos c1]at h;exact absurd h c1
 ·rw[if_neg c1]at h ⊢
  rw[if_neg c1]
  by_cases c2:(z0w a ms).2=false
  ·rw[if_pos c2,if_pos c2]
  ·rw[if_neg c2]at h ⊢
   rw[if_neg c2]
   by_cases c3:(decide (0≤m) && decide (m≤144001439))=false
   ·rw[if_pos c3]at h;cases h
   ·rw[if_neg c3,if_neg]
    simp[h0,h1]
theorem w36 {ms:List Mst}{ds:List Dcr}{a m t:Int}(h:(z0f ms ds a m).2=0)(h0:0≤t)(h1:t≤144001439):atV ms ds a t=(SV ds (z0f ms ds a m).1 t,0):=by
 have e:=w4y h h0 h1
 have hc:=(y1r h).1
 unfold atV SV
 rw[e,if_neg (fun q=>q h),x6q hc.dok]
end Go.Ev
namespace Go.Proofs
open Go Go.Ev
attribute [local irreducible] wpF wpC cd
end Go.Proofs
