/- Contracts of functions of the program and of the reference. -/
import Derived.Test.YtdpfgjljehajbaaGreatDoorKG
set_option linter.unusedVariables false
set_option linter.unusedSimpArgs false
set_option linter.unusedSectionVars false
set_option maxRecDepth 100000
open Go.Ev.AV (vs ptr agg tup vp mp ofVal raw)
open Go.Ev.HB (cells map)
open Go.Ev.CR (ret)
open Go.IntKind (i64)
open List (drop replicate)
noncomputable section
namespace Go.Proofs
open Go Go.Ev
theorem v1h (a c:List AV)(n k:Nat)(i f u:Int)(Q:EX→Env→St→Prop):wpC XL (cd PP 54 [0]) ([.agg [.vs a n .none,.vs c k .none],I i,I f,I u]++replicate 34 X) ⟨[],[],[]⟩ Q =
 (Q EX.normal ([agg [vs a n .none,vs c k .none],I i,I f,I u,ptr 0 0,X,X,X,ptr 1 0,ptr 2 0]++replicate 28 X) (St.mk [some (cells [vs a n .none,vs c k .none] 25),some (cells [vs [] 0 Tok.zero] 67),some (cells [I 0] 30)] [] [])):=by kernel_rfl
theorem v1g (a c:List AV)(n k:Nat)(i f u:Int)(Q:EX→Env→St→Prop):wpC XL (cd PP 54 [1,0]) ([X,I i,I f,I u,.ptr 0 0,X,X,X,.ptr 1 0,.ptr 2 0]++replicate 28 X) ⟨[some (.cells [.vs a n .none,.vs c k .none] 25),some (.cells [.vs [] 0 .zero] 67),some (.cells [I 0] 30)],[],[]⟩ Q =
 ((∃ ms,∃ ds,a=z0a z0d ms∧n=ms.length∧c=z0a z0b ds∧k=ds.length∧ms.length≤10000000∧ds.length≤10000000)∧cIf (decide (aE a c i 0≠0) || !w7t f u) (Q EX.normal ([X,I i,I f,I u,ptr 0 0,X,X,X,ptr 1 0,ptr 2 0,raw RV.nilPtr,I (if aE a c i 0≠0 then aE a c i 0 else 1),X,X,tup [raw RV.nilPtr,I (if aE a c i 0≠0 then aE a c i 0 else 1)],agg [vs a n .none,vs c k .none],I i,I f,I u,tup [raw RV.nilPtr,I (if aE a c i 0≠0 then aE a c i 0 else 1)],raw RV.nilPtr,I (if aE a c i 0≠0 then aE a c i 0 else 1)]++replicate 16 X) (St.mk [some (cells [vs a n .none,vs c k .none] 25),some (cells [vs [] 0 Tok.zero] 67),some (cells [I 0] 30)] [] [])) (Q EX.normal ([X,I i,I f,I u,ptr 0 0,X,X,X,ptr 1 0,ptr 2 0,ptr 10 0,I 0,X,X,tup [ptr 10 0,I 0],agg [vs a n .none,vs c k .none],I i,I f,I u,tup [ptr 10 0,I 0],ptr 10 0,I 0]++replicate 16 X) (St.mk [some (cells [vs a n .none,vs c k .none] 25),some (cells [vs [] 0 Tok.zero] 67),some (cells [I 0] 30),some (cells [vs a n .none,vs c k .none] 25),some (cells [vs a n .none,vs c k .none] 25),some (cells [I (aA a c i 0).id,I (aA a c i 0).zo] 58),some (cells [vs a n .none,vs c k .none] 25),some (cells [I (aA a c i 0).id,I (aA a c i 0).zo] 58),some (map (z6g (z0j c) [])),some (map []),some (cells [vs a n .none,vs c k .none,I (aA a c i 0).id,I (aA a c i 0).zo,vs (bC c) (bN c) .none,mp 9] 185)] [] []))):=by kernel_rfl
theorem v3l (b0:Option HB)(f u e:Int)(p:AV)(Q:EX→Env→St→Prop):wpC XL (cd PP 54 [1,1,0]) ([X,X,I f,I u,X,X,X,X,.ptr 1 0,.ptr 2 0,p,I e]++replicate 26 X) ⟨[b0,some (.cells [.vs [] 0 .zero] 67),some (.cells [I 0] 30)],[],[]⟩ Q =
 (cIf (e != 0) (Q EX.ret ([X,X,I f,I u,X,X,X,X,ptr 1 0,ptr 2 0,p,I e,X,X,X,X,X,X,X,X,X,X,I e,Bo (e != 0),I e]++replicate 13 X) (St.mk [b0,some (cells [vs [] 0 Tok.zero] 67),some (cells [I e] 30)] [] [2,1])) (Q EX.normal ([X,X,I f,I u,X,X,X,X,ptr 1 0,ptr 2 0,p,I e,X,X,X,X,X,X,X,X,X,X,I e,Bo (e != 0)]++replicate 14 X) (St.mk [b0,some (cells [vs [] 0 Tok.zero] 67),some (cells [I 0] 30)] [] []))):=by kernel_rfl
theorem v3k (b0 b1 b2 b3 b4 b5 b6 b7 b8 b9 b10:Option HB)(f u:Int)(Q:EX→Env→St→Prop):wpC XL (cd PP 54 [1,1,0]) ([X,X,I f,I u,X,X,X,X,.ptr 1 0,.ptr 2 0,.ptr 10 0,I 0]++replicate 26 X) ⟨[b0,b1,b2,b3,b4,b5,b6,b7,b8,b9,b10],[],[]⟩ Q =
 (Q EX.normal ([X,X,I f,I u,X,X,X,X,ptr 1 0,ptr 2 0,ptr 10 0,I 0,X,X,X,X,X,X,X,X,X,X,I 0,Bo false]++replicate 14 X) (St.mk [b0,b1,b2,b3,b4,b5,b6,b7,b8,b9,b10] [] [])):=by kernel_rfl
theorem v3j (b0 b1 b2 b3 b4 b5 b6 b7 b8 b9 b10:Option HB)(f u:Int)(Q:EX→Env→St→Prop):wpC XL (cd PP 54 [1,1,1,0]) ([X,X,I f,I u,X,X,X,X,.ptr 1 0,.ptr 2 0,.ptr 10 0]++replicate 27 X) ⟨[b0,b1,b2,b3,b4,b5,b6,b7,b8,b9,b10],[],[]⟩ Q =
 (Q EX.normal ([X,X,I f,I u,X,X,X,X,ptr 1 0,ptr 2 0,ptr 10 0,X,ptr 11 0]++replicate 25 X) (St.mk [b0,b1,b2,b3,b4,b5,b6,b7,b8,b9,b10,some (cells [vs [] 0 Tok.zero] 67)] [] [])):=by kernel_rfl
theorem v3i (b0 b1 b2 b3 b4 b5 b6 b7 b8 b9 b10 b11:Option HB)(f u:Int)(Q:EX→Env→St→Prop):wpC XL (cd PP 54 [1,1,1,1,0,0]) ([X,X,I f,I u,X,X,X,X,.ptr 1 0,.ptr 2 0,.ptr 10 0,X,.ptr 11 0]++replicate 25 X) ⟨[b0,b1,b2,b3,b4,b5,b6,b7,b8,b9,b10,b11],[],[]⟩ Q =
 (True∧Q EX.normal ([X,X,I f,I u,X,X,X,X,ptr 1 0,ptr 2 0,ptr 10 0,X,ptr 11 0,X,X,X,X,X,X,X,X,X,X,X,X,ptr 10 0,I f,I u,AV.fn (Fn.func 164) [] [ptr 13 0,ptr 14 0,ptr 12 0]]++replicate 9 X) (St.mk [b0,b1,b2,b3,b4,b5,b6,b7,b8,b9,b10,b11,some (cells [ptr 10 0] 104),some (cells [I f] 3),some (cells [I u] 3)] [] [])):=by kernel_rfl
theorem v1f (b0 b1 b2 b3 b4 b5 b6 b7 b8 b9 b10 b12 b13 b14:Option HB)(r:AV)(x:Trn)(T:List (Nat×(Nat×Nat)))(Q:EX→Env→St→Prop):wpC XL (cd PP 54 [1,1,1,1,0,1,0,0]) ([X,X,X,X,X,X,X,X,.ptr 1 0,.ptr 2 0,X,X,.ptr 11 0,X,X,X,X,X,X,X,X,X,X,X,X,X,X,X,.fn (.func 164) [] [.ptr 13 0,.ptr 14 0,.ptr 12 0],.agg [I x.at',I x.fl,Bo x.ho]]++replicate 8 X) ⟨[b0,b1,b2,b3,b4,b5,b6,b7,b8,b9,b10,some (.cells [r] 67),b12,b13,b14],T,[]⟩ Q =
 (Q EX.normal ([X,X,X,X,X,X,X,X,ptr 1 0,ptr 2 0,X,X,ptr 11 0,ptr 15 0,X,X,X,X,X,X,X,X,X,X,X,X,X,X,AV.fn (Fn.func 164) [] [ptr 13 0,ptr 14 0,ptr 12 0],agg [I x.at',I x.fl,Bo x.ho]]++replicate 8 X) (St.mk [b0,b1,b2,b3,b4,b5,b6,b7,b8,b9,b10,some (cells [r] 67),b12,b13,b14,some (cells [I x.at',I x.fl,Bo x.ho] 77)] T [15])):=by kernel_rfl
theorem v3f (b0 b3 b4 b5 b6 b7 b8 b9 b10 b12 b13 b14:Option HB)(x:Trn)(g:AV)(T:List (Nat×(Nat×Nat)))(Q:EX→Env→St→Prop):wpC XL (cd PP 54 [1,1,1,1,0,1,0,1]) ([X,X,X,X,X,X,X,X,.ptr 1 0,.ptr 2 0,X,X,.ptr 11 0,.ptr 15 0,X,X,X,X,X,X,X,X,X,X,X,X,X,X,.fn (.func 164) [] [.ptr 13 0,.ptr 14 0,.ptr 12 0],g]++replicate 8 X) ⟨[b0,some (.cells [.vs [] 0 .zero] 67),some (.cells [I 0] 30),b3,b4,b5,b6,b7,b8,b9,b10,some (.cells [.vs [] 0 .zero] 67),b12,b13,b14,some (.cells [I x.at',I x.fl,Bo x.ho] 77)],T,[15]⟩ Q =
 (Q EX.normal [X,X,X,X,X,X,X,X,ptr 1 0,ptr 2 0,X,X,ptr 11 0,ptr 15 0,X,X,X,X,X,X,X,X,X,X,X,X,X,X,AV.fn (Fn.func 164) [] [ptr 13 0,ptr 14 0,ptr 12 0],g,vs [] 0 Tok.zero,I 0,Bo false,vs [] 0 Tok.zero,agg [I x.at',I x.fl,Bo x.ho],vs [I x.at',I x.fl,Bo x.ho] 1 (Tok.own T.length),vs [I x.at',I x.fl,Bo x.ho] 1 (Tok.own (T++[(1,3,77)]).length),X] (St.mk [b0,some (cells [vs [] 0 Tok.zero] 67),some (cells [I 0] 30),b3,b4,b5,b6,b7,b8,b9,b10,some (cells [vs [I x.at',I x.fl,Bo x.ho] 1 (Tok.own (T++[(1,3,77)]).length)] 67),b12,b13,b14,some (cells [I x.at',I x.fl,Bo x.ho] 77)] (T++[(1,3,77)]++[(1,3,77)]) [11,15])):=by kernel_rfl
theorem v3h (b0 b3 b4 b5 b6 b7 b8 b9 b10 b12 b13 b14:Option HB)(L:List AV)(p j:Nat)(x:Trn)(g:AV)(T:List (Nat×(Nat×Nat)))(Q:EX→Env→St→Prop):wpC XL (cd PP 54 [1,1,1,1,0,1,0,1]) ([X,X,X,X,X,X,X,X,.ptr 1 0,.ptr 2 0,X,X,.ptr 11 0,.ptr 15 0,X,X,X,X,X,X,X,X,X,X,X,X,X,X,.fn (.func 164) [] [.ptr 13 0,.ptr 14 0,.ptr 12 0],g]++replicate 8 X) ⟨[b0,some (.cells [.vs [] 0 .zero] 67),some (.cells [I 0] 30),b3,b4,b5,b6,b7,b8,b9,b10,some (.cells [.vs L p (.own j)] 67),b12,b13,b14,some (.cells [I x.at',I x.fl,Bo x.ho] 77)],T,[15]⟩ Q =
 (cIf ((↑p:Int) == 100000) (Q EX.ret [X,X,X,X,X,X,X,X,ptr 1 0,ptr 2 0,X,X,ptr 11 0,ptr 15 0,X,X,X,X,X,X,X,X,X,X,X,X,X,X,AV.fn (Fn.func 164) [] [ptr 13 0,ptr 14 0,ptr 12 0],g,vs L p (Tok.own j),I p,Bo ((↑p:Int) == 100000),X,X,X,X,X] (St.mk [b0,some (cells [vs [] 0 Tok.zero] 67),some (cells [I 2] 30),b3,b4,b5,b6,b7,b8,b9,b10,some (cells [vs L p (Tok.own j)] 67),b12,b13,b14,some (cells [I x.at',I x.fl,Bo x.ho] 77)] T [2,1,15])) (cIf (decide ((p+1)*24≤140737488355328)) (cIf (decide (p+1≤140737488355328)) (cIf (decide (L.length=p*3)) (cIf (decide ((T++[(1,3,77)])[j]?=some (p,3,77))) (Q EX.normal [X,X,X,X,X,X,X,X,ptr 1 0,ptr 2 0,X,X,ptr 11 0,ptr 15 0,X,X,X,X,X,X,X,X,X,X,X,X,X,X,AV.fn (Fn.func 164) [] [ptr 13 0,ptr 14 0,ptr 12 0],g,vs L p (Tok.own j),I p,Bo ((↑p:Int) == 100000),vs L p (Tok.own j),agg [I x.at',I x.fl,Bo x.ho],vs [I x.at',I x.fl,Bo x.ho] 1 (Tok.own T.length),vs (L++[I x.at',I x.fl,Bo x.ho]) (p+1) (Tok.own j),X] (St.mk [b0,some (cells [vs [] 0 Tok.zero] 67),some (cells [I 0] 30),b3,b4,b5,b6,b7,b8,b9,b10,some (cells [vs (L++[I x.at',I x.fl,Bo x.ho]) (p+1) (Tok.own j)] 67),b12,b13,b14,some (cells [I x.at',I x.fl,Bo x.ho] 77)] ((T++[(1,3,77)]).set j (p+1,3,77)) [11,15])) False) False) False) False)):=by kernel_rfl
theorem v3g (b0 b1 b2 b3 b4 b5 b6 b7 b8 b9 b10 b12 b13 b14:Option HB)(L:List AV)(p:Nat)(t:Tok)(r1 r2:AV)(T:List (Nat×(Nat×Nat)))(Q:EX→Env→St→Prop):wpC XL (cd PP 54 [1,1,1,1,1]) ([X,X,X,X,X,X,X,X,.ptr 1 0,.ptr 2 0,X,X,.ptr 11 0]++replicate 25 X) ⟨[b0,some (.cells [r1] 67),some (.cells [r2] 30),b3,b4,b5,b6,b7,b8,b9,b10,some (.cells [.vs L p t] 67),b12,b13,b14],T,[]⟩ Q =
 (Q EX.ret [X,X,X,X,X,X,X,X,ptr 1 0,ptr 2 0,X,X,ptr 11 0,X,X,X,X,X,X,X,X,X,X,X,X,X,X,X,X,X,X,X,X,X,X,X,X,vs L p t] (St.mk [b0,some (cells [vs L p t] 67),some (cells [I 0] 30),b3,b4,b5,b6,b7,b8,b9,b10,some (cells [vs L p t] 67),b12,b13,b14] T [2,1])):=by kernel_rfl
end Go.Proofs
namespace Go.Proofs
open Go Go.Ev
attribute [local irreducible] wpF wpC wpE cd
theorem v2u:cd PP 54 [1,1,1,1,0,1]=.block 0 (.rangeFunc (.tmp 28) #[29] (cd PP 54 [1,1,1,1,0,1,0,0]) (cd PP 54 [1,1,1,1,0,1,0,1])):=by kernel_rfl
theorem v0c:cd PP 54 []=.seq (cd PP 54 [0]) (.seq (cd PP 54 [1,0]) (.seq (cd PP 54 [1,1,0]) (.seq (cd PP 54 [1,1,1,0]) (.seq (.seq (cd PP 54 [1,1,1,1,0,0]) (cd PP 54 [1,1,1,1,0,1])) (cd PP 54 [1,1,1,1,1]))))):=by kernel_rfl
theorem v1u:w7u (cd PP 54 [0])=true:=by kernel_rfl
theorem v1t:w7u (cd PP 54 [1,0])=true:=by kernel_rfl
theorem v1s:w7u (cd PP 54 [1,1,0])=true:=by kernel_rfl
theorem v4a:w7u (cd PP 54 [1,1,1,0])=true:=by kernel_rfl
theorem v3z:w7u (cd PP 54 [1,1,1,1,0,0])=true:=by kernel_rfl
theorem v3y:w7u (cd PP 54 [1,1,1,1,1])=true:=by kernel_rfl
theorem v3x:w7u (cd PP 54 [1,1,1,1,0,1,0,0])=true:=by kernel_rfl
theorem v3w:w7u (cd PP 54 [1,1,1,1,0,1,0,1])=true:=by kernel_rfl
theorem v3q:okC (cd PP 54 [1,1,1,1,0,1,0,0])=true:=by kernel_rfl
theorem v3p:okC (cd PP 54 [1,1,1,1,0,1,0,1])=true:=by kernel_rfl
def tlV (ms:List Mst)(ds:List Dcr)(i f u:Int):List Trn×Int :=
 if (z0f ms ds i 0).2≠0 then ([],(z0f ms ds i 0).2) else if w7t f u=false then ([],1) else
  if 100000 < (w7s ds (z0f ms ds i 0).1 f u).length then ([],2) else (w7s ds (z0f ms ds i 0).1 f u,0)
def R54:Spc:=fun args=>match args with
 | [.agg [.vs a n .none,.vs c k .none],.int .i64 i,.int .i64 f,.int .i64 u]=>some (∃ ms ds,a=z0a z0d ms∧n=ms.length∧c=z0a z0b ds∧k=ds.length∧ms.length≤10000000∧ds.length≤10000000,.ret (.tup [.vs (z0a x9p (tlV (z1f a) (z0j c) i f u).1) (tlV (z1f a) (z0j c) i f u).1.length .none,I (tlV (z1f a) (z0j c) i f u).2]))
 | _=>none
def w8s:Env:=[X,X,X,X,X,X,X,X,.ptr 1 0,.ptr 2 0,X,X,.ptr 11 0,X,X,X,X,X,X,X,X,X,X,X,X,X,X,X,.fn (.func 164) [] [.ptr 13 0,.ptr 14 0,.ptr 12 0]]++replicate 9 X
def w87 (ms:List Mst)(ds:List Dcr)(m:Mst):List (Option HB):=[some (.cells [.vs (z0a z0d ms) ms.length .none,.vs (z0a z0b ds) ds.length .none] 25),some (.cells [.vs (z0a z0d ms) ms.length .none,.vs (z0a z0b ds) ds.length .none] 25),some (.cells [I m.id,I m.zo] 58),some (.cells [.vs (z0a z0d ms) ms.length .none,.vs (z0a z0b ds) ds.length .none] 25),some (.cells [I m.id,I m.zo] 58),some (.map (z6g ds []))]
def w7x (ms:List Mst)(ds:List Dcr)(m:Mst)(r1 r2:AV):List (Option HB):=[some (.cells [.vs (z0a z0d ms) ms.length .none,.vs (z0a z0b ds) ds.length .none] 25),some (.cells [r1] 67),some (.cells [r2] 30)]++w87 ms ds m
def P54 (ms:List Mst)(ds:List Dcr)(m:Mst)(L:List Trn)(c:Cs):Prop :=
 c.J=[]∧c.pre=w7x ms ds m (.vs [] 0 .zero) (I 0)∧L.length≤100000∧((L=[]∧c.d=some (.cells [.vs [] 0 .zero] 67))∨∃ j,c.d=some (.cells [.vs (z0a x9p L) L.length (.own j)] 67)∧c.T[j]?=some (L.length,(3,77)))
def F54 (ms:List Mst)(ds:List Dcr)(m:Mst)(L:List Trn)(x:Trn)(c:Cs):Prop :=
 L.length=100000∧∃ j,c.pre=w7x ms ds m (.vs [] 0 .zero) (I 2)∧c.d=some (.cells [.vs (z0a x9p L) L.length (.own j)] 67)
theorem w8p (ms:List Mst)(ds:List Dcr)(m:Mst)(n:Nat):(w87 ms ds m).all (okBlk n)=true:=by
 have hS:=y3q ds [] [] SetOk.nil
 unfold w87
 rw[List.all_cons,List.all_cons,List.all_cons,List.all_cons,List.all_cons,List.all_cons,List.all_nil,hS.blk]
 simp[okBlk,noHB,noHL,noH,eM.noHL',eD.noHL',eNum.noHL']
theorem v1m (os:List Trn)(x:Trn):z0a x9p os++[I x.at',I x.fl,Bo x.ho]=z0a x9p (os++[x]):=by rw[y86];rfl
theorem w85 (ms:List Mst)(ds:List Dcr)(m:Mst){n:Nat}{r2:AV}(hr:noH n r2=true)(L:List Trn)(p:Nat)(t:Tok):(w7x ms ds m (.vs [] 0 .zero) r2++[some (cells [.vs (z0a x9p L) p t] 67)]).all (okBlk n)=true:=by
 rw[List.all_append]
 unfold w7x
 rw[List.all_append,w8p]
 simp[okBlk,noHB,noHL,noH,eM.noHL',eD.noHL',eT.noHL',hr]
theorem v1o (ms:List Mst)(ds:List Dcr)(m m':Mst)(f u:Int):Sink 9 (w7z XL.cx noSelf #[29] (cd PP 54 [1,1,1,1,0,1,0,0]) (cd PP 54 [1,1,1,1,0,1,0,1]) w8s) (mV ms ds m.id m.zo) f u (P54 ms ds m') (F54 ms ds m') where
 len:=fun L c h=>by rw[h.2.1];rfl
 lenF:=fun L x c ⟨_,j,h,_⟩=>by rw[h];rfl
 ok:=fun L c ⟨_,h1,_,h2⟩=>by
  rw[h1,List.all_append]
  unfold w7x
  rw[List.all_append,w8p]
  rcases h2 with ⟨-,h2⟩ | ⟨j,h2,-⟩
  ·rw[h2];simp[okBlk,noHB,noHL,noH,eM.noHL',eD.noHL',eNum.noHL']
  ·rw[h2];simp[okBlk,noHB,noHL,noH,eM.noHL',eD.noHL',eT.noHL']
 okF:=fun L x c ⟨_,j,h1,h2⟩=>by
  rw[h1,List.all_append]
  unfold w7x
  rw[List.all_append,w8p,h2]
  simp[okBlk,noHB,noHL,noH,eM.noHL',eD.noHL',eT.noHL']
 step:=fun L x c es W hes hP=>by
  obtain ⟨pre,d,J,T⟩:=c
  obtain ⟨rfl,rfl,hL,hd⟩:=hP
  have key:=w8o xlo xlm xlc (ps:=#[29]) (asg:=cd PP 54 [1,1,1,1,0,1,0,0]) (body:=cd PP 54 [1,1,1,1,0,1,0,1]) (env:=w8s) (it:=[.agg (x9p x)]) (S:=stT 9 ⟨w7x ms ds m' (.vs [] 0 .zero) (I 0),d,[],T⟩ (mV ms ds m.id m.zo) f u es W)
   (kk:=fun j S'=>∃ c',S'=stT 9 c' (mV ms ds m.id m.zo) f u es []∧((j=none∧P54 ms ds m' (L++[x]) c')∨(j=some .ret∧F54 ms ds m' L x c'))) (N:=15) rfl rfl v3x v3w ?_
  ·obtain ⟨j,S',h1,c',rfl,h2⟩:=key
   exact ⟨j,c',[],h1,h2⟩
  rcases hd with ⟨rfl,rfl⟩ | ⟨j,rfl,hT⟩
  ·refine (v1f _ _ _ _ _ _ _ _ _ _ _ _ _ _ _ x T _).mpr ⟨rfl,?_⟩
   refine (v3f _ _ _ _ _ _ _ _ _ _ _ _ x _ T _).mpr ⟨fun v h=>(by cases h),?_,⟨w7x ms ds m' (.vs [] 0 .zero) (I 0),some (.cells [.vs (z0a x9p [x]) 1 (.own (T++[(1,3,77)]).length)] 67),[],T++[(1,3,77)]++[(1,3,77)]⟩,rfl,.inl ⟨rfl,rfl,rfl,by simp,.inr ⟨_,rfl,by simp⟩⟩⟩
   exact w74 (K:=9) (c:=⟨w7x ms ds m' (.vs [] 0 .zero) (I 0),some (.cells [.vs (z0a x9p [x]) 1 (.own (T++[(1,3,77)]).length)] 67),[],T++[(1,3,77)]++[(1,3,77)]⟩) (W:=[]) rfl (w85 ms ds m' rfl [x] 1 _) hes
  ·refine (v1f _ _ _ _ _ _ _ _ _ _ _ _ _ _ _ x T _).mpr ⟨rfl,?_⟩
   refine (v3h _ _ _ _ _ _ _ _ _ _ _ _ (z0a x9p L) L.length j x _ T _).mpr (z0i (fun c=>?_) (fun c=>?_))
   ·have c:L.length=100000:=by have:=eq_of_beq c;omega
    refine ⟨fun v h=>(by cases h),?_,⟨w7x ms ds m' (.vs [] 0 .zero) (I 2),some (.cells [.vs (z0a x9p L) L.length (.own j)] 67),[],T⟩,rfl,.inr ⟨rfl,c,j,rfl,rfl⟩⟩
    exact w74 (K:=9) (c:=⟨w7x ms ds m' (.vs [] 0 .zero) (I 2),some (.cells [.vs (z0a x9p L) L.length (.own j)] 67),[],T⟩) (W:=[]) rfl (w85 ms ds m' rfl L _ _) hes
   ·have c:L.length≠100000:=fun q=>by rw[q]at c;cases c
    refine z0h (dt (by omega)) (z0h (dt (by omega)) (z0h (dt (eT.lenL L)) (z0h (dt (w4r hT)) ?_)))
    rw[v1m]
    refine ⟨fun v h=>(by cases h),?_,⟨w7x ms ds m' (.vs [] 0 .zero) (I 0),some (.cells [.vs (z0a x9p (L++[x])) (L.length+1) (.own j)] 67),[],(T++[(1,3,77)]).set j (L.length+1,3,77)⟩,rfl,.inl ⟨rfl,rfl,rfl,by simp;omega,.inr ⟨j,by simp,by simpa using w4e hT⟩⟩⟩
    exact w74 (K:=9) (c:=⟨w7x ms ds m' (.vs [] 0 .zero) (I 0),some (.cells [.vs (z0a x9p (L++[x])) (L.length+1) (.own j)] 67),[],(T++[(1,3,77)]).set j (L.length+1,3,77)⟩) (W:=[]) rfl (w85 ms ds m' rfl (L++[x]) _ _) hes
theorem w8e:∀ l:List Trn,z5d (z0a x9p l)=z0a x9p l
 | []=>rfl
 | x::l=>by rw[z0a,x3q,w8e l];rfl
section
variable {ms:List Mst}{ds:List Dcr}{i f u:Int}(hm:ms.length≤10000000)(hk:ds.length≤10000000)
include hm hk
theorem v2s:∃ L t,L=(tlV ms ds i f u).1∧CallOk XL.cx 54 [.agg [.vs (z0a z0d ms) ms.length .none,.vs (z0a z0b ds) ds.length .none],I i,I f,I u] St.nil (.ret (.tup [.vs (z0a x9p L) L.length t,I (tlV ms ds i f u).2])) St.nil:=by
 have hp:∃ ms' ds',z0a z0d ms=z0a z0d ms'∧ms.length=ms'.length∧z0a z0b ds=z0a z0b ds'∧ds.length=ds'.length∧ms'.length≤10000000∧ds'.length≤10000000:=⟨ms,ds,rfl,rfl,rfl,rfl,hm,hk⟩
 have start:∀ r,(decide ((z0f ms ds i 0).2≠0) || !w7t f u)=true→w0v XL.cx Tryz.f54 r .ret ([X,X,I f,I u,X,X,X,X,.ptr 1 0,.ptr 2 0,.raw .nilPtr,I (if (z0f ms ds i 0).2≠0 then (z0f ms ds i 0).2 else 1),X,X,X,X,X,X,X,X,X,X,I (if (z0f ms ds i 0).2≠0 then (z0f ms ds i 0).2 else 1),Bo ((if (z0f ms ds i 0).2≠0 then (z0f ms ds i 0).2 else 1) != 0),I (if (z0f ms ds i 0).2≠0 then (z0f ms ds i 0).2 else 1)]++replicate 13 X) ⟨[some (.cells [.vs (z0a z0d ms) ms.length .none,.vs (z0a z0b ds) ds.length .none] 25),some (.cells [.vs [] 0 .zero] 67),some (.cells [I (if (z0f ms ds i 0).2≠0 then (z0f ms ds i 0).2 else 1)] 30)],[],[2,1]⟩ ⟨none,0⟩→CallOk XL.cx 54 [.agg [.vs (z0a z0d ms) ms.length .none,.vs (z0a z0b ds) ds.length .none],I i,I f,I u] St.nil (.ret r) St.nil:=fun r hb hr=>by
  refine CallOk.of_RWE (Y:=fun _ _ _ _=>False) xlok Tryz.func54 (c:=cd PP 54 []) (by kernel_rfl) ?_
  rw[v0c]
  refine RW.seq (RW.of_wpN xlo xlok xlm xlc v1u ((v1h _ _ _ _ i f u _).mpr ?_))
  refine RW.mask' [1,2,3,4,8,9] (env':=[X,I i,I f,I u,.ptr 0 0,X,X,X,.ptr 1 0,.ptr 2 0]++replicate 28 X) rfl ?_
  refine RW.seq (RW.of_wpN xlo xlok xlm xlc v1t ((v1g _ _ _ _ i f u _).mpr ?_))
  rw[x11,x12,z1m,y5w,y5v]
  refine ⟨hp,z0h hb ?_⟩
  refine RW.mask' [2,3,8,9,10,11] (env':=[X,X,I f,I u,X,X,X,X,.ptr 1 0,.ptr 2 0,.raw .nilPtr,I (if (z0f ms ds i 0).2≠0 then (z0f ms ds i 0).2 else 1)]++replicate 26 X) rfl ?_
  refine RW.seq (RW.of_wpN xlo xlok xlm xlc v1s ((v3l _ f u _ _ _).mpr (z0h ?_ hr)))
  by_cases h:(z0f ms ds i 0).2≠0
  ·rw[if_pos h];simpa using h
  ·rw[if_neg h];rfl
 by_cases h1:(z0f ms ds i 0).2≠0
 ·have e:tlV ms ds i f u=([],(z0f ms ds i 0).2):=by unfold tlV;rw[if_pos h1]
  rw[e]
  refine ⟨[],.zero,rfl,start _ (by simp[h1]) ?_⟩
  rw[if_pos h1]
  exact ⟨.inr rfl,_,_,rfl,rfl,rfl⟩
 have h1':(z0f ms ds i 0).2=0:=by simpa using h1
 by_cases h2:w7t f u=false
 ·have e:tlV ms ds i f u=([],1):=by unfold tlV;rw[if_neg h1,if_pos h2]
  rw[e]
  refine ⟨[],.zero,rfl,start _ (by simp[h2]) ?_⟩
  rw[if_neg h1]
  exact ⟨.inr rfl,_,_,rfl,rfl,rfl⟩
 clear start
 have h2':w7t f u=true:=by simpa using h2
 have hr:=h2'
 unfold w7t at hr
 simp only[Bool.and_eq_true,decide_eq_true_eq]at hr
 obtain ⟨⟨hf,hfu⟩,hu⟩:=hr
 obtain ⟨c1,c2,c3⟩:=y1r h1'
 obtain ⟨-,-,z1,z2⟩:=y6s h1'
 have hP:P54 ms ds (z0f ms ds i 0).1 [] ⟨w7x ms ds (z0f ms ds i 0).1 (.vs [] 0 .zero) (I 0),some (.cells [.vs [] 0 .zero] 67),[],[]⟩:=⟨rfl,rfl,by simp,.inl ⟨rfl,rfl⟩⟩
 obtain ⟨j,c',es',hM,hc,hs⟩:=w9v c1.dok c1.ml c1.dl z1 z2 hf hu (v1o ms ds (z0f ms ds i 0).1 (z0f ms ds i 0).1 f u) (es:=[]) (W:=[]) rfl (MapOk.nil _ _) hP
 have start:∀ r,w0u (y3h 0 (w0t XL.cx 0 none (fun _ _ _ _=>False) (cd PP 54 [1,1,1,1,1]) (w0v XL.cx Tryz.f54 r))) w8s (stT 9 { c' with J:=[] } (mV ms ds (z0f ms ds i 0).1.id (z0f ms ds i 0).1.zo) f u es' []) 1 j→CallOk XL.cx 54 [.agg [.vs (z0a z0d ms) ms.length .none,.vs (z0a z0b ds) ds.length .none],I i,I f,I u] St.nil (.ret r) St.nil:=fun r hr=>by
  refine CallOk.of_RWE (Y:=fun _ _ _ _=>False) xlok Tryz.func54 (c:=cd PP 54 []) (by kernel_rfl) ?_
  rw[v0c]
  refine RW.seq (RW.of_wpN xlo xlok xlm xlc v1u ((v1h _ _ _ _ i f u _).mpr ?_))
  refine RW.mask' [1,2,3,4,8,9] (env':=[X,I i,I f,I u,.ptr 0 0,X,X,X,.ptr 1 0,.ptr 2 0]++replicate 28 X) rfl ?_
  refine RW.seq (RW.of_wpN xlo xlok xlm xlc v1t ((v1g _ _ _ _ i f u _).mpr ?_))
  rw[x11,x12,z1m,y5w,y5v]
  refine ⟨hp,z02 (by rw[h1',h2'];rfl) ?_⟩
  refine RW.mask' [2,3,8,9,10,11] (env':=[X,X,I f,I u,X,X,X,X,.ptr 1 0,.ptr 2 0,.ptr 10 0,I 0]++replicate 26 X) rfl ?_
  refine RW.seq (RW.of_wpN xlo xlok xlm xlc v1s ((v3k _ _ _ _ _ _ _ _ _ _ _ f u _).mpr ?_))
  refine RW.mask' [2,3,8,9,10] (env':=[X,X,I f,I u,X,X,X,X,.ptr 1 0,.ptr 2 0,.ptr 10 0]++replicate 27 X) rfl ?_
  refine RW.seq (RW.of_wpN xlo xlok xlm xlc v4a ((v3j _ _ _ _ _ _ _ _ _ _ _ f u _).mpr ?_))
  refine RW.mask' [2,3,8,9,10,12] (env':=[X,X,I f,I u,X,X,X,X,.ptr 1 0,.ptr 2 0,.ptr 10 0,X,.ptr 11 0]++replicate 25 X) rfl ?_
  refine RW.seq (RW.seq (RW.of_wpN xlo xlok xlm xlc v3z ((v3i _ _ _ _ _ _ _ _ _ _ _ _ f u _).mpr ⟨trivial,?_⟩)))
  show RW _ _ _ _ (cd PP 54 [1,1,1,1,0,1]) _ _ _ _
  rw[v2u]
  refine RW.mask' [8,9,12,28] (env':=w8s) rfl (RW.block ?_)
  exact RW.rangeC (sf:=noSelf) xlok (y61 _) v3q v3p rfl hs (by simp) hr
 rcases hc with ⟨rfl,hj,hpre,hlen,hd⟩ | ⟨rfl,L1,x,L2,hsp,hl,j,hpre,hd⟩
 ·have hlen:(w7s ds (z0f ms ds i 0).1 f u).length≤100000:=hlen
  have e:tlV ms ds i f u=(w7s ds (z0f ms ds i 0).1 f u,0):=by unfold tlV;rw[if_neg h1,if_neg h2,if_neg (by omega)]
  obtain ⟨t,hd⟩:∃ t,c'.d=some (.cells [.vs (z0a x9p (w7s ds (z0f ms ds i 0).1 f u)) (w7s ds (z0f ms ds i 0).1 f u).length t] 67):=by
   rcases hd with ⟨h,hd⟩ | ⟨j,hd,-⟩
   ·refine ⟨.zero,?_⟩
    have h:w7s ds (z0f ms ds i 0).1 f u=[]:=h
    rw[h];exact hd
   ·exact ⟨_,hd⟩
  rw[e]
  refine ⟨_,t.scrub 0,rfl,start _ ?_⟩
  obtain ⟨pre,d,J,T⟩:=c'
  obtain rfl:pre=_:=hpre
  obtain rfl:d=_:=hd
  show RW _ _ _ _ (cd PP 54 [1,1,1,1,1]) _ _ _ _
  refine RW.mask' [8,9,12] (env':=[X,X,X,X,X,X,X,X,.ptr 1 0,.ptr 2 0,X,X,.ptr 11 0]++replicate 25 X) rfl ?_
  refine RW.of_wpN xlo xlok xlm xlc v3y ((v3g _ none none _ _ _ _ _ _ _ _ _ _ _ _ _ t _ _ T _).mpr ?_)
  exact ⟨.inr rfl,.tup [.vs (z0a x9p (w7s ds (z0f ms ds i 0).1 f u)) (w7s ds (z0f ms ds i 0).1 f u).length t,I 0],.tup [.vs (z0a x9p (w7s ds (z0f ms ds i 0).1 f u)) (w7s ds (z0f ms ds i 0).1 f u).length t,I 0],rfl,by simp[pub,z97,noH,eT.noHL'],by simp[scrub,z0e,eT.scL]⟩
 ·have hl2:100000 < (w7s ds (z0f ms ds i 0).1 f u).length:=by
   have:w7s ds (z0f ms ds i 0).1 f u=L1++x::L2:=hsp
   rw[this];simp;omega
  have e:tlV ms ds i f u=([],2):=by unfold tlV;rw[if_neg h1,if_neg h2,if_pos hl2]
  rw[e]
  refine ⟨_,.zero,rfl,start _ ?_⟩
  obtain ⟨pre,d,J,T⟩:=c'
  obtain rfl:pre=_:=hpre
  obtain rfl:d=_:=hd
  exact ⟨.inr rfl,_,_,rfl,rfl,rfl⟩
end
theorem v4i:Ct qB.c0 54 R54:=⟨⟨_,_,Tryz.func54,rfl⟩,fun args D r hR hD=>by
 unfold R54 at hR
 split at hR<;>cases hR
 rename_i a n c k i f u
 obtain ⟨ms,ds,rfl,rfl,rfl,rfl,hm,hk⟩:=hD
 refine ⟨by simp[noHL,noH,eM.noHL',eD.noHL'],?_⟩
 rw[show z0e 0 [agg [vs (z0a z0d ms) ms.length .none,vs (z0a z0b ds) ds.length .none],I i,I f,I u]=[agg [vs (z0a z0d ms) ms.length .none,vs (z0a z0b ds) ds.length .none],I i,I f,I u] by simp[z0e,scrub,eM.scL,eD.scL,Tok.scrub],z6p,z1m]
 obtain ⟨L,t,rfl,h⟩:=v2s (ms:=ms) (ds:=ds) (i:=i) (f:=f) (u:=u) hm hk
 have hz:=CallOk.zap h
 have e:y7v (.ret (.tup [.vs (z0a x9p (tlV ms ds i f u).1) (tlV ms ds i f u).1.length t,I (tlV ms ds i f u).2]))=.ret (.tup [.vs (z0a x9p (tlV ms ds i f u).1) (tlV ms ds i f u).1.length .none,I (tlV ms ds i f u).2]):=by
  simp only[y7v,zap,z5d,w8e]
 rw[e]at hz
 exact hz⟩
end Go.Proofs
namespace Go.Proofs
open Go Go.Ev
theorem v1e (a c:List AV)(n k:Nat)(l:List AV)(p:Nat)(i f u:Int)(Q:EX→Env→St→Prop):wpC XL (cd PP 56 [0]) ([.agg [.vs a n .none,.vs c k .none],I i,I f,I u,.vs l p .none]++replicate 45 X) ⟨[],[],[]⟩ Q =
 (Q EX.normal ([agg [vs a n .none,vs c k .none],I i,I f,I u,vs l p .none,ptr 0 0,X,X,X,ptr 1 0,ptr 2 0,ptr 3 0]++replicate 38 X) (St.mk [some (cells [vs a n .none,vs c k .none] 25),some (cells [vs l p .none] 67),some (cells [Bo false] 4),some (cells [I 0] 30)] [] [])):=by kernel_rfl
theorem v1d (a c:List AV)(n k:Nat)(l:List AV)(p:Nat)(i f u:Int)(Q:EX→Env→St→Prop):wpC XL (cd PP 56 [1,0]) ([X,I i,I f,I u,X,.ptr 0 0,X,X,X,.ptr 1 0,.ptr 2 0,.ptr 3 0]++replicate 38 X) ⟨[some (.cells [.vs a n .none,.vs c k .none] 25),some (.cells [.vs l p .none] 67),some (.cells [Bo false] 4),some (.cells [I 0] 30)],[],[]⟩ Q =
 ((∃ ms,∃ ds,a=z0a z0d ms∧n=ms.length∧c=z0a z0b ds∧k=ds.length∧ms.length≤10000000∧ds.length≤10000000)∧cIf (decide (aE a c i 0≠0) || !w7t f u) (Q EX.normal ([X,I i,I f,I u,X,ptr 0 0,X,X,X,ptr 1 0,ptr 2 0,ptr 3 0,raw RV.nilPtr,I (if aE a c i 0≠0 then aE a c i 0 else 1),X,X,tup [raw RV.nilPtr,I (if aE a c i 0≠0 then aE a c i 0 else 1)],agg [vs a n .none,vs c k .none],I i,I f,I u,tup [raw RV.nilPtr,I (if aE a c i 0≠0 then aE a c i 0 else 1)],raw RV.nilPtr,I (if aE a c i 0≠0 then aE a c i 0 else 1)]++replicate 26 X) (St.mk [some (cells [vs a n .none,vs c k .none] 25),some (cells [vs l p .none] 67),some (cells [Bo false] 4),some (cells [I 0] 30)] [] [])) (Q EX.normal ([X,I i,I f,I u,X,ptr 0 0,X,X,X,ptr 1 0,ptr 2 0,ptr 3 0,ptr 11 0,I 0,X,X,tup [ptr 11 0,I 0],agg [vs a n .none,vs c k .none],I i,I f,I u,tup [ptr 11 0,I 0],ptr 11 0,I 0]++replicate 26 X) (St.mk [some (cells [vs a n .none,vs c k .none] 25),some (cells [vs l p .none] 67),some (cells [Bo false] 4),some (cells [I 0] 30),some (cells [vs a n .none,vs c k .none] 25),some (cells [vs a n .none,vs c k .none] 25),some (cells [I (aA a c i 0).id,I (aA a c i 0).zo] 58),some (cells [vs a n .none,vs c k .none] 25),some (cells [I (aA a c i 0).id,I (aA a c i 0).zo] 58),some (map (z6g (z0j c) [])),some (map []),some (cells [vs a n .none,vs c k .none,I (aA a c i 0).id,I (aA a c i 0).zo,vs (bC c) (bN c) .none,mp 10] 185)] [] []))):=by kernel_rfl
theorem v3e (b0 b1:Option HB)(f u e:Int)(p:AV)(Q:EX→Env→St→Prop):wpC XL (cd PP 56 [1,1,0]) ([X,X,I f,I u,X,X,X,X,X,.ptr 1 0,.ptr 2 0,.ptr 3 0,p,I e]++replicate 36 X) ⟨[b0,b1,some (.cells [Bo false] 4),some (.cells [I 0] 30)],[],[]⟩ Q =
 (cIf (e != 0) (Q EX.ret ([X,X,I f,I u,X,X,X,X,X,ptr 1 0,ptr 2 0,ptr 3 0,p,I e,X,X,X,X,X,X,X,X,X,X,I e,Bo (e != 0),I e]++replicate 23 X) (St.mk [b0,b1,some (cells [Bo false] 4),some (cells [I e] 30)] [] [3,2])) (Q EX.normal ([X,X,I f,I u,X,X,X,X,X,ptr 1 0,ptr 2 0,ptr 3 0,p,I e,X,X,X,X,X,X,X,X,X,X,I e,Bo (e != 0)]++replicate 24 X) (St.mk [b0,b1,some (cells [Bo false] 4),some (cells [I 0] 30)] [] []))):=by kernel_rfl
theorem v3d (b0 b1 b2 b3 b4 b5 b6 b7 b8 b9 b10 b11:Option HB)(f u:Int)(Q:EX→Env→St→Prop):wpC XL (cd PP 56 [1,1,0]) ([X,X,I f,I u,X,X,X,X,X,.ptr 1 0,.ptr 2 0,.ptr 3 0,.ptr 11 0,I 0]++replicate 36 X) ⟨[b0,b1,b2,b3,b4,b5,b6,b7,b8,b9,b10,b11],[],[]⟩ Q =
 (Q EX.normal ([X,X,I f,I u,X,X,X,X,X,ptr 1 0,ptr 2 0,ptr 3 0,ptr 11 0,I 0,X,X,X,X,X,X,X,X,X,X,I 0,Bo false]++replicate 24 X) (St.mk [b0,b1,b2,b3,b4,b5,b6,b7,b8,b9,b10,b11] [] [])):=by kernel_rfl
theorem v3c (b0 b1 b2 b3 b4 b5 b6 b7 b8 b9 b10 b11:Option HB)(f u:Int)(Q:EX→Env→St→Prop):wpC XL (cd PP 56 [1,1,1,0]) ([X,X,I f,I u,X,X,X,X,X,.ptr 1 0,.ptr 2 0,.ptr 3 0,.ptr 11 0]++replicate 37 X) ⟨[b0,b1,b2,b3,b4,b5,b6,b7,b8,b9,b10,b11],[],[]⟩ Q =
 (Q EX.normal ([X,X,I f,I u,X,X,X,X,X,ptr 1 0,ptr 2 0,ptr 3 0,ptr 11 0,X,ptr 12 0]++replicate 35 X) (St.mk [b0,b1,b2,b3,b4,b5,b6,b7,b8,b9,b10,b11,some (cells [I 0] 3)] [] [12])):=by kernel_rfl
theorem v3b (b0 b1 b2 b3 b4 b5 b6 b7 b8 b9 b10 b11 b12:Option HB)(f u:Int)(Q:EX→Env→St→Prop):wpC XL (cd PP 56 [1,1,1,1,0,0]) ([X,X,I f,I u,X,X,X,X,X,.ptr 1 0,.ptr 2 0,.ptr 3 0,.ptr 11 0,X,.ptr 12 0]++replicate 35 X) ⟨[b0,b1,b2,b3,b4,b5,b6,b7,b8,b9,b10,b11,b12],[],[12]⟩ Q =
 (True∧Q EX.normal ([X,X,I f,I u,X,X,X,X,X,ptr 1 0,ptr 2 0,ptr 3 0,ptr 11 0,X,ptr 12 0,X,X,X,X,X,X,X,X,X,X,X,X,ptr 11 0,I f,I u,AV.fn (Fn.func 164) [] [ptr 14 0,ptr 15 0,ptr 13 0]]++replicate 19 X) (St.mk [b0,b1,b2,b3,b4,b5,b6,b7,b8,b9,b10,b11,b12,some (cells [ptr 11 0] 104),some (cells [I f] 3),some (cells [I u] 3)] [] [12])):=by kernel_rfl
theorem v3a (b0 b1 b2 b3 b4 b5 b6 b7 b8 b9 b10 b11 b12 b13 b14 b15:Option HB)(x:Trn)(T:List (Nat×(Nat×Nat)))(Q:EX→Env→St→Prop):wpC XL (cd PP 56 [1,1,1,1,0,1,0,0]) ([X,X,X,X,X,X,X,X,X,.ptr 1 0,.ptr 2 0,.ptr 3 0,X,X,.ptr 12 0,X,X,X,X,X,X,X,X,X,X,X,X,X,X,X,.fn (.func 164) [] [.ptr 14 0,.ptr 15 0,.ptr 13 0],.agg [I x.at',I x.fl,Bo x.ho]]++replicate 18 X) ⟨[b0,b1,b2,b3,b4,b5,b6,b7,b8,b9,b10,b11,b12,b13,b14,b15],T,[]⟩ Q =
 (Q EX.normal ([X,X,X,X,X,X,X,X,X,ptr 1 0,ptr 2 0,ptr 3 0,X,X,ptr 12 0,ptr 16 0,X,X,X,X,X,X,X,X,X,X,X,X,X,X,AV.fn (Fn.func 164) [] [ptr 14 0,ptr 15 0,ptr 13 0],agg [I x.at',I x.fl,Bo x.ho]]++replicate 18 X) (St.mk [b0,b1,b2,b3,b4,b5,b6,b7,b8,b9,b10,b11,b12,b13,b14,b15,some (cells [I x.at',I x.fl,Bo x.ho] 77)] T [16])):=by kernel_rfl
theorem v2z (b0 b4 b5 b6 b7 b8 b9 b10 b11 b13 b14 b15:Option HB)(l:List AV)(p k:Nat)(x:Trn)(g:AV)(T:List (Nat×(Nat×Nat)))(Q:EX→Env→St→Prop):wpC XL (cd PP 56 [1,1,1,1,0,1,0,1]) ([X,X,X,X,X,X,X,X,X,.ptr 1 0,.ptr 2 0,.ptr 3 0,X,X,.ptr 12 0,.ptr 16 0,X,X,X,X,X,X,X,X,X,X,X,X,X,X,.fn (.func 164) [] [.ptr 14 0,.ptr 15 0,.ptr 13 0],g]++replicate 18 X) ⟨[b0,some (.cells [.vs l p .none] 67),some (.cells [Bo false] 4),some (.cells [I 0] 30),b4,b5,b6,b7,b8,b9,b10,b11,some (.cells [I k] 3),b13,b14,b15,some (.cells [I x.at',I x.fl,Bo x.ho] 77)],T,[16]⟩ Q =
 (cIf (decide ((↑k:Int)≥(↑p:Int))) (Q EX.ret ([X,X,X,X,X,X,X,X,X,ptr 1 0,ptr 2 0,ptr 3 0,X,X,ptr 12 0,ptr 16 0,X,X,X,X,X,X,X,X,X,X,X,X,X,X,AV.fn (Fn.func 164) [] [ptr 14 0,ptr 15 0,ptr 13 0],g,I k,vs l p .none,I p,Bo (decide ((↑k:Int)≥(↑p:Int))),Bo true,tup [],tup [],tup [],tup [],tup [],tup [],Bo true]++replicate 6 X) (St.mk [b0,some (cells [vs l p .none] 67),some (cells [Bo false] 4),some (cells [I 0] 30),b4,b5,b6,b7,b8,b9,b10,b11,some (cells [I k] 3),b13,b14,b15,some (cells [I x.at',I x.fl,Bo x.ho] 77)] T [3,2,16])) (cIf (decide (k < p)) (cIf (decide (p*3=l.length)) (cIf (decide (3≤(drop (k*3) l).length)) (cIf (like [I 0,I 0,Bo false] (el (drop (k*3) l) 0 3)) (cIf (!(cI (el (drop (k*3) l) 0 3) 0 == x.at' && (cI (el (drop (k*3) l) 0 3) 1 == x.fl && (cB (el (drop (k*3) l) 0 3) 2 == x.ho && true)))) (Q EX.ret ([X,X,X,X,X,X,X,X,X,ptr 1 0,ptr 2 0,ptr 3 0,X,X,ptr 12 0,ptr 16 0,X,X,X,X,X,X,X,X,X,X,X,X,X,X,AV.fn (Fn.func 164) [] [ptr 14 0,ptr 15 0,ptr 13 0],g,I k,vs l p .none,I p,Bo (decide ((↑k:Int)≥(↑p:Int))),Bo false,vs l p .none,I k,vp (drop (k*3) l),agg [I (cI (el (drop (k*3) l) 0 3) 0),I (cI (el (drop (k*3) l) 0 3) 1),Bo (cB (el (drop (k*3) l) 0 3) 2)],agg [I x.at',I x.fl,Bo x.ho],AV.bool !(cI (el (drop (k*3) l) 0 3) 0 == x.at' && (cI (el (drop (k*3) l) 0 3) 1 == x.fl && (cB (el (drop (k*3) l) 0 3) 2 == x.ho && true))),AV.bool !(cI (el (drop (k*3) l) 0 3) 0 == x.at' && (cI (el (drop (k*3) l) 0 3) 1 == x.fl && (cB (el (drop (k*3) l) 0 3) 2 == x.ho && true)))]++replicate 6 X) (St.mk [b0,some (cells [vs l p .none] 67),some (cells [Bo false] 4),some (cells [I 0] 30),b4,b5,b6,b7,b8,b9,b10,b11,some (cells [I k] 3),b13,b14,b15,some (cells [I x.at',I x.fl,Bo x.ho] 77)] T [3,2,16])) (Q EX.normal [X,X,X,X,X,X,X,X,X,ptr 1 0,ptr 2 0,ptr 3 0,X,X,ptr 12 0,ptr 16 0,X,X,X,X,X,X,X,X,X,X,X,X,X,X,AV.fn (Fn.func 164) [] [ptr 14 0,ptr 15 0,ptr 13 0],g,I k,vs l p .none,I p,Bo (decide ((↑k:Int)≥(↑p:Int))),Bo false,vs l p .none,I k,vp (drop (k*3) l),agg [I (cI (el (drop (k*3) l) 0 3) 0),I (cI (el (drop (k*3) l) 0 3) 1),Bo (cB (el (drop (k*3) l) 0 3) 2)],agg [I x.at',I x.fl,Bo x.ho],AV.bool !(cI (el (drop (k*3) l) 0 3) 0 == x.at' && (cI (el (drop (k*3) l) 0 3) 1 == x.fl && (cB (el (drop (k*3) l) 0 3) 2 == x.ho && true))),AV.bool !(cI (el (drop (k*3) l) 0 3) 0 == x.at' && (cI (el (drop (k*3) l) 0 3) 1 == x.fl && (cB (el (drop (k*3) l) 0 3) 2 == x.ho && true))),I k,I (IntKind.i64.wrap ((↑k:Int)+1)),X,X,X,X] (St.mk [b0,some (cells [vs l p .none] 67),some (cells [Bo false] 4),some (cells [I 0] 30),b4,b5,b6,b7,b8,b9,b10,b11,some (cells [I (IntKind.i64.wrap ((↑k:Int)+1))] 3),b13,b14,b15,some (cells [I x.at',I x.fl,Bo x.ho] 77)] T [12,16]))) False) False) False) False)):=by kernel_rfl
theorem v2y (b0 b4 b5 b6 b7 b8 b9 b10 b11 b13 b14 b15:Option HB)(l:List AV)(p k:Nat)(T:List (Nat×(Nat×Nat)))(Q:EX→Env→St→Prop):wpC XL (cd PP 56 [1,1,1,1,1]) ([X,X,X,X,X,X,X,X,X,.ptr 1 0,.ptr 2 0,.ptr 3 0,X,X,.ptr 12 0]++replicate 35 X) ⟨[b0,some (.cells [.vs l p .none] 67),some (.cells [Bo false] 4),some (.cells [I 0] 30),b4,b5,b6,b7,b8,b9,b10,b11,some (.cells [I k] 3),b13,b14,b15],T,[]⟩ Q =
 (Q EX.ret [X,X,X,X,X,X,X,X,X,ptr 1 0,ptr 2 0,ptr 3 0,X,X,ptr 12 0,X,X,X,X,X,X,X,X,X,X,X,X,X,X,X,X,X,X,X,X,X,X,X,X,X,X,X,X,X,X,X,I k,vs l p .none,I p,Bo ((↑k:Int) == (↑p:Int))] (St.mk [b0,some (cells [vs l p .none] 67),some (cells [Bo ((↑k:Int) == (↑p:Int))] 4),some (cells [I 0] 30),b4,b5,b6,b7,b8,b9,b10,b11,some (cells [I k] 3),b13,b14,b15] T [3,2])):=by kernel_rfl
end Go.Proofs
namespace Go.Proofs
open Go Go.Ev
attribute [local irreducible] wpF wpC wpE cd
theorem v2t:cd PP 56 [1,1,1,1,0,1]=.block 0 (.rangeFunc (.tmp 30) #[31] (cd PP 56 [1,1,1,1,0,1,0,0]) (cd PP 56 [1,1,1,1,0,1,0,1])):=by kernel_rfl
theorem v0b:cd PP 56 []=.seq (cd PP 56 [0]) (.seq (cd PP 56 [1,0]) (.seq (cd PP 56 [1,1,0]) (.seq (cd PP 56 [1,1,1,0]) (.seq (.seq (cd PP 56 [1,1,1,1,0,0]) (cd PP 56 [1,1,1,1,0,1])) (cd PP 56 [1,1,1,1,1]))))):=by kernel_rfl
theorem v1r:w7u (cd PP 56 [0])=true:=by kernel_rfl
theorem v1q:w7u (cd PP 56 [1,0])=true:=by kernel_rfl
theorem v1p:w7u (cd PP 56 [1,1,0])=true:=by kernel_rfl
theorem v3v:w7u (cd PP 56 [1,1,1,0])=true:=by kernel_rfl
theorem v3u:w7u (cd PP 56 [1,1,1,1,0,0])=true:=by kernel_rfl
theorem v3t:w7u (cd PP 56 [1,1,1,1,1])=true:=by kernel_rfl
theorem v3s:w7u (cd PP 56 [1,1,1,1,0,1,0,0])=true:=by kernel_rfl
theorem v3r:w7u (cd PP 56 [1,1,1,1,0,1,0,1])=true:=by kernel_rfl
theorem v3o:okC (cd PP 56 [1,1,1,1,0,1,0,0])=true:=by kernel_rfl
theorem v3n:okC (cd PP 56 [1,1,1,1,0,1,0,1])=true:=by kernel_rfl
def ckV (ms:List Mst)(ds:List Dcr)(i f u:Int)(xs:List Trn):Bool×Int :=
 if (z0f ms ds i 0).2≠0 then (false,(z0f ms ds i 0).2) else if w7t f u=false then (false,1) else (decide (w7s ds (z0f ms ds i 0).1 f u=xs),0)
def w8d (l:List AV):List Trn:=z0c (z0a x9p) (fun x=>x) [] l
theorem w8k (x:List Trn):w8d (z0a x9p x)=x:=eT.on (by decide) _ _ _
def R56:Spc:=fun args=>match args with
 | [.agg [.vs a n .none,.vs c k .none],.int .i64 i,.int .i64 f,.int .i64 u,.vs l p .none]=>some ((∃ ms ds,a=z0a z0d ms∧n=ms.length∧c=z0a z0b ds∧k=ds.length∧ms.length≤10000000∧ds.length≤10000000)∧∃ xs:List Trn,l=z0a x9p xs∧p=xs.length∧xs.length≤10000000,.ret (.tup [Bo (ckV (z1f a) (z0j c) i f u (w8d l)).1,I (ckV (z1f a) (z0j c) i f u (w8d l)).2]))
 | _=>none
def w8r:Env:=[X,X,X,X,X,X,X,X,X,.ptr 1 0,.ptr 2 0,.ptr 3 0,X,X,.ptr 12 0,X,X,X,X,X,X,X,X,X,X,X,X,X,X,X,.fn (.func 164) [] [.ptr 14 0,.ptr 15 0,.ptr 13 0]]++replicate 19 X
def w7y (ms:List Mst)(ds:List Dcr)(xs:List Trn)(m:Mst):List (Option HB):=[some (.cells [.vs (z0a z0d ms) ms.length .none,.vs (z0a z0b ds) ds.length .none] 25),some (.cells [.vs (z0a x9p xs) xs.length .none] 67),some (.cells [Bo false] 4),some (.cells [I 0] 30)]++w87 ms ds m
def P56 (ms:List Mst)(ds:List Dcr)(xs:List Trn)(m:Mst)(L:List Trn)(c:Cs):Prop :=
 c.J=[]∧c.pre=w7y ms ds xs m∧c.d=some (.cells [I L.length] 3)∧L.length≤xs.length∧L=xs.take L.length
def F56 (ms:List Mst)(ds:List Dcr)(xs:List Trn)(m:Mst)(L:List Trn)(x:Trn)(c:Cs):Prop :=
 c.pre=w7y ms ds xs m∧c.d=some (.cells [I L.length] 3)∧∀ L2,L++x::L2≠xs
theorem w8g (ms:List Mst)(ds:List Dcr)(xs:List Trn)(m:Mst){n:Nat}(k:Int):(w7y ms ds xs m++[some (cells [I k] 3)]).all (okBlk n)=true:=by
 rw[List.all_append]
 unfold w7y
 rw[List.all_append,w8p]
 simp[okBlk,noHB,noHL,noH,eM.noHL',eD.noHL',eT.noHL']
theorem v1l {y x:Trn}:(!(y.at' == x.at' && (y.fl == x.fl && (y.ho == x.ho && true))))=!decide (y=x):=by
 obtain ⟨a,b,c⟩:=y
 obtain ⟨a',b',c'⟩:=x
 rw[Bool.eq_iff_iff]
 simp
theorem v1n (ms:List Mst)(ds:List Dcr)(xs:List Trn)(hxs:xs.length≤10000000)(m m':Mst)(f u:Int):Sink 10 (w7z XL.cx noSelf #[31] (cd PP 56 [1,1,1,1,0,1,0,0]) (cd PP 56 [1,1,1,1,0,1,0,1]) w8r) (mV ms ds m.id m.zo) f u (P56 ms ds xs m') (F56 ms ds xs m') where
 len:=fun L c h=>by rw[h.2.1];rfl
 lenF:=fun L x c ⟨h,_⟩=>by rw[h];rfl
 ok:=fun L c ⟨_,h1,h2,_⟩=>by rw[h1,h2];exact w8g ms ds xs m' _
 okF:=fun L x c ⟨h1,h2,_⟩=>by rw[h1,h2];exact w8g ms ds xs m' _
 step:=fun L x c es W hes hP=>by
  obtain ⟨pre,d,J,T⟩:=c
  obtain ⟨rfl,rfl,rfl,hL,hd⟩:=hP
  have key:=w8o xlo xlm xlc (ps:=#[31]) (asg:=cd PP 56 [1,1,1,1,0,1,0,0]) (body:=cd PP 56 [1,1,1,1,0,1,0,1]) (env:=w8r) (it:=[.agg (x9p x)]) (S:=stT 10 ⟨w7y ms ds xs m',some (.cells [I L.length] 3),[],T⟩ (mV ms ds m.id m.zo) f u es W)
   (kk:=fun j S'=>∃ c',S'=stT 10 c' (mV ms ds m.id m.zo) f u es []∧((j=none∧P56 ms ds xs m' (L++[x]) c')∨(j=some .ret∧F56 ms ds xs m' L x c'))) (N:=16) rfl rfl v3s v3r ?_
  ·obtain ⟨j,S',h1,c',rfl,h2⟩:=key
   exact ⟨j,c',[],h1,h2⟩
  refine (v3a _ _ _ _ _ _ _ _ _ _ _ _ _ _ _ _ x T _).mpr ⟨rfl,?_⟩
  refine (v2z _ _ _ _ _ _ _ _ _ _ _ _ (z0a x9p xs) xs.length L.length x _ T _).mpr ?_
  refine z0i (fun c=>?_) (fun c=>?_)
  ·have c:xs.length≤L.length:=by have:=of_decide_eq_true c;omega
   refine ⟨fun v h=>(by cases h),?_,⟨w7y ms ds xs m',some (.cells [I L.length] 3),[],T⟩,rfl,.inr ⟨rfl,rfl,rfl,fun L2 q=>?_⟩⟩
   ·exact w74 (K:=10) (c:=⟨w7y ms ds xs m',some (.cells [I L.length] 3),[],T⟩) (W:=[]) rfl (w8g ms ds xs m' _) hes
   ·have:=congrArg List.length q
    simp at this
    omega
  ·have c:L.length < xs.length:=by have:=of_decide_eq_false c;omega
   obtain ⟨y,hy,hdr⟩:=z06 c
   have w1:IntKind.i64.wrap ((L.length:Int)+1)=((L.length+1:Nat):Int):=z1c (by omega) (by omega)
   simp only[dt c,eT.gl,eT.gd c,eT.g0 c (by decide),eT.el hy,eT.ld0 hy (by decide),w8x,eT.cI0 hy (by decide),w9a,w95,eT.gf c 1 (by decide),eT.ld hy 1 (by decide),eT.cI hy 1 (by decide),w89,w94,eT.gf c 2 (by decide),eT.ld hy 2 (by decide),eT.cB hy 2 (by decide),w88,w93,eT.gfn c 1 2 (by decide),w9b hy,w8y,w98,w97,z0x,w1,v1l]
   refine z0i (fun q=>?_) (fun q=>?_)
   ·have q:y≠x:=by simpa using q
    refine ⟨fun v h=>(by cases h),?_,⟨w7y ms ds xs m',some (.cells [I L.length] 3),[],T⟩,rfl,.inr ⟨rfl,rfl,rfl,fun L2 h=>?_⟩⟩
    ·exact w74 (K:=10) (c:=⟨w7y ms ds xs m',some (.cells [I L.length] 3),[],T⟩) (W:=[]) rfl (w8g ms ds xs m' _) hes
    ·have h3:xs[L.length]?=some x:=by rw[← h];simp
     rw[h3]at hy
     exact q (Option.some.inj hy).symm
   ·have q:y=x:=by simpa using q
    subst q
    refine ⟨fun v h=>(by cases h),?_,⟨w7y ms ds xs m',some (.cells [I ((L.length+1:Nat):Int)] 3),[],T⟩,rfl,.inl ⟨rfl,rfl,rfl,by simp,by simp;omega,?_⟩⟩
    ·exact w74 (K:=10) (c:=⟨w7y ms ds xs m',some (.cells [I ((L.length+1:Nat):Int)] 3),[],T⟩) (W:=[]) rfl (w8g ms ds xs m' _) hes
    ·rw[List.length_append,List.length_singleton,List.take_add_one,hy,← hd]
     rfl
section
variable {ms:List Mst}{ds:List Dcr}{xs:List Trn}{i f u:Int}(hm:ms.length≤10000000)(hk:ds.length≤10000000)(hxs:xs.length≤10000000)
include hm hk hxs
theorem v2r:CallOk XL.cx 56 [.agg [.vs (z0a z0d ms) ms.length .none,.vs (z0a z0b ds) ds.length .none],I i,I f,I u,.vs (z0a x9p xs) xs.length .none] St.nil (.ret (.tup [Bo (ckV ms ds i f u xs).1,I (ckV ms ds i f u xs).2])) St.nil:=by
 have hp:∃ ms' ds',z0a z0d ms=z0a z0d ms'∧ms.length=ms'.length∧z0a z0b ds=z0a z0b ds'∧ds.length=ds'.length∧ms'.length≤10000000∧ds'.length≤10000000:=⟨ms,ds,rfl,rfl,rfl,rfl,hm,hk⟩
 have start:∀ r,(decide ((z0f ms ds i 0).2≠0) || !w7t f u)=true→w0v XL.cx Tryz.f56 r .ret ([X,X,I f,I u,X,X,X,X,X,.ptr 1 0,.ptr 2 0,.ptr 3 0,.raw .nilPtr,I (if (z0f ms ds i 0).2≠0 then (z0f ms ds i 0).2 else 1),X,X,X,X,X,X,X,X,X,X,I (if (z0f ms ds i 0).2≠0 then (z0f ms ds i 0).2 else 1),Bo ((if (z0f ms ds i 0).2≠0 then (z0f ms ds i 0).2 else 1) != 0),I (if (z0f ms ds i 0).2≠0 then (z0f ms ds i 0).2 else 1)]++replicate 23 X) ⟨[some (.cells [.vs (z0a z0d ms) ms.length .none,.vs (z0a z0b ds) ds.length .none] 25),some (.cells [.vs (z0a x9p xs) xs.length .none] 67),some (.cells [Bo false] 4),some (.cells [I (if (z0f ms ds i 0).2≠0 then (z0f ms ds i 0).2 else 1)] 30)],[],[3,2]⟩ ⟨none,0⟩→CallOk XL.cx 56 [.agg [.vs (z0a z0d ms) ms.length .none,.vs (z0a z0b ds) ds.length .none],I i,I f,I u,.vs (z0a x9p xs) xs.length .none] St.nil (.ret r) St.nil:=fun r hb hr=>by
  refine CallOk.of_RWE (Y:=fun _ _ _ _=>False) xlok Tryz.func56 (c:=cd PP 56 []) (by kernel_rfl) ?_
  rw[v0b]
  refine RW.seq (RW.of_wpN xlo xlok xlm xlc v1r ((v1e _ _ _ _ _ _ i f u _).mpr ?_))
  refine RW.mask' [1,2,3,5,9,10,11] (env':=[X,I i,I f,I u,X,.ptr 0 0,X,X,X,.ptr 1 0,.ptr 2 0,.ptr 3 0]++replicate 38 X) rfl ?_
  refine RW.seq (RW.of_wpN xlo xlok xlm xlc v1q ((v1d _ _ _ _ _ _ i f u _).mpr ?_))
  rw[x11,x12,z1m,y5w,y5v]
  refine ⟨hp,z0h hb ?_⟩
  refine RW.mask' [2,3,9,10,11,12,13] (env':=[X,X,I f,I u,X,X,X,X,X,.ptr 1 0,.ptr 2 0,.ptr 3 0,.raw .nilPtr,I (if (z0f ms ds i 0).2≠0 then (z0f ms ds i 0).2 else 1)]++replicate 36 X) rfl ?_
  refine RW.seq (RW.of_wpN xlo xlok xlm xlc v1p ((v3e _ _ f u _ _ _).mpr (z0h ?_ hr)))
  by_cases h:(z0f ms ds i 0).2≠0
  ·rw[if_pos h];simpa using h
  ·rw[if_neg h];rfl
 by_cases h1:(z0f ms ds i 0).2≠0
 ·have e:ckV ms ds i f u xs=(false,(z0f ms ds i 0).2):=by unfold ckV;rw[if_pos h1]
  rw[e]
  refine start _ (by simp[h1]) ?_
  rw[if_pos h1]
  exact ⟨.inr rfl,_,_,rfl,rfl,rfl⟩
 have h1':(z0f ms ds i 0).2=0:=by simpa using h1
 by_cases h2:w7t f u=false
 ·have e:ckV ms ds i f u xs=(false,1):=by unfold ckV;rw[if_neg h1,if_pos h2]
  rw[e]
  refine start _ (by simp[h2]) ?_
  rw[if_neg h1]
  exact ⟨.inr rfl,_,_,rfl,rfl,rfl⟩
 clear start
 have h2':w7t f u=true:=by simpa using h2
 have hr:=h2'
 unfold w7t at hr
 simp only[Bool.and_eq_true,decide_eq_true_eq]at hr
 obtain ⟨⟨hf,hfu⟩,hu⟩:=hr
 obtain ⟨c1,c2,c3⟩:=y1r h1'
 obtain ⟨-,-,z1,z2⟩:=y6s h1'
 have hP:P56 ms ds xs (z0f ms ds i 0).1 [] ⟨w7y ms ds xs (z0f ms ds i 0).1,some (.cells [I 0] 3),[],[]⟩:=⟨rfl,rfl,rfl,by simp,by simp⟩
 obtain ⟨j,c',es',hM,hc,hs⟩:=w9g c1.dok c1.ml c1.dl z1 z2 hf hu (v1n ms ds xs hxs (z0f ms ds i 0).1 (z0f ms ds i 0).1 f u) (es:=[]) (W:=[12]) rfl (MapOk.nil _ _) hP
 have start:∀ r,w0u (y3h 0 (w0t XL.cx 0 none (fun _ _ _ _=>False) (cd PP 56 [1,1,1,1,1]) (w0v XL.cx Tryz.f56 r))) w8r (stT 10 { c' with J:=[] } (mV ms ds (z0f ms ds i 0).1.id (z0f ms ds i 0).1.zo) f u es' []) 1 j→CallOk XL.cx 56 [.agg [.vs (z0a z0d ms) ms.length .none,.vs (z0a z0b ds) ds.length .none],I i,I f,I u,.vs (z0a x9p xs) xs.length .none] St.nil (.ret r) St.nil:=fun r hr=>by
  refine CallOk.of_RWE (Y:=fun _ _ _ _=>False) xlok Tryz.func56 (c:=cd PP 56 []) (by kernel_rfl) ?_
  rw[v0b]
  refine RW.seq (RW.of_wpN xlo xlok xlm xlc v1r ((v1e _ _ _ _ _ _ i f u _).mpr ?_))
  refine RW.mask' [1,2,3,5,9,10,11] (env':=[X,I i,I f,I u,X,.ptr 0 0,X,X,X,.ptr 1 0,.ptr 2 0,.ptr 3 0]++replicate 38 X) rfl ?_
  refine RW.seq (RW.of_wpN xlo xlok xlm xlc v1q ((v1d _ _ _ _ _ _ i f u _).mpr ?_))
  rw[x11,x12,z1m,y5w,y5v]
  refine ⟨hp,z02 (by rw[h1',h2'];rfl) ?_⟩
  refine RW.mask' [2,3,9,10,11,12,13] (env':=[X,X,I f,I u,X,X,X,X,X,.ptr 1 0,.ptr 2 0,.ptr 3 0,.ptr 11 0,I 0]++replicate 36 X) rfl ?_
  refine RW.seq (RW.of_wpN xlo xlok xlm xlc v1p ((v3d _ _ _ _ _ _ _ _ _ _ _ _ f u _).mpr ?_))
  refine RW.mask' [2,3,9,10,11,12] (env':=[X,X,I f,I u,X,X,X,X,X,.ptr 1 0,.ptr 2 0,.ptr 3 0,.ptr 11 0]++replicate 37 X) rfl ?_
  refine RW.seq (RW.of_wpN xlo xlok xlm xlc v3v ((v3c _ _ _ _ _ _ _ _ _ _ _ _ f u _).mpr ?_))
  refine RW.mask' [2,3,9,10,11,12,14] (env':=[X,X,I f,I u,X,X,X,X,X,.ptr 1 0,.ptr 2 0,.ptr 3 0,.ptr 11 0,X,.ptr 12 0]++replicate 35 X) rfl ?_
  refine RW.seq (RW.seq (RW.of_wpN xlo xlok xlm xlc v3u ((v3b _ _ _ _ _ _ _ _ _ _ _ _ _ f u _).mpr ⟨trivial,?_⟩)))
  show RW _ _ _ _ (cd PP 56 [1,1,1,1,0,1]) _ _ _ _
  rw[v2t]
  refine RW.mask' [9,10,11,14,30] (env':=w8r) rfl (RW.block ?_)
  exact RW.rangeC (sf:=noSelf) xlok (y61 _) v3o v3n rfl hs (by simp) hr
 have e:ckV ms ds i f u xs=(decide (w7s ds (z0f ms ds i 0).1 f u=xs),0):=by unfold ckV;rw[if_neg h1,if_neg h2]
 rw[e]
 refine start _ ?_
 clear start hs
 rcases hc with ⟨rfl,hj,hpre,hd,hlen,hpf⟩ | ⟨rfl,L1,x,L2,hsp,hpre,hd,hne⟩
 ·obtain ⟨pre,d,J,T⟩:=c'
  obtain rfl:pre=_:=hpre
  obtain rfl:d=_:=hd
  have hpf:w7s ds (z0f ms ds i 0).1 f u=xs.take (w7s ds (z0f ms ds i 0).1 f u).length:=hpf
  have hlen:(w7s ds (z0f ms ds i 0).1 f u).length≤xs.length:=hlen
  show RW _ _ _ _ (cd PP 56 [1,1,1,1,1]) _ _ _ _
  refine RW.mask' [9,10,11,14] (env':=[X,X,X,X,X,X,X,X,X,.ptr 1 0,.ptr 2 0,.ptr 3 0,X,X,.ptr 12 0]++replicate 35 X) rfl ?_
  refine RW.of_wpN xlo xlok xlm xlc v3t ((v2y _ _ _ _ _ _ _ _ _ _ _ _ _ _ (w7s ds (z0f ms ds i 0).1 f u).length T _).mpr ?_)
  have eb:(((w7s ds (z0f ms ds i 0).1 f u).length:Int) == (xs.length:Int))=decide (w7s ds (z0f ms ds i 0).1 f u=xs):=by
   rw[Bool.eq_iff_iff,beq_iff_eq,decide_eq_true_eq]
   refine ⟨fun q=>?_,fun q=>by rw[q]⟩
   rw[hpf,List.take_of_length_le (by omega)]
  refine ⟨.inr rfl,.tup [Bo (((w7s ds (z0f ms ds i 0).1 f u).length:Int) == (xs.length:Int)),I 0],.tup [Bo (((w7s ds (z0f ms ds i 0).1 f u).length:Int) == (xs.length:Int)),I 0],rfl,rfl,?_⟩
  rw[← eb]
  rfl
 ·have hb:decide (w7s ds (z0f ms ds i 0).1 f u=xs)=false:=df fun q=>hne L2 ((show w7s ds (z0f ms ds i 0).1 f u=L1++x::L2 from hsp).symm.trans q)
  obtain ⟨pre,d,J,T⟩:=c'
  obtain rfl:pre=_:=hpre
  obtain rfl:d=_:=hd
  rw[hb]
  exact ⟨.inr rfl,_,_,rfl,rfl,rfl⟩
end
theorem v4g:Ct qB.c0 56 R56:=⟨⟨_,_,Tryz.func56,rfl⟩,fun args D r hR hD=>by
 unfold R56 at hR
 split at hR<;>cases hR
 rename_i a n c k i f u l p
 obtain ⟨⟨ms,ds,rfl,rfl,rfl,rfl,hm,hk⟩,xs,rfl,rfl,hxs⟩:=hD
 refine ⟨by simp[noHL,noH,eM.noHL',eD.noHL',eT.noHL'],?_⟩
 rw[show z0e 0 [agg [vs (z0a z0d ms) ms.length .none,vs (z0a z0b ds) ds.length .none],I i,I f,I u,vs (z0a x9p xs) xs.length .none]=[agg [vs (z0a z0d ms) ms.length .none,vs (z0a z0b ds) ds.length .none],I i,I f,I u,vs (z0a x9p xs) xs.length .none] by simp[z0e,scrub,eM.scL,eD.scL,eT.scL,Tok.scrub],z6p,z1m,w8k]
 exact v2r hm hk hxs⟩
end Go.Proofs
namespace Go.Ev
open Go.Proofs
def w7w (ds:List Dcr)(m:Mst)(os:List Trn)(t:Int):List Trn:=match os.getLast? with
 | some y=>if SV ds m t≠⟨y.fl,y.ho⟩ then os++[trn ds m t] else os
 | none=>os
theorem w75 {ds:List Dcr}{m:Mst}{os:List Trn}{y:Trn}{t:Int}:w7w ds m (os++[y]) t=if SV ds m t≠⟨y.fl,y.ho⟩ then os++[y]++[trn ds m t] else os++[y]:=by
 unfold w7w
 rw[List.getLast?_concat]
theorem w9e (ds:List Dcr)(m:Mst)(os:List Trn)(t:Int):os.length≤(w7w ds m os t).length∧(w7w ds m os t).length≤os.length+1:=by
 unfold w7w
 split
 ·split
  ·simp
  ·omega
 ·omega
theorem w76 (ds:List Dcr)(m:Mst):∀ (E:List Int) (os:List Trn),os.length≤(E.foldl (w7w ds m) os).length∧(E.foldl (w7w ds m) os).length≤os.length+E.length
 | [],os=>by simp
 | t::E,os=>by
  have h1:=w9e ds m os t
  have h2:=w76 ds m E (w7w ds m os t)
  simp only[List.foldl_cons,List.length_cons]
  omega
def lnF (ds:List Dcr)(m:Mst)(f u lim:Int):Nat→Int→List Trn→Option (List Trn)
 | 0,_,os=>some os
 | k+1,d,os=>if lim < ((w3b ds m d (f+1) (u-1)).foldl (w7w ds m) os).length then none else lnF ds m f u lim k (d+1) ((w3b ds m d (f+1) (u-1)).foldl (w7w ds m) os)
def lnA (ds:List Dcr)(m:Mst)(f u:Int):Nat→Int→List Trn→List Trn
 | 0,_,os=>os
 | k+1,d,os=>lnA ds m f u k (d+1) ((w3b ds m d (f+1) (u-1)).foldl (w7w ds m) os)
theorem w81 (ds:List Dcr)(m:Mst)(f u:Int):∀ (k:Nat) (d:Int) (os:List Trn),os.length≤(lnA ds m f u k d os).length
 | 0,d,os=>Nat.le_refl _
 | k+1,d,os=>Nat.le_trans (w76 ds m _ os).1 (w81 ds m f u k (d+1) _)
theorem w9l (ds:List Dcr)(m:Mst)(f u lim:Int):∀ (k:Nat) (d:Int) (os:List Trn),0 < k→lnF ds m f u lim k d os=if lim < (lnA ds m f u k d os).length then none else some (lnA ds m f u k d os)
 | k+1,d,os,_=>by
  unfold lnF lnA
  by_cases h:lim < (((w3b ds m d (f+1) (u-1)).foldl (w7w ds m) os).length:Int)
  ·rw[if_pos h,if_pos]
   have:=w81 ds m f u k (d+1) ((w3b ds m d (f+1) (u-1)).foldl (w7w ds m) os)
   omega
  ·rw[if_neg h]
   cases k with
   | zero=>exact (if_neg h).symm
   | succ k=>exact w9l ds m f u lim (k+1) (d+1) _ (by omega)
def tB (ds:List Dcr)(m:Mst)(f p:Int):List Trn:=trn ds m f::(chg (SV ds m) (p-f-1).toNat (f+1)).map (fun q=>trn ds m q.1)
theorem w9t {ds:List Dcr}{m:Mst}{f u:Int}(h:f < u):tB ds m f u=w7s ds m f u:=by unfold w7s tB;rw[if_pos h]
theorem w80 (ds:List Dcr)(m:Mst){f p:Int}(h:f < p):∃ os y,tB ds m f p=os++[y]∧(⟨y.fl,y.ho⟩:Sho)=SV ds m (p-1):=by
 have hl:=w8w (f:=SV ds m) (p-f-1).toNat (f+1)
 rw[show f+1-1+(((p-f-1).toNat:Nat):Int)=p-1 by omega,show f+1-1=f by omega]at hl
 unfold tB
 rcases List.eq_nil_or_concat (chg (SV ds m) (p-f-1).toNat (f+1)) with h0 | ⟨l,z,h0⟩
 ·rw[h0]at hl ⊢
  exact ⟨[],trn ds m f,rfl,hl⟩
 ·have hz:z∈chg (SV ds m) (p-f-1).toNat (f+1):=by rw[h0];simp
  have h1:=(w82 hz).2.2.1
  rw[h0]at hl ⊢
  have hl:z.2=SV ds m (p-1):=by
   unfold w8q at hl
   rw[List.concat_eq_append,List.getLast?_concat]at hl
   exact hl
  refine ⟨trn ds m f::l.map (fun q=>trn ds m q.1),trn ds m z.1,by simp,?_⟩
  rw[← hl,h1]
  rfl
theorem w8z (ds:List Dcr)(m:Mst){f p q:Int}(h:f < p)(hpq:p≤q)(hs:∀ w,p≤w→w < q→SV ds m w=SV ds m (w-1)):tB ds m f q=tB ds m f p:=by
 unfold tB
 have e:(q-f-1).toNat=(p-f-1).toNat+(q-p).toNat:=by omega
 rw[e,w8n,w83 (k:=(q-p).toNat) (s:=f+1+(((p-f-1).toNat:Nat):Int)) fun w w1 w2=>hs w (by omega) (by omega),List.append_nil]
theorem v0n (ds:List Dcr)(m:Mst){f p:Int}(h:f < p):tB ds m f (p+1)=w7w ds m (tB ds m f p) p:=by
 obtain ⟨os,y,h1,h2⟩:=w80 ds m h
 rw[h1,w75,h2,← h1]
 unfold tB
 have e:(p+1-f-1).toNat=(p-f-1).toNat+1:=by omega
 rw[e,w8n]
 have e2:f+1+(((p-f-1).toNat:Nat):Int)=p:=by omega
 rw[e2]
 simp only[chg]
 by_cases hc:SV ds m p=SV ds m (p-1)
 ·rw[if_pos hc,if_neg (fun q=>q hc)]
  simp
 ·rw[if_neg hc,if_pos hc]
  simp
theorem w9u (ds:List Dcr)(m:Mst){f p:Int}(h:f < p):w7w ds m (tB ds m f p) (p-1)=tB ds m f p:=by
 obtain ⟨os,y,h1,h2⟩:=w80 ds m h
 rw[h1,w75,if_neg]
 intro q
 exact q h2.symm
theorem w70 (ds:List Dcr)(m:Mst){f:Int}:∀ (E:List Int) (p q:Int),f < p→E.Pairwise (fun a b:Int=>a < b)→(∀ t∈E,p-1≤t∧t < q)→p≤q→(∀ w,p≤w→w < q→w∉E→SV ds m w=SV ds m (w-1))→E.foldl (w7w ds m) (tB ds m f p)=tB ds m f q
 | [],p,q,hp,_,_,hpq,hs=>(w8z ds m hp hpq fun w w1 w2=>hs w w1 w2 (by simp)).symm
 | t::E,p,q,hp,hE,hr,hpq,hs=>by
  obtain ⟨h1,h2⟩:=List.pairwise_cons.1 hE
  obtain ⟨r1,r2⟩:=hr t (by simp)
  rw[List.foldl_cons]
  by_cases ht:t=p-1
  ·subst ht
   rw[w9u ds m hp]
   refine w70 ds m E p q hp h2 (fun x hx=>?_) hpq fun w w1 w2 hw=>hs w w1 w2 (by simp only[List.mem_cons,not_or];exact ⟨by omega,hw⟩)
   have:=h1 x hx
   have:=hr x (by simp[hx])
   omega
  ·have e:tB ds m f t=tB ds m f p:=w8z ds m hp (by omega) fun w w1 w2=>hs w w1 (by omega) (by
    simp only[List.mem_cons,not_or]
    refine ⟨by omega,fun hx=>?_⟩
    have:=h1 w hx
    omega)
   rw[← e,← v0n ds m (by omega)]
   refine w70 ds m E (t+1) q (by omega) h2 (fun x hx=>?_) (by omega) fun w w1 w2 hw=>hs w (by omega) w2 (by simp only[List.mem_cons,not_or];exact ⟨by omega,hw⟩)
   have:=h1 x hx
   have:=hr x (by simp[hx])
   omega
theorem v1a {ds:List Dcr}{m:Mst}{w:Int}{lo hi:Int}(h1:lo≤w)(h2:w≤hi)(hn:w∉w3b ds m ((w+m.zo) / 1440) lo hi):SV ds m w=SV ds m (w-1):=by
 have hx:=mt w3n.2 hn
 unfold SV
 rw[show w-1+m.zo=w+m.zo-1 by omega]
 refine w42 (w48 m (fun q=>hx ⟨h1,h2,.inl q⟩) fun x hxd=>⟨fun q=>hx ⟨h1,h2,.inr ⟨x,hxd,.inl q⟩⟩,fun q=>hx ⟨h1,h2,.inr ⟨x,hxd,.inr q⟩⟩⟩)
theorem w9o {ds:List Dcr}(hd:w3z ds){m:Mst}{d lo hi t:Int}(h:t∈w3b ds m d lo hi):lo≤t∧t≤hi∧1440*d≤t+m.zo∧t+m.zo≤1440*d+1440:=by
 obtain ⟨h1,h2,h3⟩:=w3n.1 h
 refine ⟨h1,h2,?_⟩
 rcases h3 with h3 | ⟨x,hx,h3⟩
 ·omega
 ·have:=hd x hx
  omega
theorem w8l {ds:List Dcr}(hd:w3z ds)(m:Mst){f u:Int}(hfu:f < u):∀ (k:Nat) (d p:Int),f < p→p≤u→(p=f+1∧d=(f+m.zo) / 1440∨p+m.zo=1440*d∨p+m.zo=1440*d+1)→(u-1+m.zo) / 1440=d+(k:Int)-1→lnA ds m f u k d (tB ds m f p)=tB ds m f u
 | 0,d,p,h1,h2,h3,h4=>by
  have:p=u:=by omega
  rw[this]
  rfl
 | k+1,d,p,h1,h2,h3,h4=>by
  have hs:∀ q,q≤u→q+m.zo≤1440*d+1440→∀ w,p≤w→w < q→w∉w3b ds m d (f+1) (u-1)→SV ds m w=SV ds m (w-1):=fun q q1 q2 w w1 w2 hw=>by
   have e:(w+m.zo) / 1440=d:=by omega
   refine v1a (lo:=f+1) (hi:=u-1) (by omega) (by omega) ?_
   rw[e]
   exact hw
  have hr:∀ t∈w3b ds m d (f+1) (u-1),p-1≤t∧t≤u-1∧t+m.zo≤1440*d+1440:=fun t ht=>by
   have:=w9o hd ht
   omega
  have hlt:(w3b ds m d (f+1) (u-1)).Pairwise (fun a b:Int=>a < b):=w4n _ _ _ _ _
  unfold lnA
  by_cases hk:k=0
  ·subst hk
   rw[w70 ds m _ p u h1 hlt (fun t ht=>by have:=hr t ht;omega) h2 (hs u (by omega) (by omega))]
   rfl
  ·by_cases hb:1440*d+1440-m.zo∈w3b ds m d (f+1) (u-1)
   ·rw[w70 ds m _ p (1440*d+1440-m.zo+1) h1 hlt (fun t ht=>by have:=hr t ht;omega) (by omega) fun w w1 w2 hw=>hs (1440*d+1440-m.zo) (by omega) (by omega) w w1 (by
     have:w≠1440*d+1440-m.zo:=fun q=>hw (q ▸ hb)
     omega) hw]
    exact w8l hd m hfu k (d+1) _ (by omega) (by omega) (by omega) (by omega)
   ·rw[w70 ds m _ p (1440*d+1440-m.zo) h1 hlt (fun t ht=>by
     have:=hr t ht
     have:t≠1440*d+1440-m.zo:=fun q=>hb (q ▸ ht)
     omega) (by omega) (hs _ (by omega) (by omega))]
    exact w8l hd m hfu k (d+1) _ (by omega) (by omega) (by omega) (by omega)
def w7v (ds:List Dcr)(m:Mst)(f u lim:Int):List Trn×Bool:=if lim < ((w7s ds m f u).length:Int) then ([],false) else (w7s ds m f u,true)
theorem v0q {ds:List Dcr}(hd:w3z ds)(m:Mst){f u lim:Int}(hfu:f < u):lnF ds m f u lim ((u-1+m.zo) / 1440+1-(f+m.zo) / 1440).toNat ((f+m.zo) / 1440) [trn ds m f]=if lim < ((w7s ds m f u).length:Int) then none else some (w7s ds m f u):=by
 have h1:tB ds m f (f+1)=[trn ds m f]:=by
  unfold tB
  rw[show (f+1-f-1).toNat=0 by omega]
  rfl
 rw[w9l _ _ _ _ _ _ _ _ (by omega),← h1,w8l hd m hfu _ _ _ (by omega) (by omega) (.inl ⟨rfl,rfl⟩) (by omega),w9t hfu]
end Go.Ev
--BASE BR3
namespace Go.Proofs
open Go Go.Ev
def R124:Spc:=fun args=>match args with
 | [.agg [.vs a n .none,.vs c k .none],.agg [.int .i64 id,.int .i64 zo],.int .i64 f,.int .i64 u,.int .i64 m]=>some ((∃ ms ds,a=z0a z0d ms∧n=ms.length∧c=z0a z0b ds∧k=ds.length∧ms.length≤10000000∧ds.length≤100∧∀ x∈ds,DecOk x)∧-720≤zo∧zo≤840∧0≤f∧f < u∧u≤144001440,.ret (.tup [.vs (z0a x9p (w7v (z0j c) ⟨id,zo⟩ f u m).1) (w7v (z0j c) ⟨id,zo⟩ f u m).1.length .none,Bo (w7v (z0j c) ⟨id,zo⟩ f u m).2]))
 | _=>none
def v0d:List (Nat×List Nat):=[(5,[2,3,4,5,6,12,15,17]),(6,[2,3,4,5,6,12,15,17]),(9,[2,3,4,5,6,12,15,17,18,19]),(14,[2,3,4,5,6,12,15,17]),(16,[12])]
def X124:WCx:=BR3.wcx [(81,R81),(84,R84)] v0d [] [] [(5,2),(9,2)]
theorem v124 (a c:List AV)(n k:Nat)(id zo f u m:Int)(Q:CR→Prop):wpF X124 124 [.agg [.vs a n .none,.vs c k .none],.agg [I id,I zo],I f,I u,I m] Q =
 (((∃ ms,∃ ds,a=z0a z0d ms∧n=ms.length∧c=z0a z0b ds∧k=ds.length∧ms.length≤10000000∧ds.length≤10000000)∧(0:Int)≤f∧f≤144001439∧(-720:Int)≤zo∧zo≤840)∧((0:Int)≤f∧f≤1000000000∧(-1440:Int)≤zo∧zo≤1440)∧((0:Int)≤IntKind.i64.wrap (u-1)∧IntKind.i64.wrap (u-1)≤1000000000∧(-1440:Int)≤zo∧zo≤1440)∧cIf ([some (cells [vs a n .none,vs c k .none] 25),some (cells [I id,I zo] 58)].all (okBlk 2)) (z0l X124 (cd X124.P 124 [1,1,1,1,0,1,0,0]) ([X,X,I f,I u,I m,ptr 0 0,ptr 1 0,X,X,X,X,X,vs [I f,I (z0c (z0a z0b) (fun ds=>(z96 ds (Mst.mk id zo) f).fl) 0 c),Bo (z0c (z0a z0b) (fun ds=>(z96 ds (Mst.mk id zo) f).ho) false c)] 1 (Tok.own 0),X,X,I ((IntKind.i64.wrap (u-1)+zo) / 1440),X,I ((f+zo) / 1440)]++replicate 75 X) (St.mk [some (cells [vs a n .none,vs c k .none] 25),some (cells [I id,I zo] 58)] [(1,3,77)] []) (z0g 0 (z0k X124 (cd X124.P 124 [1,1,1,1,1]) (z0q X124 124 Q)))) False):=by kernel_rfl
theorem v0a (a c L:List AV)(n k p j:Nat)(id zo f u m la d:Int)(T:List (Nat×(Nat×Nat)))(Q:CR→Prop):wpC X124 (cd PP 124 [1,1,1,1,0,1,0,0]) ([X,X,I f,I u,I m,.ptr 0 0,.ptr 1 0,X,X,X,X,X,.vs L p (.own j),X,X,I la,X,I d]++replicate 75 X) ⟨[some (.cells [.vs a n .none,.vs c k .none] 25),some (.cells [I id,I zo] 58)],T,[]⟩ (z1i X124 (cd PP 124 [1,1,1,1,0,1,0,0]) (z0g 0 (z0k X124 (cd PP 124 [1,1,1,1,1]) (z0q X124 124 Q)))) =
 (cIf (decide (d≤la)) (((∃ ms,∃ ds,a=z0a z0d ms∧n=ms.length∧c=z0a z0b ds∧k=ds.length∧ds.length≤10000∧w3z ds)∧(-1000000:Int)≤d∧d≤1000000∧(-10000:Int)≤zo∧zo≤10000)∧cIf (noHL 2 ([X,X,I f,I u,I m,ptr 0 0,ptr 1 0,X,X,X,X,X,vs L p (Tok.own j),X,X,I la,X,I d,vs (z0a z0s (w3b (z0j c) (Mst.mk id zo) d (IntKind.i64.wrap (f+1)) (IntKind.i64.wrap (u-1)))) (w3b (z0j c) (Mst.mk id zo) d (IntKind.i64.wrap (f+1)) (IntKind.i64.wrap (u-1))).length .none,I 0]++replicate 73 X)) (cIf ([some (cells [vs a n .none,vs c k .none] 25),some (cells [I id,I zo] 58)].all (okBlk 2)) (z0l X124 (cd PP 124 [1,1,1,1,0,1,0,0,1,0,0,1,0,1,0,0]) ([X,X,I f,I u,I m,ptr 0 0,ptr 1 0,X,X,X,X,X,vs L p (Tok.own j),X,X,I la,X,I d,vs (z0a z0s (w3b (z0j c) (Mst.mk id zo) d (IntKind.i64.wrap (f+1)) (IntKind.i64.wrap (u-1)))) (w3b (z0j c) (Mst.mk id zo) d (IntKind.i64.wrap (f+1)) (IntKind.i64.wrap (u-1))).length .none,I 0]++replicate 73 X) (St.mk [some (cells [vs a n .none,vs c k .none] 25),some (cells [I id,I zo] 58)] T []) (z0g 2 (z0k X124 (cd PP 124 [1,1,1,1,0,1,0,0,1,0,0,1,1]) (z0g 1 (z0k X124 (cd PP 124 [1,1,1,1,0,1,0,0,1,1]) (z1i X124 (cd PP 124 [1,1,1,1,0,1,0,0]) (z0g 0 (z0k X124 (cd PP 124 [1,1,1,1,1]) (z0q X124 124 Q))))))))) False) False) (z0q X124 124 Q EX.ret [X,X,X,X,X,X,X,X,X,X,vs L p (Tok.own j),Bo true,vs L p (Tok.own j),X,X,X,X,X,X,X,X,X,X,X,X,X,X,X,X,X,X,X,X,X,X,X,X,X,X,X,X,X,X,X,X,X,X,X,X,X,X,X,X,X,X,X,X,X,X,X,X,X,X,X,X,X,X,X,X,X,X,X,X,X,X,X,X,X,X,X,X,X,X,X,X,X,X,X,X,X,X,X,vs L p (Tok.own j)] (St.mk [some (cells [vs a n .none,vs c k .none] 25),some (cells [I id,I zo] 58)] T []))):=by kernel_rfl
theorem w9d (a c L K:List AV)(n k p j q e:Nat)(id zo f u m la d:Int)(T:List (Nat×(Nat×Nat)))(Q:CR→Prop):wpC X124 (cd PP 124 [1,1,1,1,0,1,0,0,1,0,0,1,0,1,0,0]) ([X,X,I f,I u,I m,.ptr 0 0,.ptr 1 0,X,X,X,X,X,.vs L p (.own j),X,X,I la,X,I d,.vs K q .none,I e]++replicate 73 X) ⟨[some (.cells [.vs a n .none,.vs c k .none] 25),some (.cells [I id,I zo] 58)],T,[]⟩ (z1i X124 (cd PP 124 [1,1,1,1,0,1,0,0,1,0,0,1,0,1,0,0]) (z0g 2 (z0k X124 (cd PP 124 [1,1,1,1,0,1,0,0,1,0,0,1,1]) (z0g 1 (z0k X124 (cd PP 124 [1,1,1,1,0,1,0,0,1,1]) (z1i X124 (cd PP 124 [1,1,1,1,0,1,0,0]) (z0g 0 (z0k X124 (cd PP 124 [1,1,1,1,1]) (z0q X124 124 Q))))))))) =
 (cIf (decide ((↑e:Int) < (↑q:Int))) (cIf (decide (e < q)) (cIf (decide (q*1=K.length)) (cIf (decide (0 < (drop (e*1) K).length)) (cIf (z0t (ofVal (Value.int IntKind.i64 0)) ((drop (e*1) K).getD 0 X)) (cIf (noHL [some (cells [vs a n .none,vs c k .none] 25),some (cells [I id,I zo] 58)].length ([]++[agg [vs a n .none,vs c k .none],agg [I id,I zo],I (cI (drop (e*1) K) 0)]++[])) (((∃ ms,∃ ds,a=z0a z0d ms∧n=ms.length∧c=z0a z0b ds∧k=ds.length∧ms.length≤10000000∧ds.length≤10000000)∧(0:Int)≤cI (drop (e*1) K) 0∧cI (drop (e*1) K) 0≤144001439∧(-720:Int)≤zo∧zo≤840)∧St.mk [some (cells [vs a n .none,vs c k .none] 25),some (cells [I id,I zo] 58)] T []=St.mk [some (cells [vs a n .none,vs c k .none] 25),some (cells [I id,I zo] 58)] T []∧cIf (decide ((0:Int)≤IntKind.i64.wrap ((↑p:Int)-1))) (cIf (decide ((IntKind.i64.wrap ((↑p:Int)-1)).toNat < p)) (cIf (decide (p*3=L.length)) (cIf (decide (2≤(drop 1 (drop ((IntKind.i64.wrap ((↑p:Int)-1)).toNat*3) L)).length)) (cIf (like [I 0,Bo false] (el (drop 1 (drop ((IntKind.i64.wrap ((↑p:Int)-1)).toNat*3) L)) 0 2)) (cIf (!(z0c (z0a z0b) (fun ds=>(z96 ds (Mst.mk id zo) (cI (drop (e*1) K) 0)).fl) 0 c == cI (el (drop 1 (drop ((IntKind.i64.wrap ((↑p:Int)-1)).toNat*3) L)) 0 2) 0 && (z0c (z0a z0b) (fun ds=>(z96 ds (Mst.mk id zo) (cI (drop (e*1) K) 0)).ho) false c == cB (el (drop 1 (drop ((IntKind.i64.wrap ((↑p:Int)-1)).toNat*3) L)) 0 2) 1 && true))) (cIf (decide (e < q)) (cIf (decide (q*1=K.length)) (cIf (decide (0 < (drop (e*1) K).length)) (cIf (z0t (ofVal (Value.int IntKind.i64 0)) ((drop (e*1) K).getD 0 X)) (cIf (decide ((p+1)*24≤140737488355328)) (cIf (decide (p+1≤140737488355328)) (cIf (decide (L.length=p*3)) (cIf (decide (T[j]?=some (p,3,77))) (cIf (noHL 2 ([X,X,I f,I u,I m,ptr 0 0,ptr 1 0,X,X,X,X,X,vs (L++[I (cI (drop (e*1) K) 0),AV.int IntKind.i64 (z0c (z0a z0b) (fun ds=>(z96 ds (Mst.mk id zo) (cI (drop (e*1) K) 0)).fl) 0 c),Bo (z0c (z0a z0b) (fun ds=>(z96 ds (Mst.mk id zo) (cI (drop (e*1) K) 0)).ho) false c)]) (p+1) (Tok.own j),X,X,I la,X,I d,vs K q .none,I (IntKind.i64.wrap ((↑e:Int)+1))]++replicate 73 X)) (cIf ([some (cells [vs a n .none,vs c k .none] 25),some (cells [I id,I zo] 58)].all (okBlk 2)) (z0l X124 (cd PP 124 [1,1,1,1,0,1,0,0,1,0,0,1,0,1,0,0]) ([X,X,I f,I u,I m,ptr 0 0,ptr 1 0,X,X,X,X,X,vs (L++[I (cI (drop (e*1) K) 0),AV.int IntKind.i64 (z0c (z0a z0b) (fun ds=>(z96 ds (Mst.mk id zo) (cI (drop (e*1) K) 0)).fl) 0 c),Bo (z0c (z0a z0b) (fun ds=>(z96 ds (Mst.mk id zo) (cI (drop (e*1) K) 0)).ho) false c)]) (p+1) (Tok.own j),X,X,I la,X,I d,vs K q .none,I (IntKind.i64.wrap ((↑e:Int)+1))]++replicate 73 X) (St.mk [some (cells [vs a n .none,vs c k .none] 25),some (cells [I id,I zo] 58)] (T.set j (p+1,3,77)) []) (z0g 2 (z0k X124 (cd PP 124 [1,1,1,1,0,1,0,0,1,0,0,1,1]) (z0g 1 (z0k X124 (cd PP 124 [1,1,1,1,0,1,0,0,1,1]) (z1i X124 (cd PP 124 [1,1,1,1,0,1,0,0]) (z0g 0 (z0k X124 (cd PP 124 [1,1,1,1,1]) (z0q X124 124 Q))))))))) False) False) False) False) False) False) False) False) False) False) (cIf (noHL 2 ([X,X,I f,I u,I m,ptr 0 0,ptr 1 0,X,X,X,X,X,vs L p (Tok.own j),X,X,I la,X,I d,vs K q .none,I (IntKind.i64.wrap ((↑e:Int)+1))]++replicate 73 X)) (cIf ([some (cells [vs a n .none,vs c k .none] 25),some (cells [I id,I zo] 58)].all (okBlk 2)) (z0l X124 (cd PP 124 [1,1,1,1,0,1,0,0,1,0,0,1,0,1,0,0]) ([X,X,I f,I u,I m,ptr 0 0,ptr 1 0,X,X,X,X,X,vs L p (Tok.own j),X,X,I la,X,I d,vs K q .none,I (IntKind.i64.wrap ((↑e:Int)+1))]++replicate 73 X) (St.mk [some (cells [vs a n .none,vs c k .none] 25),some (cells [I id,I zo] 58)] T []) (z0g 2 (z0k X124 (cd PP 124 [1,1,1,1,0,1,0,0,1,0,0,1,1]) (z0g 1 (z0k X124 (cd PP 124 [1,1,1,1,0,1,0,0,1,1]) (z1i X124 (cd PP 124 [1,1,1,1,0,1,0,0]) (z0g 0 (z0k X124 (cd PP 124 [1,1,1,1,1]) (z0q X124 124 Q))))))))) False) False)) False) False) False) False) False) False) False) False) False) False) (cIf (decide ((↑p:Int) > m)) (Q (ret (tup [vs [] 0 Tok.zero,Bo false]))) (cIf (noHL 2 ([X,X,I f,I u,I m,ptr 0 0,ptr 1 0,X,X,X,X,X,vs L p (Tok.own j),X,X,I la,X,I (IntKind.i64.wrap (d+1))]++replicate 75 X)) (cIf ([some (cells [vs a n .none,vs c k .none] 25),some (cells [I id,I zo] 58)].all (okBlk 2)) (z0l X124 (cd PP 124 [1,1,1,1,0,1,0,0]) ([X,X,I f,I u,I m,ptr 0 0,ptr 1 0,X,X,X,X,X,vs L p (Tok.own j),X,X,I la,X,I (IntKind.i64.wrap (d+1))]++replicate 75 X) (St.mk [some (cells [vs a n .none,vs c k .none] 25),some (cells [I id,I zo] 58)] T []) (z0g 0 (z0k X124 (cd PP 124 [1,1,1,1,1]) (z0q X124 124 Q)))) False) False))):=by kernel_rfl
end Go.Proofs
namespace Go.Ev
theorem v0o {x y:Sho}:(x.fl == y.fl && (x.ho == y.ho && true))=decide (x=y):=by
 cases x;cases y
 rw[Bool.eq_iff_iff]
 simp
theorem w91 {C:WCx}{g:FuncId}{fn:Func}{Q:CR→Prop}{env:Env}{s:St}{l:List AV}{n:Nat}{t:Tok}{b:Bool}(hfn:C.P.funcs[g]?=some fn)(hres:z0v C.pc fn env s=some (.tup [.vs l n t,.bool b]))(hn:noHL 0 l=true)(hs:z0e 0 l=l)(hq:∀ t',Q (.ret (.tup [.vs l n t',.bool b]))):z0q C g Q EX.ret env s:=by
 unfold z0q
 rw[hfn]
 simp only
 rw[hres]
 show z2b (pub C.pc s.hs 0 (.tup [.vs l n t,.bool b])) _
 have e1:pub C.pc s.hs 0 (.tup [.vs l n t,.bool b])=some (.tup [.vs l n t,.bool b]):=by simp[pub,z97,noH,hn]
 rw[e1]
 show Q _
 have e2:scrub 0 (.tup [.vs l n t,.bool b])=.tup [.vs l n (t.scrub 0),.bool b]:=by simp[scrub,z0e,hs]
 rw[e2]
 exact hq _
end Go.Ev
namespace Go.Proofs
open Go Go.Ev
attribute [local irreducible] wpF wpC cd
theorem w77:Cts BR3 [(81,R81),(84,R84)]:=((Cts.nil BR3).cons w2t).cons w2u
theorem lastT (os:List Trn)(y:Trn):drop (os.length*3) (z0a x9p (os++[y]))=[I y.at',I y.fl,Bo y.ho]:=by
 rw[y86,List.drop_append_of_le_length (by rw[eT.lenL];exact Nat.le_refl _),List.drop_of_length_le (by rw[eT.lenL];exact Nat.le_refl _)]
 rfl
section
variable {ms:List Mst}{ds:List Dcr}{id zo f u m la:Int}(hm:ms.length≤10000000)(hk:ds.length≤100)(hd:∀ x∈ds,DecOk x)(hz1:-720≤zo)(hz2:zo≤840)(hf:0≤f)(hfu:f < u)(hu:u≤144001440)
include hm hk hd hz1 hz2 hf hfu hu
theorem w8h:([some (cells [.vs (z0a z0d ms) ms.length .none,.vs (z0a z0b ds) ds.length .none] 25),some (cells [I id,I zo] 58)]:List (Option HB)).all (okBlk 2)=true:=by
 simp[okBlk,noHB,noHL,noH,eM.noHL',eD.noHL']
theorem w9y {d:Int}{E:List Int}(hE:∀ x∈E,0≤x∧x≤144001439)(hEl:E.length≤300)(hd1:-10≤d)(hd2:d≤100010){osF:List Trn}(j:Nat)(Q:CR→Prop)
  (hbig:m < (osF.length:Int)→Q (.ret (.tup [.vs [] 0 .zero,Bo false])))
  (hnext:¬ m < (osF.length:Int)→∀ T:List (Nat×(Nat×Nat)),T[j]?=some (osF.length,(3,77))→z0l X124 (cd PP 124 [1,1,1,1,0,1,0,0]) ([X,X,I f,I u,I m,.ptr 0 0,.ptr 1 0,X,X,X,X,X,.vs (z0a x9p osF) osF.length (.own j),X,X,I la,X,I (d+1)]++replicate 75 X) ⟨[some (.cells [.vs (z0a z0d ms) ms.length .none,.vs (z0a z0b ds) ds.length .none] 25),some (.cells [I id,I zo] 58)],T,[]⟩ (z0g 0 (z0k X124 (cd PP 124 [1,1,1,1,1]) (z0q X124 124 Q)))) :
  ∀ (r e:Nat) (os:List Trn) (y:Trn) (T:List (Nat×(Nat×Nat))),E.length-e=r→e≤E.length→(os++[y]).length≤1000000000+e→T[j]?=some ((os++[y]).length,(3,77))→(E.drop e).foldl (w7w ds ⟨id,zo⟩) (os++[y])=osF →
  z0l X124 (cd PP 124 [1,1,1,1,0,1,0,0,1,0,0,1,0,1,0,0]) ([X,X,I f,I u,I m,.ptr 0 0,.ptr 1 0,X,X,X,X,X,.vs (z0a x9p (os++[y])) (os++[y]).length (.own j),X,X,I la,X,I d,.vs (z0a z0s E) E.length .none,I e]++replicate 73 X) ⟨[some (.cells [.vs (z0a z0d ms) ms.length .none,.vs (z0a z0b ds) ds.length .none] 25),some (.cells [I id,I zo] 58)],T,[]⟩ (z0g 2 (z0k X124 (cd PP 124 [1,1,1,1,0,1,0,0,1,0,0,1,1]) (z0g 1 (z0k X124 (cd PP 124 [1,1,1,1,0,1,0,0,1,1]) (z1i X124 (cd PP 124 [1,1,1,1,0,1,0,0]) (z0g 0 (z0k X124 (cd PP 124 [1,1,1,1,1]) (z0q X124 124 Q)))))))):=by
 intro r
 induction r with
 | zero =>
  intro e os y T hr he hb hT hF
  have he':e=E.length:=by omega
  subst he'
  rw[List.drop_length]at hF
  have hF:os++[y]=osF:=hF
  have w1:IntKind.i64.wrap (d+1)=d+1:=z1c (by omega) (by omega)
  have hno:¬ ((E.length:Nat):Int) < (E.length:Nat):=by omega
  refine z0y br3ok w77 ((w9d _ _ _ _ _ _ _ j _ _ id zo f u m la d T Q).mpr (z02 (df hno) (z0i (fun c=>?_) (fun c=>z0h ?_ (z0h (w8h hm hk hd hz1 hz2 hf hfu hu) ?_)))))
  ·have c:=of_decide_eq_true c
   rw[hF]at c
   exact hbig c
  ·simp[z00,noHL,noH,eT.noHL',z1r]
  ·have c:=of_decide_eq_false c
   rw[w1,hF]
   rw[hF]at c hT
   exact hnext c T hT
 | succ r ih =>
  intro e os y T hr he hb hT hF
  have hlt:e < E.length:=by omega
  have e1:E.length-(e+1)=r:=by omega
  have w1:IntKind.i64.wrap ((e:Int)+1)=((e+1:Nat):Int):=z1c (by omega) (by omega)
  have hl1:(e:Int) < E.length:=by omega
  obtain ⟨t,ht,hdr⟩:=z06 hlt
  obtain ⟨t1,t2⟩:=hE t (List.mem_of_getElem? ht)
  have hlen:(os++[y]).length=os.length+1:=by simp
  have w2:IntKind.i64.wrap (((os++[y]).length:Int)-1)=((os.length:Nat):Int):=by rw[hlen,z1c (by omega) (by omega)];omega
  have hsh:z96 ds ⟨id,zo⟩ t=SV ds ⟨id,zo⟩ t:=x6q hd _ _
  rw[hdr,List.foldl_cons,w75]at hF
  refine z0y br3ok w77 ((w9d _ _ _ _ _ _ _ j _ _ id zo f u m la d T Q).mpr ?_)
  have g1:(0:Int)≤((os.length:Nat):Int):=Int.natCast_nonneg _
  have g2:os.length < (os++[y]).length:=by omega
  have g3:decide ((os++[y]).length*3=(z0a x9p (os++[y])).length)=true:=dt (by rw[eT.lenL])
  have g4:decide ((z0a x9p (os++[y])).length=(os++[y]).length*3)=true:=dt (by rw[eT.lenL])
  have hsn:(!((SV ds ⟨id,zo⟩ t).fl == y.fl && ((SV ds ⟨id,zo⟩ t).ho == y.ho && true)))=!decide (SV ds ⟨id,zo⟩ t=⟨y.fl,y.ho⟩):=by
   have:=v0o (x:=SV ds ⟨id,zo⟩ t) (y:=⟨y.fl,y.ho⟩)
   simp only at this
   rw[this]
  simp only[dt hl1,dt hlt,eNum.gl,eNum.gd hlt,eNum.g0 hlt (by decide),eNum.el ht,eNum.ld0 ht (by decide),y1s,eNum.cI0 ht (by decide),y3s,y50,z0x,w1,w2,eD.on (show 0 < 9 by decide),hsh,true_and,Int.toNat_natCast,dt g1,dt g2,g3,g4,lastT]
  refine z0h (by simp[noHL,noH,eM.noHL',eD.noHL']) ⟨⟨⟨ms,ds,rfl,rfl,rfl,rfl,hm,by omega⟩,t1,t2,hz1,hz2⟩,?_⟩
  refine z0h rfl (z0h rfl ?_)
  show cIf (!((SV ds ⟨id,zo⟩ t).fl == y.fl && ((SV ds ⟨id,zo⟩ t).ho == y.ho && true))) _ _
  rw[hsn]
  refine z0i (fun c=>?_) (fun c=>?_)
  ·have c:SV ds ⟨id,zo⟩ t≠⟨y.fl,y.ho⟩:=by simpa using c
   rw[if_pos c]at hF
   have l1:((os++[y])++[trn ds ⟨id,zo⟩ t]).length=(os++[y]).length+1:=by simp
   refine z0h (dt (by omega)) (z0h (dt (by omega)) (z0h (dt hT) (z0h ?_ (z0h (w8h hm hk hd hz1 hz2 hf hfu hu) ?_))))
   ·simp[z00,noHL,noH,eT.noHL',eNum.noHL',z1r]
   ·have:=ih (e+1) (os++[y]) (trn ds ⟨id,zo⟩ t) (T.set j ((os++[y]).length+1,3,77)) e1 hlt (by rw[l1];omega) (by rw[l1,List.getElem?_set_self (List.getElem?_eq_some_iff.1 hT).1]) hF
    rw[l1,← v1m]at this
    exact this
  ·have c:¬ SV ds ⟨id,zo⟩ t≠⟨y.fl,y.ho⟩:=by simpa using c
   rw[if_neg c]at hF
   refine z0h ?_ (z0h (w8h hm hk hd hz1 hz2 hf hfu hu) (ih (e+1) os y T e1 hlt (by omega) hT hF))
   simp[z00,noHL,noH,eT.noHL',eNum.noHL',z1r]
theorem v0p (hla:-10≤la∧la≤100005)(j:Nat)(Q:CR→Prop):∀ (r:Nat) (d:Int) (os:List Trn) (T:List (Nat×(Nat×Nat))),(la+1-d).toNat=r→-10≤d→d≤la+1→os≠[]→os.length≤10+300*(d+10).toNat→T[j]?=some (os.length,(3,77)) →
  (match lnF ds ⟨id,zo⟩ f u m r d os with | some o=>∀ t,Q (.ret (.tup [.vs (z0a x9p o) o.length t,Bo true])) | none=>Q (.ret (.tup [.vs [] 0 .zero,Bo false]))) →
  z0l X124 (cd PP 124 [1,1,1,1,0,1,0,0]) ([X,X,I f,I u,I m,.ptr 0 0,.ptr 1 0,X,X,X,X,X,.vs (z0a x9p os) os.length (.own j),X,X,I la,X,I d]++replicate 75 X) ⟨[some (.cells [.vs (z0a z0d ms) ms.length .none,.vs (z0a z0b ds) ds.length .none] 25),some (.cells [I id,I zo] 58)],T,[]⟩ (z0g 0 (z0k X124 (cd PP 124 [1,1,1,1,1]) (z0q X124 124 Q))):=by
 intro r
 induction r with
 | zero =>
  intro d os T hr hd0 hdl hne hb hT hQ
  have hno:¬ d≤la:=by omega
  refine z0y br3ok w77 ((v0a _ _ _ _ _ _ j id zo f u m la d T Q).mpr (z02 (df hno) ?_))
  exact w91 (C:=X124) (fn:=Tryz.f124) Tryz.func124 rfl (eT.noHL' 0 _) (eT.scL 0 _) hQ
 | succ r ih =>
  intro d os T hr hd0 hdl hne hb hT hQ
  have hle:d≤la:=by omega
  have w1:IntKind.i64.wrap (f+1)=f+1:=z1c (by omega) (by omega)
  have w2:IntKind.i64.wrap (u-1)=u-1:=z1c (by omega) (by omega)
  have hB:=w49 hd
  have hEl:=w4l ds ⟨id,zo⟩ d (f+1) (u-1)
  have hfl:=w76 ds ⟨id,zo⟩ (w3b ds ⟨id,zo⟩ d (f+1) (u-1)) os
  refine z0y br3ok w77 ((v0a _ _ _ _ _ _ j id zo f u m la d T Q).mpr (z0h (dt hle) ?_))
  rw[w1,w2,z1m]
  refine ⟨⟨⟨ms,ds,rfl,rfl,rfl,rfl,by omega,hB⟩,by omega,by omega,by omega,by omega⟩,z0h ?_ (z0h (w8h hm hk hd hz1 hz2 hf hfu hu) ?_)⟩
  ·simp[z00,noHL,noH,eT.noHL',eNum.noHL',z1r]
  ·obtain ⟨o1,y,rfl⟩:∃ o1 y,os=o1++[y]:=by
    rcases List.eq_nil_or_concat os with h | ⟨o1,y,h⟩
    ·exact absurd h hne
    ·exact ⟨o1,y,by rw[h,List.concat_eq_append]⟩
   unfold lnF at hQ
   refine w9y hm hk hd hz1 hz2 hf hfu hu (E:=w3b ds ⟨id,zo⟩ d (f+1) (u-1)) (fun x hx=>by have:=w3n.1 hx;omega) (by omega) (by omega) (by omega) (osF:=(w3b ds ⟨id,zo⟩ d (f+1) (u-1)).foldl (w7w ds ⟨id,zo⟩) (o1++[y])) j Q (fun hbig=>?_) (fun hn T' hT'=>?_) _ 0 o1 y T rfl (Nat.zero_le _) (by omega) hT rfl
   ·rw[if_pos hbig]at hQ
    exact hQ
   ·rw[if_neg hn]at hQ
    refine ih (d+1) _ T' (by omega) (by omega) (by omega) (fun q=>?_) (by omega) hT' hQ
    rw[q]at hfl
    simp at hfl
end
theorem v0f:Ct qB.c0 124 R124:=Ct.of_wpZ (B:=BR3) (l:=[(81,R81),(84,R84)]) (lm:=v0d) (tp:=[]) (ct:=[]) (sm:=[(5,2),(9,2)]) br3ok w77 ⟨_,_,Tryz.func124,rfl⟩ fun args D r hR hD=>by
 unfold R124 at hR
 split at hR<;>cases hR
 rename_i a n c k id zo f u m
 obtain ⟨⟨ms,ds,rfl,rfl,rfl,rfl,hm,hk,hd⟩,hz1,hz2,hf,hfu,hu⟩:=hD
 refine ⟨by simp[noHL,noH,eM.noHL',eD.noHL'],?_⟩
 rw[show z0e 0 [agg [vs (z0a z0d ms) ms.length .none,vs (z0a z0b ds) ds.length .none],agg [I id,I zo],I f,I u,I m]=[agg [vs (z0a z0d ms) ms.length .none,vs (z0a z0b ds) ds.length .none],agg [I id,I zo],I f,I u,I m] by simp[z0e,scrub,eM.scL,eD.scL,Tok.scrub],z1m]
 show wpF X124 124 _ _
 have w2:IntKind.i64.wrap (u-1)=u-1:=z1c (by omega) (by omega)
 have hsh:z96 ds ⟨id,zo⟩ f=SV ds ⟨id,zo⟩ f:=x6q hd _ _
 rw[v124,w2]
 simp only[eD.on (show 0 < 9 by decide),hsh]
 have hrun:=v0q (w49 hd) ⟨id,zo⟩ (lim:=m) hfu
 refine ⟨⟨⟨ms,ds,rfl,rfl,rfl,rfl,hm,by omega⟩,hf,by omega,hz1,hz2⟩,⟨hf,by omega,by omega,by omega⟩,⟨by omega,by omega,by omega,by omega⟩,z0h (w8h hm hk hd hz1 hz2 hf hfu hu) ?_⟩
 refine v0p hm hk hd hz1 hz2 hf hfu hu ⟨by omega,by omega⟩ 0 _ _ _ [trn ds ⟨id,zo⟩ f] [(1,3,77)] rfl (by omega) (by omega) (by simp) (by simp;omega) rfl ?_
 simp only at hrun
 rw[hrun]
 unfold w7v
 by_cases h:m < ((w7s ds ⟨id,zo⟩ f u).length:Int)
 ·rw[if_pos h,if_pos h]
  rfl
 ·rw[if_neg h,if_neg h]
  intro t
  show ret (.tup [.vs (z5d (z0a x9p (w7s ds ⟨id,zo⟩ f u))) (w7s ds ⟨id,zo⟩ f u).length .none,Bo true])=_
  rw[w8e]
end Go.Proofs
namespace Go.Proofs
open Go Go.Ev
def R80a:Spc:=fun args=>match args with
 | [.agg [.vs l n .none,.vs c k .none],.int .i64 a,.int .i64 m]=>some (∃ ms ds,l=z0a z0d ms∧n=ms.length∧c=z0a z0b ds∧k=ds.length∧ms.length≤10000000∧ds.length≤10000000,.ret (.tup [.agg [I (aA l c a m).id,I (aA l c a m).zo],I (aE l c a m)]))
 | _=>none
def R53:Spc:=fun args=>match args with
 | [.int .i64 f,.int .i64 u]=>some (True,rB (decide (f < 0) || (decide (u≤f) || (decide (u > 144001440) || decide (u-f≤7200)))))
 | _=>none
def R13:Spc:=fun args=>match args with
 | [.agg [.vs a n .none,.vs c k .none],.int .i64 i,.int .i64 f,.int .i64 u,.vs l p .none]=>some ((∃ ms ds,a=z0a z0d ms∧n=ms.length∧c=z0a z0b ds∧k=ds.length)∧∃ xs:List Trn,l=z0a x9p xs∧p=xs.length,.ret (Bo true))
 | _=>none
def v2a:List (Nat×List Nat):=[]
def X53:WCx:=qB.wcx [] v2a [] [] []
def v1z:List (Nat×List Nat):=[]
def X55:WCx:=qB.wcx [(80,R80a),(93,R87),(124,R124)] v1z [] [] []
def v1y:List (Nat×List Nat):=[]
def X57:WCx:=qB.wcx [(80,R80a),(93,R87),(124,R124),(58,R58)] v1y [] [] []
def v2b:List (Nat×List Nat):=[]
def X13:WCx:=qB.wcx [(25,w7e),(26,R26),(53,R53),(54,R54),(55,R54),(56,R56),(57,R56),(58,R58)] v2b [] [] []
theorem v53 (f u:Int)(Q:CR→Prop):wpF X53 53 [I f,I u] Q =
 (cIf (decide (f < 0)) (Q (ret (Bo true))) (cIf (decide (u≤f)) (Q (ret (Bo true))) (cIf (decide (u > 144001440)) (Q (ret (Bo true))) (Q (ret (Bo (decide (IntKind.i64.wrap (u-f)≤7200)))))))):=by kernel_rfl
theorem v55 (a c:List AV)(n k:Nat)(i f u:Int)(Q:CR→Prop):wpF X55 55 [.agg [.vs a n .none,.vs c k .none],I i,I f,I u] Q =
 ((∃ ms,∃ ds,a=z0a z0d ms∧n=ms.length∧c=z0a z0b ds∧k=ds.length∧ms.length≤10000000∧ds.length≤10000000)∧cIf (aE a c i 0 != 0) (Q (ret (tup [vs [] 0 Tok.zero,I (aE a c i 0)]))) (True∧cIf (!w7t f u) (Q (ret (tup [vs [] 0 Tok.zero,I 1]))) (((∃ ms,∃ ds,a=z0a z0d ms∧n=ms.length∧c=z0a z0b ds∧k=ds.length∧ms.length≤10000000∧ds.length≤100∧∀ (x:Dcr),x∈ds→DecOk x)∧(-720:Int)≤(aA a c i 0).zo∧(aA a c i 0).zo≤840∧(0:Int)≤f∧f < u∧u≤144001440)∧cIf (!(w7v (z0j c) (Mst.mk (aA a c i 0).id (aA a c i 0).zo) f u 100000).snd) (Q (ret (tup [vs [] 0 Tok.zero,I 2]))) (z0q X55 55 Q EX.ret [agg [vs a n .none,vs c k .none],I i,I f,I u,ptr 0 0,X,X,X,vs (z0a x9p (w7v (z0j c) (Mst.mk (aA a c i 0).id (aA a c i 0).zo) f u 100000).fst) (w7v (z0j c) (Mst.mk (aA a c i 0).id (aA a c i 0).zo) f u 100000).fst.length .none,I 0,ptr 1 0,I (aE a c i 0),Bo (w7t f u),vs (z0a x9p (w7v (z0j c) (Mst.mk (aA a c i 0).id (aA a c i 0).zo) f u 100000).fst) (w7v (z0j c) (Mst.mk (aA a c i 0).id (aA a c i 0).zo) f u 100000).fst.length .none,Bo (w7v (z0j c) (Mst.mk (aA a c i 0).id (aA a c i 0).zo) f u 100000).snd,tup [agg [I (aA a c i 0).id,I (aA a c i 0).zo],I (aE a c i 0)],agg [vs a n .none,vs c k .none],I i,tup [agg [I (aA a c i 0).id,I (aA a c i 0).zo],I (aE a c i 0)],agg [I (aA a c i 0).id,I (aA a c i 0).zo],I (aE a c i 0),I (aE a c i 0),Bo (aE a c i 0 != 0),X,I f,I u,Bo (w7t f u),Bo (w7t f u),Bo !w7t f u,tup [vs (z0a x9p (w7v (z0j c) (Mst.mk (aA a c i 0).id (aA a c i 0).zo) f u 100000).fst) (w7v (z0j c) (Mst.mk (aA a c i 0).id (aA a c i 0).zo) f u 100000).fst.length .none,Bo (w7v (z0j c) (Mst.mk (aA a c i 0).id (aA a c i 0).zo) f u 100000).snd],agg [vs a n .none,vs c k .none],agg [I (aA a c i 0).id,I (aA a c i 0).zo],I f,I u,tup [vs (z0a x9p (w7v (z0j c) (Mst.mk (aA a c i 0).id (aA a c i 0).zo) f u 100000).fst) (w7v (z0j c) (Mst.mk (aA a c i 0).id (aA a c i 0).zo) f u 100000).fst.length .none,Bo (w7v (z0j c) (Mst.mk (aA a c i 0).id (aA a c i 0).zo) f u 100000).snd],vs (z0a x9p (w7v (z0j c) (Mst.mk (aA a c i 0).id (aA a c i 0).zo) f u 100000).fst) (w7v (z0j c) (Mst.mk (aA a c i 0).id (aA a c i 0).zo) f u 100000).fst.length .none,Bo (w7v (z0j c) (Mst.mk (aA a c i 0).id (aA a c i 0).zo) f u 100000).snd,Bo (w7v (z0j c) (Mst.mk (aA a c i 0).id (aA a c i 0).zo) f u 100000).snd,Bo !(w7v (z0j c) (Mst.mk (aA a c i 0).id (aA a c i 0).zo) f u 100000).snd,vs (z0a x9p (w7v (z0j c) (Mst.mk (aA a c i 0).id (aA a c i 0).zo) f u 100000).fst) (w7v (z0j c) (Mst.mk (aA a c i 0).id (aA a c i 0).zo) f u 100000).fst.length .none] (St.mk [some (cells [vs a n .none,vs c k .none] 25),some (cells [I (aA a c i 0).id,I (aA a c i 0).zo] 58)] [] [1]))))):=by kernel_rfl
theorem v57 (a c l:List AV)(n k p:Nat)(i f u:Int)(Q:CR→Prop):wpF X57 57 [.agg [.vs a n .none,.vs c k .none],I i,I f,I u,.vs l p .none] Q =
 ((∃ ms,∃ ds,a=z0a z0d ms∧n=ms.length∧c=z0a z0b ds∧k=ds.length∧ms.length≤10000000∧ds.length≤10000000)∧cIf (aE a c i 0 != 0) (Q (ret (tup [Bo false,I (aE a c i 0)]))) (True∧cIf (!w7t f u) (Q (ret (tup [Bo false,I 1]))) (((∃ ms,∃ ds,a=z0a z0d ms∧n=ms.length∧c=z0a z0b ds∧k=ds.length∧ms.length≤10000000∧ds.length≤100∧∀ (x:Dcr),x∈ds→DecOk x)∧(-720:Int)≤(aA a c i 0).zo∧(aA a c i 0).zo≤840∧(0:Int)≤f∧f < u∧u≤144001440)∧cIf (w7v (z0j c) (Mst.mk (aA a c i 0).id (aA a c i 0).zo) f u (↑p:Int)).snd ((∃ x,∃ y,z0a x9p (w7v (z0j c) (Mst.mk (aA a c i 0).id (aA a c i 0).zo) f u (↑p:Int)).fst=z0a x9p x∧(w7v (z0j c) (Mst.mk (aA a c i 0).id (aA a c i 0).zo) f u (↑p:Int)).fst.length=x.length∧l=z0a x9p y∧p=y.length∧x.length≤10000000)∧Q (ret (tup [Bo (decide (z0a x9p (w7v (z0j c) (Mst.mk (aA a c i 0).id (aA a c i 0).zo) f u (↑p:Int)).fst=l)),I 0]))) (Q (ret (tup [Bo false,I 0])))))):=by kernel_rfl
theorem v13 (a c l:List AV)(n k p:Nat)(i f u:Int)(Q:CR→Prop):wpF X13 13 [.agg [.vs a n .none,.vs c k .none],I i,I f,I u,.vs l p .none] Q =
 ((∃ ms,∃ ds,a=z0a z0d ms∧n=ms.length∧c=z0a z0b ds∧k=ds.length)∧cIf (!(decide (n≤4) && decide (k≤8))) (True∧Q (ret (Bo true))) (True∧cIf (!(decide (f < 0) || (decide (u≤f) || (decide (u > 144001440) || decide (u-f≤7200))))) (True∧Q (ret (Bo true))) (cIf (decide ((↑p:Int) > 1000)) (True∧Q (ret (Bo true))) ((∃ ms,∃ ds,a=z0a z0d ms∧n=ms.length∧c=z0a z0b ds∧k=ds.length∧ms.length≤10000000∧ds.length≤10000000)∧(∃ ms,∃ ds,a=z0a z0d ms∧n=ms.length∧c=z0a z0b ds∧k=ds.length∧ms.length≤10000000∧ds.length≤10000000)∧((∃ ms,∃ ds,a=z0a z0d ms∧n=ms.length∧c=z0a z0b ds∧k=ds.length∧ms.length≤10000000∧ds.length≤10000000)∧∃ xs,l=z0a x9p xs∧p=xs.length∧xs.length≤10000000)∧((∃ ms,∃ ds,a=z0a z0d ms∧n=ms.length∧c=z0a z0b ds∧k=ds.length∧ms.length≤10000000∧ds.length≤10000000)∧∃ xs,l=z0a x9p xs∧p=xs.length∧xs.length≤10000000)∧True∧cIf ((tlV (z1f a) (z0j c) i f u).snd == (tlV (z1f a) (z0j c) i f u).snd) ((∃ x,∃ y,z0a x9p (tlV (z1f a) (z0j c) i f u).fst=z0a x9p x∧(tlV (z1f a) (z0j c) i f u).fst.length=x.length∧z0a x9p (tlV (z1f a) (z0j c) i f u).fst=z0a x9p y∧(tlV (z1f a) (z0j c) i f u).fst.length=y.length∧x.length≤10000000)∧cIf (decide (z0a x9p (tlV (z1f a) (z0j c) i f u).fst=z0a x9p (tlV (z1f a) (z0j c) i f u).fst)) (cIf ((ckV (z1f a) (z0j c) i f u (w8d l)).fst == (ckV (z1f a) (z0j c) i f u (w8d l)).fst) (Q (ret (Bo ((ckV (z1f a) (z0j c) i f u (w8d l)).snd == (ckV (z1f a) (z0j c) i f u (w8d l)).snd)))) (Q (ret (Bo false)))) (Q (ret (Bo false)))) (Q (ret (Bo false))))))):=by kernel_rfl
end Go.Proofs
namespace Go.Ev
theorem w90 {C:WCx}{g:FuncId}{fn:Func}{Q:CR→Prop}{env:Env}{s:St}{l:List AV}{n:Nat}{t:Tok}{b:Int}(hfn:C.P.funcs[g]?=some fn)(hres:z0v C.pc fn env s=some (.tup [.vs l n t,.int .i64 b]))(hn:noHL 0 l=true)(hs:z0e 0 l=l)(hq:∀ t',Q (.ret (.tup [.vs l n t',.int .i64 b]))):z0q C g Q EX.ret env s:=by
 unfold z0q
 rw[hfn]
 simp only
 rw[hres]
 show z2b (pub C.pc s.hs 0 (.tup [.vs l n t,.int .i64 b])) _
 have e1:pub C.pc s.hs 0 (.tup [.vs l n t,.int .i64 b])=some (.tup [.vs l n t,.int .i64 b]):=by simp[pub,z97,noH,hn]
 rw[e1]
 show Q _
 have e2:scrub 0 (.tup [.vs l n t,.int .i64 b])=.tup [.vs l n (t.scrub 0),.int .i64 b]:=by simp[scrub,z0e,hs]
 rw[e2]
 exact hq _
end Go.Ev
namespace Go.Proofs
open Go Go.Ev
attribute [local irreducible] wpF wpC cd
theorem v4m:Ct qB.c0 80 R80a:=⟨x9t.body,fun args D r hR hD=>by
 unfold R80a at hR
 split at hR<;>cases hR
 rename_i l n c k a m
 obtain ⟨ms,ds,rfl,rfl,rfl,rfl,hm,hk⟩:=hD
 have hp:∃ ms' ds',z0a z0d ms=z0a z0d ms'∧ms.length=ms'.length∧z0a z0b ds=z0a z0b ds'∧ds.length=ds'.length∧ms'.length≤10000000∧ds'.length≤10000000:=⟨ms,ds,rfl,rfl,rfl,rfl,hm,hk⟩
 have h:=x9t.ok [.agg [.vs (z0a z0d ms) ms.length .none,.vs (z0a z0b ds) ds.length .none],I a,I m] _ _ rfl hp
 simp only[eM.on (show 0 < 2 by decide),eD.on (show 0 < 9 by decide)]at h
 rw[x12,x11]
 exact h⟩
theorem v4j:Ct qB.c0 53 R53:=Ct.of_wp (l:=[]) (lm:=v2a) (tp:=[]) (ct:=[]) (sm:=[]) bok (Cts.nil _) ⟨_,_,Tryz.func53,rfl⟩ fun args D r hR hD=>by
 unfold R53 at hR
 split at hR<;>cases hR
 rename_i f u
 refine ⟨rfl,?_⟩
 show wpF X53 53 [I f,I u] _
 rw[v53]
 refine z0i (fun c=>?_) (fun c=>z0i (fun c2=>?_) (fun c2=>z0i (fun c3=>?_) (fun c3=>?_)))
 ·rw[c];rfl
 ·rw[c,c2];rfl
 ·rw[c,c2,c3];rfl
 ·have q1:=of_decide_eq_false c
  have q2:=of_decide_eq_false c2
  have q3:=of_decide_eq_false c3
  rw[c,c2,c3,z1c (x:=u-f) (by omega) (by omega)]
  rfl
section
variable {ms:List Mst}{ds:List Dcr}{i f u:Int}
theorem w9n (h1:(z0f ms ds i 0).2=0)(h2:w7t f u=true)(hm:ms.length≤10000000):(∃ ms' ds',z0a z0d ms=z0a z0d ms'∧ms.length=ms'.length∧z0a z0b ds=z0a z0b ds'∧ds.length=ds'.length∧ms'.length≤10000000∧ds'.length≤100∧∀ x∈ds',DecOk x)∧-720≤(z0f ms ds i 0).1.zo∧(z0f ms ds i 0).1.zo≤840∧0≤f∧f < u∧u≤144001440:=by
 obtain ⟨c1,c2,c3⟩:=y1r h1
 obtain ⟨-,-,z1,z2⟩:=y6s h1
 unfold w7t at h2
 simp only[Bool.and_eq_true,decide_eq_true_eq]at h2
 exact ⟨⟨ms,ds,rfl,rfl,rfl,rfl,hm,c1.dl,c1.dok⟩,z1,z2,h2.1.1,h2.1.2,h2.2⟩
end
theorem v4h:Ct qB.c0 55 R54:=Ct.of_wpZ (l:=[(80,R80a),(93,R87),(124,R124)]) (lm:=v1z) (tp:=[]) (ct:=[]) (sm:=[]) bok ((((Cts.nil _).cons v0f).cons (g:=93) v2g).cons v4m) ⟨_,_,Tryz.func55,rfl⟩ fun args D r hR hD=>by
 unfold R54 at hR
 split at hR<;>cases hR
 rename_i a n c k i f u
 obtain ⟨ms,ds,rfl,rfl,rfl,rfl,hm,hk⟩:=hD
 refine ⟨by simp[noHL,noH,eM.noHL',eD.noHL'],?_⟩
 rw[show z0e 0 [agg [vs (z0a z0d ms) ms.length .none,vs (z0a z0b ds) ds.length .none],I i,I f,I u]=[agg [vs (z0a z0d ms) ms.length .none,vs (z0a z0b ds) ds.length .none],I i,I f,I u] by simp[z0e,scrub,eM.scL,eD.scL,Tok.scrub],z6p,z1m]
 show wpF X55 55 _ _
 rw[v55,x12,x11,z1m]
 refine ⟨⟨ms,ds,rfl,rfl,rfl,rfl,hm,hk⟩,z0i (fun h=>?_) (fun h=>⟨trivial,z0i (fun h2=>?_) (fun h2=>?_)⟩)⟩
 ·have h:(z0f ms ds i 0).2≠0:=by simpa using h
  have e:tlV ms ds i f u=([],(z0f ms ds i 0).2):=by unfold tlV;rw[if_pos h]
  rw[e]
  rfl
 ·have h:¬ (z0f ms ds i 0).2≠0:=by simpa using h
  have h2:w7t f u=false:=by simpa using h2
  have e:tlV ms ds i f u=([],1):=by unfold tlV;rw[if_neg h,if_pos h2]
  rw[e]
  rfl
 ·have h1:(z0f ms ds i 0).2=0:=by simpa using h
  have h:¬ (z0f ms ds i 0).2≠0:=fun q=>q h1
  have h3:w7t f u=true:=by simpa using h2
  have h2:¬ w7t f u=false:=by simp[h3]
  refine ⟨w9n h1 h3 hm,?_⟩
  have eM1:Mst.mk (z0f ms ds i 0).1.id (z0f ms ds i 0).1.zo=(z0f ms ds i 0).1:=rfl
  simp only[eM1]
  by_cases hb:100000 < (w7s ds (z0f ms ds i 0).1 f u).length
  ·have e:tlV ms ds i f u=([],2):=by unfold tlV;rw[if_neg h,if_neg h2,if_pos hb]
   have el:w7v ds (z0f ms ds i 0).1 f u 100000=([],false):=by unfold w7v;rw[if_pos (by omega)]
   rw[e,el]
   exact z0h rfl rfl
  ·have e:tlV ms ds i f u=(w7s ds (z0f ms ds i 0).1 f u,0):=by unfold tlV;rw[if_neg h,if_neg h2,if_neg hb]
   have el:w7v ds (z0f ms ds i 0).1 f u 100000=(w7s ds (z0f ms ds i 0).1 f u,true):=by unfold w7v;rw[if_neg (by omega)]
   rw[e,el]
   refine z02 rfl ?_
   refine w90 (C:=X55) (fn:=Tryz.f55) Tryz.func55 rfl (eT.noHL' 0 _) (eT.scL 0 _) fun t=>?_
   show ret (.tup [.vs (z5d (z0a x9p (w7s ds (z0f ms ds i 0).1 f u))) (w7s ds (z0f ms ds i 0).1 f u).length .none,I 0])=_
   rw[w8e]
theorem v4f:Ct qB.c0 57 R56:=Ct.of_wp (l:=[(80,R80a),(93,R87),(124,R124),(58,R58)]) (lm:=v1y) (tp:=[]) (ct:=[]) (sm:=[]) bok (((((Cts.nil _).cons v2h).cons v0f).cons (g:=93) v2g).cons v4m) ⟨_,_,Tryz.func57,rfl⟩ fun args D r hR hD=>by
 unfold R56 at hR
 split at hR<;>cases hR
 rename_i a n c k i f u l p
 obtain ⟨⟨ms,ds,rfl,rfl,rfl,rfl,hm,hk⟩,xs,rfl,rfl,hxs⟩:=hD
 refine ⟨by simp[noHL,noH,eM.noHL',eD.noHL',eT.noHL'],?_⟩
 rw[show z0e 0 [agg [vs (z0a z0d ms) ms.length .none,vs (z0a z0b ds) ds.length .none],I i,I f,I u,vs (z0a x9p xs) xs.length .none]=[agg [vs (z0a z0d ms) ms.length .none,vs (z0a z0b ds) ds.length .none],I i,I f,I u,vs (z0a x9p xs) xs.length .none] by simp[z0e,scrub,eM.scL,eD.scL,eT.scL,Tok.scrub],z6p,z1m,w8k]
 show wpF X57 57 _ _
 rw[v57,x12,x11,z1m]
 refine ⟨⟨ms,ds,rfl,rfl,rfl,rfl,hm,hk⟩,z0i (fun h=>?_) (fun h=>⟨trivial,z0i (fun h2=>?_) (fun h2=>?_)⟩)⟩
 ·have h:(z0f ms ds i 0).2≠0:=by simpa using h
  have e:ckV ms ds i f u xs=(false,(z0f ms ds i 0).2):=by unfold ckV;rw[if_pos h]
  rw[e]
 ·have h:¬ (z0f ms ds i 0).2≠0:=by simpa using h
  have h2:w7t f u=false:=by simpa using h2
  have e:ckV ms ds i f u xs=(false,1):=by unfold ckV;rw[if_neg h,if_pos h2]
  rw[e]
 ·have h1:(z0f ms ds i 0).2=0:=by simpa using h
  have h:¬ (z0f ms ds i 0).2≠0:=fun q=>q h1
  have h3:w7t f u=true:=by simpa using h2
  have h2:¬ w7t f u=false:=by simp[h3]
  refine ⟨w9n h1 h3 hm,?_⟩
  have eM1:Mst.mk (z0f ms ds i 0).1.id (z0f ms ds i 0).1.zo=(z0f ms ds i 0).1:=rfl
  simp only[eM1]
  have e:ckV ms ds i f u xs=(decide (w7s ds (z0f ms ds i 0).1 f u=xs),0):=by unfold ckV;rw[if_neg h,if_neg h2]
  rw[e]
  by_cases hb:xs.length < (w7s ds (z0f ms ds i 0).1 f u).length
  ·have el:w7v ds (z0f ms ds i 0).1 f u xs.length=([],false):=by unfold w7v;rw[if_pos (by omega)]
   rw[el,df (show ¬ w7s ds (z0f ms ds i 0).1 f u=xs from fun q=>by rw[q]at hb;omega)]
   exact z02 rfl rfl
  ·have el:w7v ds (z0f ms ds i 0).1 f u xs.length=(w7s ds (z0f ms ds i 0).1 f u,true):=by unfold w7v;rw[if_neg (by omega)]
   rw[el]
   refine z0h rfl ⟨⟨w7s ds (z0f ms ds i 0).1 f u,xs,rfl,rfl,rfl,rfl,by omega⟩,?_⟩
   have hiff:(z0a x9p (w7s ds (z0f ms ds i 0).1 f u)=z0a x9p xs)↔w7s ds (z0f ms ds i 0).1 f u=xs:=⟨eT.injL (by decide) _ xs,fun h=>by rw[h]⟩
   rw[decide_eq_decide.2 hiff]
theorem v0m (ms:List Mst)(ds:List Dcr)(i f u:Int):(tlV ms ds i f u).1.length≤100000:=by
 unfold tlV
 split
 ·simp
 ·split
  ·simp
  ·split
   ·simp
   ·simp only;omega
theorem ct13:Ct qB.c0 13 R13:=Ct.of_wp (l:=[(25,w7e),(26,R26),(53,R53),(54,R54),(55,R54),(56,R56),(57,R56),(58,R58)]) (lm:=v2b) (tp:=[]) (ct:=[]) (sm:=[]) bok (((((((((Cts.nil _).cons v2h).cons v4f).cons v4g).cons v4h).cons v4i).cons v4j).cons w21).cons w22) ⟨_,_,Tryz.func13,rfl⟩ fun args D r hR hD=>by
 unfold R13 at hR
 split at hR<;>cases hR
 rename_i a n c k i f u l p
 obtain ⟨⟨ms,ds,rfl,rfl,rfl,rfl⟩,xs,rfl,rfl⟩:=hD
 refine ⟨by simp[noHL,noH,eM.noHL',eD.noHL',eT.noHL'],?_⟩
 rw[show z0e 0 [agg [vs (z0a z0d ms) ms.length .none,vs (z0a z0b ds) ds.length .none],I i,I f,I u,vs (z0a x9p xs) xs.length .none]=[agg [vs (z0a z0d ms) ms.length .none,vs (z0a z0b ds) ds.length .none],I i,I f,I u,vs (z0a x9p xs) xs.length .none] by simp[z0e,scrub,eM.scL,eD.scL,eT.scL,Tok.scrub]]
 have key:∀ Q:CR→Prop,Q (.ret (Bo true))→wpF X13 13 [.agg [.vs (z0a z0d ms) ms.length .none,.vs (z0a z0b ds) ds.length .none],I i,I f,I u,.vs (z0a x9p xs) xs.length .none] Q:=?_
 ·exact key _ rfl
 intro Q hQ
 rw[v13]
 simp only[z6p,z1m,w8k]
 refine ⟨⟨ms,ds,rfl,rfl,rfl,rfl⟩,z0i (fun _=>⟨trivial,hQ⟩) (fun h=>⟨trivial,z0i (fun _=>⟨trivial,hQ⟩) (fun h2=>z0i (fun _=>⟨trivial,hQ⟩) (fun h3=>?_))⟩)⟩
 have hl:ms.length≤4∧ds.length≤8:=by simpa using h
 have h3:=of_decide_eq_false h3
 have hp:∃ ms' ds',z0a z0d ms=z0a z0d ms'∧ms.length=ms'.length∧z0a z0b ds=z0a z0b ds'∧ds.length=ds'.length∧ms'.length≤10000000∧ds'.length≤10000000:=⟨ms,ds,rfl,rfl,rfl,rfl,by omega,by omega⟩
 have hx:∃ ys:List Trn,z0a x9p xs=z0a x9p ys∧xs.length=ys.length∧ys.length≤10000000:=⟨xs,rfl,rfl,by omega⟩
 refine ⟨hp,hp,⟨hp,hx⟩,⟨hp,hx⟩,trivial,z0h (by simp) ⟨⟨_,_,rfl,rfl,rfl,rfl,by have:=v0m ms ds i f u;omega⟩,z0h (by simp) (z0h (by simp) ?_)⟩⟩
 rw[beq_self_eq_true]
 exact hQ
end Go.Proofs
