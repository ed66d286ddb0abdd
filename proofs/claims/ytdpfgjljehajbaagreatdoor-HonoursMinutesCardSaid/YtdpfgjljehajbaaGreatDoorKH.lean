/- Contracts of functions of the program and of the reference. -/
import Derived.Test.YtdpfgjljehajbaaGreatDoorKG
set_option linter.unusedVariables false
set_option linter.unusedSimpArgs false
set_option linter.unusedSectionVars false
set_option maxRecDepth 100000
open Go.Ev.AV (vs ptr agg tup vp mp ofVal raw)
open Go.Ev.HB (cells map)
open Go.Ev.CR (ret)
open Go.IntKind (i64)
open List (drop replicate)
noncomputable section
namespace Go.Proofs
open Go Go.Ev
theorem v1h (a c:List AV)(n k:Nat)(i f u:Int)(Q:EX→Env→St→Prop):wpC XL (cd PP 54 [0]) ([.agg [.vs a n .none,.vs c k .none],I i,I f,I u]++replicate 34 X) ⟨[],[],[]⟩ Q =
 (Q EX.normal ([agg [vs a n .none,vs c k .none],I i,I f,I u,ptr 0 0,X,X,X,ptr 1 0,ptr 2 0]++replicate 28 X) (St.mk [some (cells [vs a n .none,vs c k .none] 25),some (cells [vs [] 0 Tok.zero] 67),some (cells [I 0] 30)] [] [])):=by kernel_rfl
theorem v1g (a c:List AV)(n k:Nat)(i f u:Int)(Q:EX→Env→St→Prop):wpC XL (cd PP 54 [1,0]) ([X,I i,I f,I u,.ptr 0 0,X,X,X,.ptr 1 0,.ptr 2 0]++replicate 28 X) ⟨[some (.cells [.vs a n .none,.vs c k .none] 25),some (.cells [.vs [] 0 .zero] 67),some (.cells [I 0] 30)],[],[]⟩ Q =
 ((∃ ms,∃ ds,a=z0a z0d ms∧n=ms.length∧c=z0a z0b ds∧k=ds.length∧ms.length≤10000000∧ds.length≤10000000)∧cIf (decide (aE a c i 0≠0) || !w7t f u) (Q EX.normal ([X,I i,I f,I u,ptr 0 0,X,X,X,ptr 1 0,ptr 2 0,raw RV.nilPtr,I (if aE a c i 0≠0 then aE a c i 0 else 1),X,X,tup [raw RV.nilPtr,I (if aE a c i 0≠0 then aE a c i 0 else 1)],agg [vs a n .none,vs c k .none],I i,I f,I u,tup [raw RV.nilPtr,I (if aE a c i 0≠0 then aE a c i 0 else 1)],raw RV.nilPtr,I (if aE a c i 0≠0 then aE a c i 0 else 1)]++replicate 16 X) (St.mk [some (cells [vs a n .none,vs c k .none] 25),some (cells [vs [] 0 Tok.zero] 67),some (cells [I 0] 30)] [] [])) (Q EX.normal ([X,I i,I f,I u,ptr 0 0,X,X,X,ptr 1 0,ptr 2 0,ptr 10 0,I 0,X,X,tup [ptr 10 0,I 0],agg [vs a n .none,vs c k .none],I i,I f,I u,tup [ptr 10 0,I 0],ptr 10 0,I 0]++replicate 16 X) (St.mk [some (cells [vs a n .none,vs c k .none] 25),some (cells [vs [] 0 Tok.zero] 67),some (cells [I 0] 30),some (cells [vs a n .none,vs c k .none] 25),some (cells [vs a n .none,vs c k .none] 25),some (cells [I (aA a c i 0).id,I (aA a c i 0).zo] 58),some (cells [vs a n .none,vs c k .none] 25),some (cells [I (aA a c i 0).id,I (aA a c i 0).zo] 58),some (map (z6g (z0j c) [])),some (map []),some (cells [vs a n .none,vs c k .none,I (aA a c i 0).id,I (aA a c i 0).zo,vs (bC c) (bN c) .none,mp 9] 185)] [] []))):=by kernel_rfl
theorem v3l (b0:Option HB)(f u e:Int)(p:AV)(Q:EX→Env→St→Prop):wpC XL (cd PP 54 [1,1,0]) ([X,X,I f,I u,X,X,X,X,.ptr 1 0,.ptr 2 0,p,I e]++replicate 26 X) ⟨[b0,some (.cells [.vs [] 0 .zero] 67),some (.cells [I 0] 30)],[],[]⟩ Q =
 (cIf (e != 0) (Q EX.ret ([X,X,I f,I u,X,X,X,X,ptr 1 0,ptr 2 0,p,I e,X,X,X,X,X,X,X,X,X,X,I e,Bo (e != 0),I e]++replicate 13 X) (St.mk [b0,some (cells [vs [] 0 Tok.zero] 67),some (cells [I e] 30)] [] [2,1])) (Q EX.normal ([X,X,I f,I u,X,X,X,X,ptr 1 0,ptr 2 0,p,I e,X,X,X,X,X,X,X,X,X,X,I e,Bo (e != 0)]++replicate 14 X) (St.mk [b0,some (cells [vs [] 0 Tok.zero] 67),some (cells [I 0] 30)] [] []))):=by kernel_rfl
theorem v3k (b0 b1 b2 b3 b4 b5 b6 b7 b8 b9 b10:Option HB)(f u:Int)(Q:EX→Env→St→Prop):wpC XL (cd PP 54 [1,1,0]) ([X,X,I f,I u,X,X,X,X,.ptr 1 0,.ptr 2 0,.ptr 10 0,I 0]++replicate 26 X) ⟨[b0,b1,b2,b3,b4,b5,b6,b7,b8,b9,b10],[],[]⟩ Q =
 (Q EX.normal ([X,X,I f,I u,X,X,X,X,ptr 1 0,ptr 2 0,ptr 10 0,I 0,X,X,X,X,X,X,X,X,X,X,I 0,Bo false]++replicate 14 X) (St.mk [b0,b1,b2,b3,b4,b5,b6,b7,b8,b9,b10] [] [])):=by kernel_rfl
theorem v3j (b0 b1 b2 b3 b4 b5 b6 b7 b8 b9 b10:Option HB)(f u:Int)(Q:EX→Env→St→Prop):wpC XL (cd PP 54 [1,1,1,0]) ([X,X,I f,I u,X,X,X,X,.ptr 1 0,.ptr 2 0,.ptr 10 0]++replicate 27 X) ⟨[b0,b1,b2,b3,b4,b5,b6,b7,b8,b9,b10],[],[]⟩ Q =
 (Q EX.normal ([X,X,I f,I u,X,X,X,X,ptr 1 0,ptr 2 0,ptr 10 0,X,ptr 11 0]++replicate 25 X) (St.mk [b0,b1,b2,b3,b4,b5,b6,b7,b8,b9,b10,some (cells [vs [] 0 Tok.zero] 67)] [] [])):=by kernel_rfl
theorem v3i (b0 b1 b2 b3 b4 b5 b6 b7 b8 b9 b10 b11:Option HB)(f u:Int)(Q:EX→Env→St→Prop):wpC XL (cd PP 54 [1,1,1,1,0,0]) ([X,X,I f,I u,X,X,X,X,.ptr 1 0,.ptr 2 0,.ptr 10 0,X,.ptr 11 0]++replicate 25 X) ⟨[b0,b1,b2,b3,b4,b5,b6,b7,b8,b9,b10,b11],[],[]⟩ Q =
 (True∧Q EX.normal ([X,X,I f,I u,X,X,X,X,ptr 1 0,ptr 2 0,ptr 10 0,X,ptr 11 0,X,X,X,X,X,X,X,X,X,X,X,X,ptr 10 0,I f,I u,AV.fn (Fn.func 164) [] [ptr 13 0,ptr 14 0,ptr 12 0]]++replicate 9 X) (St.mk [b0,b1,b2,b3,b4,b5,b6,b7,b8,b9,b10,b11,some (cells [ptr 10 0] 104),some (cells [I f] 3),some (cells [I u] 3)] [] [])):=by kernel_rfl
theorem v1f (b0 b1 b2 b3 b4 b5 b6 b7 b8 b9 b10 b12 b13 b14:Option HB)(r:AV)(x:Trn)(T:List (Nat×(Nat×Nat)))(Q:EX→Env→St→Prop):wpC XL (cd PP 54 [1,1,1,1,0,1,0,0]) ([X,X,X,X,X,X,X,X,.ptr 1 0,.ptr 2 0,X,X,.ptr 11 0,X,X,X,X,X,X,X,X,X,X,X,X,X,X,X,.fn (.func 164) [] [.ptr 13 0,.ptr 14 0,.ptr 12 0],.agg [I x.at',I x.fl,Bo x.ho]]++replicate 8 X) ⟨[b0,b1,b2,b3,b4,b5,b6,b7,b8,b9,b10,some (.cells [r] 67),b12,b13,b14],T,[]⟩ Q =
 (Q EX.normal ([X,X,X,X,X,X,X,X,ptr 1 0,ptr 2 0,X,X,ptr 11 0,ptr 15 0,X,X,X,X,X,X,X,X,X,X,X,X,X,X,AV.fn (Fn.func 164) [] [ptr 13 0,ptr 14 0,ptr 12 0],agg [I x.at',I x.fl,Bo x.ho]]++replicate 8 X) (St.mk [b0,b1,b2,b3,b4,b5,b6,b7,b8,b9,b10,some (cells [r] 67),b12,b13,b14,some (cells [I x.at',I x.fl,Bo x.ho] 77)] T [15])):=by kernel_rfl
theorem v3f (b0 b3 b4 b5 b6 b7 b8 b9 b10 b12 b13 b14:Option HB)(x:Trn)(g:AV)(T:List (Nat×(Nat×Nat)))(Q:EX→Env→St→Prop):wpC XL (cd PP 54 [1,1,1,1,0,1,0,1]) ([X,X,X,X,X,X,X,X,.ptr 1 0,.ptr 2 0,X,X,.ptr 11 0,.ptr 15 0,X,X,X,X,X,X,X,X,X,X,X,X,X,X,.fn (.func 164) [] [.ptr 13 0,.ptr 14 0,.ptr 12 0],g]++replicate 8 X) ⟨[b0,some (.cells [.vs [] 0 .zero] 67),some (.cells [I 0] 30),b3,b4,b5,b6,b7,b8,b9,b10,some (.cells [.vs [] 0 .zero] 67),b12,b13,b14,some (.cells [I x.at',I x.fl,Bo x.ho] 77)],T,[15]⟩ Q =
 (Q EX.normal [X,X,X,X,X,X,X,X,ptr 1 0,ptr 2 0,X,X,ptr 11 0,ptr 15 0,X,X,X,X,X,X,X,X,X,X,X,X,X,X,AV.fn (Fn.func 164) [] [ptr 13 0,ptr 14 0,ptr 12 0],g,vs [] 0 Tok.zero,I 0,Bo false,vs [] 0 Tok.zero,agg [I x.at',I x.fl,Bo x.ho],vs [I x.at',I x.fl,Bo x.ho] 1 (Tok.own T.length),vs [I x.at',I x.fl,Bo x.ho] 1 (Tok.own (T++[(1,3,77)]).length),X] (St.mk [b0,some (cells [vs [] 0 Tok.zero] 67),some (cells [I 0] 30),b3,b4,b5,b6,b7,b8,b9,b10,some (cells [vs [I x.at',I x.fl,Bo x.ho] 1 (Tok.own (T++[(1,3,77)]).length)] 67),b12,b13,b14,some (cells [I x.at',I x.fl,Bo x.ho] 77)] (T++[(1,3,77)]++[(1,3,77)]) [11,15])):=by kernel_rfl
theorem v3h (b0 b3 b4 b5 b6 b7 b8 b9 b10 b12 b13 b14:Option HB)(L:List AV)(p j:Nat)(x:Trn)(g:AV)(T:List (Nat×(Nat×Nat)))(Q:EX→Env→St→Prop):wpC XL (cd PP 54 [1,1,1,1,0,1,0,1]) ([X,X,X,X,X,X,X,X,.ptr 1 0,.ptr 2 0,X,X,.ptr 11 0,.ptr 15 0,X,X,X,X,X,X,X,X,X,X,X,X,X,X,.fn (.func 164) [] [.ptr 13 0,.ptr 14 0,.ptr 12 0],g]++replicate 8 X) ⟨[b0,some (.cells [.vs [] 0 .zero] 67),some (.cells [I 0] 30),b3,b4,b5,b6,b7,b8,b9,b10,some (.cells [.vs L p (.own j)] 67),b12,b13,b14,some (.cells [I x.at',I x.fl,Bo x.ho] 77)],T,[15]⟩ Q =
 (cIf ((↑p:Int) == 100000) (Q EX.ret [X,X,X,X,X,X,X,X,ptr 1 0,ptr 2 0,X,X,ptr 11 0,ptr 15 0,X,X,X,X,X,X,X,X,X,X,X,X,X,X,AV.fn (Fn.func 164) [] [ptr 13 0,ptr 14 0,ptr 12 0],g,vs L p (Tok.own j),I p,Bo ((↑p:Int) == 100000),X,X,X,X,X] (St.mk [b0,some (cells [vs [] 0 Tok.zero] 67),some (cells [I 2] 30),b3,b4,b5,b6,b7,b8,b9,b10,some (cells [vs L p (Tok.own j)] 67),b12,b13,b14,some (cells [I x.at',I x.fl,Bo x.ho] 77)] T [2,1,15])) (cIf (decide ((p+1)*24≤140737488355328)) (cIf (decide (p+1≤140737488355328)) (cIf (decide (L.length=p*3)) (cIf (decide ((T++[(1,3,77)])[j]?=some (p,3,77))) (Q EX.normal [X,X,X,X,X,X,X,X,ptr 1 0,ptr 2 0,X,X,ptr 11 0,ptr 15 0,X,X,X,X,X,X,X,X,X,X,X,X,X,X,AV.fn (Fn.func 164) [] [ptr 13 0,ptr 14 0,ptr 12 0],g,vs L p (Tok.own j),I p,Bo ((↑p:Int) == 100000),vs L p (Tok.own j),agg [I x.at',I x.fl,Bo x.ho],vs [I x.at',I x.fl,Bo x.ho] 1 (Tok.own T.length),vs (L++[I x.at',I x.fl,Bo x.ho]) (p+1) (Tok.own j),X] (St.mk [b0,some (cells [vs [] 0 Tok.zero] 67),some (cells [I 0] 30),b3,b4,b5,b6,b7,b8,b9,b10,some (cells [vs (L++[I x.at',I x.fl,Bo x.ho]) (p+1) (Tok.own j)] 67),b12,b13,b14,some (cells [I x.at',I x.fl,Bo x.ho] 77)] ((T++[(1,3,77)]).set j (p+1,3,77)) [11,15])) False) False) False) False)):=by kernel_rfl
theorem v3g (b0 b1 b2 b3 b4 b5 b6 b7 b8 b9 b10 b12 b13 b14:Option HB)(L:List AV)(p:Nat)(t:Tok)(r1 r2:AV)(T:List (Nat×(Nat×Nat)))(Q:EX→Env→St→Prop):wpC XL (cd PP 54 [1,1,1,1,1]) ([X,X,X,X,X,X,X,X,.ptr 1 0,.ptr 2 0,X,X,.ptr 11 0]++replicate 25 X) ⟨[b0,some (.cells [r1] 67),some (.cells [r2] 30),b3,b4,b5,b6,b7,b8,b9,b10,some (.cells [.vs L p t] 67),b12,b13,b14],T,[]⟩ Q =
 (Q EX.ret [X,X,X,X,X,X,X,X,ptr 1 0,ptr 2 0,X,X,ptr 11 0,X,X,X,X,X,X,X,X,X,X,X,X,X,X,X,X,X,X,X,X,X,X,X,X,vs L p t] (St.mk [b0,some (cells [vs L p t] 67),some (cells [I 0] 30),b3,b4,b5,b6,b7,b8,b9,b10,some (cells [vs L p t] 67),b12,b13,b14] T [2,1])):=by kernel_rfl
end Go.Proofs
namespace Go.Proofs
open Go Go.Ev
attribute [local irreducible] wpF wpC wpE cd
theorem v2u:cd PP 54 [1,1,1,1,0,1]=.block 0 (.rangeFunc (.tmp 28) #[29] (cd PP 54 [1,1,1,1,0,1,0,0]) (cd PP 54 [1,1,1,1,0,1,0,1])):=by kernel_rfl
theorem v0c:cd PP 54 []=.seq (cd PP 54 [0]) (.seq (cd PP 54 [1,0]) (.seq (cd PP 54 [1,1,0]) (.seq (cd PP 54 [1,1,1,0]) (.seq (.seq (cd PP 54 [1,1,1,1,0,0]) (cd PP 54 [1,1,1,1,0,1])) (cd PP 54 [1,1,1,1,1]))))):=by kernel_rfl
theorem v1u:w7u (cd PP 54 [0])=true:=by kernel_rfl
theorem v1t:w7u (cd PP 54 [1,0])=true:=by kernel_rfl
theorem v1s:w7u (cd PP 54 [1,1,0])=true:=by kernel_rfl
theorem v4a:w7u (cd PP 54 [1,1,1,0])=true:=by kernel_rfl
theorem v3z:w7u (cd PP 54 [1,1,1,1,0,0])=true:=by kernel_rfl
theorem v3y:w7u (cd PP 54 [1,1,1,1,1])=true:=by kernel_rfl
theorem v3x:w7u (cd PP 54 [1,1,1,1,0,1,0,0])=true:=by kernel_rfl
theorem v3w:w7u (cd PP 54 [1,1,1,1,0,1,0,1])=true:=by kernel_rfl
theorem v3q:okC (cd PP 54 [1,1,1,1,0,1,0,0])=true:=by kernel_rfl
theorem v3p:okC (cd PP 54 [1,1,1,1,0,1,0,1])=true:=by kernel_rfl
def tlV (ms:List Mst)(ds:List Dcr)(i f u:Int):List Trn×Int :=
 if (z0f ms ds i 0).2≠0 then ([],(z0f ms ds i 0).2) else if w7t f u=false then ([],1) else
  if 100000 < (w7s ds (z0f ms ds i 0).1 f u).length then ([],2) else (w7s ds (z0f ms ds i 0).1 f u,0)
def R54:Spc:=fun args=>match args with
 | [.agg [.vs a n .none,.vs c k .none],.int .i64 i,.int .i64 f,.int .i64 u]=>some (∃ ms ds,a=z0a z0d ms∧n=ms.length∧c=z0a z0b ds∧k=ds.length∧ms.length≤10000000∧ds.length≤10000000,.ret (.tup [.vs (z0a x9p (tlV (z1f a) (z0j c) i f u).1) (tlV (z1f a) (z0j c) i f u).1.length .none,I (tlV (z1f a) (z0j c) i f u).2]))
 | _=>none
def w8s:Env:=[X,X,X,X,X,X,X,X,.ptr 1 0,.ptr 2 0,X,X,.ptr 11 0,X,X,X,X,X,X,X,X,X,X,X,X,X,X,X,.fn (.func 164) [] [.ptr 13 0,.ptr 14 0,.ptr 12 0]]++replicate 9 X
def w87 (ms:List Mst)(ds:List Dcr)(m:Mst):List (Option HB):=[some (.cells [.vs (z0a z0d ms) ms.length .none,.vs (z0a z0b ds) ds.length .none] 25),some (.cells [.vs (z0a z0d ms) ms.length .none,.vs (z0a z0b ds) ds.length .none] 25),some (.cells [I m.id,I m.zo] 58),some (.cells [.vs (z0a z0d ms) ms.length .none,.vs (z0a z0b ds) ds.length .none] 25),some (.cells [I m.id,I m.zo] 58),some (.map (z6g ds []))]
def w7x (ms:List Mst)(ds:List Dcr)(m:Mst)(r1 r2:AV):List (Option HB):=[some (.cells [.vs (z0a z0d ms) ms.length .none,.vs (z0a z0b ds) ds.length .none] 25),some (.cells [r1] 67),some (.cells [r2] 30)]++w87 ms ds m
def P54 (ms:List Mst)(ds:List Dcr)(m:Mst)(L:List Trn)(c:Cs):Prop :=
 c.J=[]∧c.pre=w7x ms ds m (.vs [] 0 .zero) (I 0)∧L.length≤100000∧((L=[]∧c.d=some (.cells [.vs [] 0 .zero] 67))∨∃ j,c.d=some (.cells [.vs (z0a x9p L) L.length (.own j)] 67)∧c.T[j]?=some (L.length,(3,77)))
def F54 (ms:List Mst)(ds:List Dcr)(m:Mst)(L:List Trn)(x:Trn)(c:Cs):Prop :=
 L.length=100000∧∃ j,c.pre=w7x ms ds m (.vs [] 0 .zero) (I 2)∧c.d=some (.cells [.vs (z0a x9p L) L.length (.own j)] 67)
theorem w8p (ms:List Mst)(ds:List Dcr)(m:Mst)(n:Nat):(w87 ms ds m).all (okBlk n)=true:=by
 have hS:=y3q ds [] [] SetOk.nil
 unfold w87
 rw[List.all_cons,List.all_cons,List.all_cons,List.all_cons,List.all_cons,List.all_cons,List.all_nil,hS.blk]
 simp[okBlk,noHB,noHL,noH,eM.noHL',eD.noHL',eNum.noHL']
theorem v1m (os:List Trn)(x:Trn):z0a x9p os++[I x.at',I x.fl,Bo x.ho]=z0a x9p (os++[x]):=by rw[y86];rfl
theorem w85 (ms:List Mst)(ds:List Dcr)(m:Mst){n:Nat}{r2:AV}(hr:noH n r2=true)(L:List Trn)(p:Nat)(t:Tok):(w7x ms ds m (.vs [] 0 .zero) r2++[some (cells [.vs (z0a x9p L) p t] 67)]).all (okBlk n)=true:=by
 rw[List.all_append]
 unfold w7x
 rw[List.all_append,w8p]
 simp[okBlk,noHB,noHL,noH,eM.noHL',eD.noHL',eT.noHL',hr]
theorem v1o (ms:List Mst)(ds:List Dcr)(m m':Mst)(f u:Int):Sink 9 (w7z XL.cx noSelf #[29] (cd PP 54 [1,1,1,1,0,1,0,0]) (cd PP 54 [1,1,1,1,0,1,0,1]) w8s) (mV ms ds m.id m.zo) f u (P54 ms ds m') (F54 ms ds m') where
 len:=fun L c h=>by rw[h.2.1];rfl
 lenF:=fun L x c ⟨_,j,h,_⟩=>by rw[h];rfl
 ok:=fun L c ⟨_,h1,_,h2⟩=>by
  rw[h1,List.all_append]
  unfold w7x
  rw[List.all_append,w8p]
  rcases h2 with ⟨-,h2⟩ | ⟨j,h2,-⟩
  ·rw[h2];simp[okBlk,noHB,noHL,noH,eM.noHL',eD.noHL',eNum.noHL']
  ·rw[h2];simp[okBlk,noHB,noHL,noH,eM.noHL',eD.noHL',eT.noHL']
 okF:=fun L x c ⟨_,j,h1,h2⟩=>by
  rw[h1,List.all_append]
  unfold w7x
  rw[List.all_append,w8p,h2]
  simp[okBlk,noHB,noHL,noH,eM.noHL',eD.noHL',eT.noHL']
 step:=fun L x c es W hes hP=>by
  obtain ⟨pre,d,J,T⟩:=c
  obtain ⟨rfl,rfl,hL,hd⟩:=hP
  have key:=w8o xlo xlm xlc (ps:=#[29]) (asg:=cd PP 54 [1,1,1,1,0,1,0,0]) (body:=cd PP 54 [1,1,1,1,0,1,0,1]) (env:=w8s) (it:=[.agg (x9p x)]) (S:=stT 9 ⟨w7x ms ds m' (.vs [] 0 .zero) (I 0),d,[],T⟩ (mV ms ds m.id m.zo) f u es W)
   (kk:=fun j S'=>∃ c',S'=stT 9 c' (mV ms ds m.id m.zo) f u es []∧((j=none∧P54 ms ds m' (L++[x]) c')∨(j=some .ret∧F54 ms ds m' L x c'))) (N:=15) rfl rfl v3x v3w ?_
  ·obtain ⟨j,S',h1,c',rfl,h2⟩:=key
   exact ⟨j,c',[],h1,h2⟩
  rcases hd with ⟨rfl,rfl⟩ | ⟨j,rfl,hT⟩
  ·refine (v1f _ _ _ _ _ _ _ _ _ _ _ _ _ _ _ x T _).mpr ⟨rfl,?_⟩
   refine (v3f _ _ _ _ _ _ _ _ _ _ _ _ x _ T _).mpr ⟨fun v h=>(by cases h),?_,⟨w7x ms ds m' (.vs [] 0 .zero) (I 0),some (.cells [.vs (z0a x9p [x]) 1 (.own (T++[(1,3,77)]).length)] 67),[],T++[(1,3,77)]++[(1,3,77)]⟩,rfl,.inl ⟨rfl,rfl,rfl,by simp,.inr ⟨_,rfl,by simp⟩⟩⟩
   exact w74 (K:=9) (c:=⟨w7x ms ds m' (.vs [] 0 .zero) (I 0),some (.cells [.vs (z0a x9p [x]) 1 (.own (T++[(1,3,77)]).length)] 67),[],T++[(1,3,77)]++[(1,3,77)]⟩) (W:=[]) rfl (w85 ms ds m' rfl [x] 1 _) hes
  ·refine (v1f _ _ _ _ _ _ _ _ _ _ _ _ _ _ _ x T _).mpr ⟨rfl,?_⟩
   refine (v3h _ _ _ _ _ _ _ _ _ _ _ _ (z0a x9p L) L.length j x _ T _).mpr (z0i (fun c=>?_) (fun c=>?_))
   ·have c:L.length=100000:=by have:=eq_of_beq c;omega
    refine ⟨fun v h=>(by cases h),?_,⟨w7x ms ds m' (.vs [] 0 .zero) (I 2),some (.cells [.vs (z0a x9p L) L.length (.own j)] 67),[],T⟩,rfl,.inr ⟨rfl,c,j,rfl,rfl⟩⟩
    exact w74 (K:=9) (c:=⟨w7x ms ds m' (.vs [] 0 .zero) (I 2),some (.cells [.vs (z0a x9p L) L.length (.own j)] 67),[],T⟩) (W:=[]) rfl (w85 ms ds m' rfl L _ _) hes
   ·have c:L.length≠100000:=fun q=>by rw[q]at c;cases c
    refine z0h (dt (by omega)) (z0h (dt (by omega)) (z0h (dt (eT.lenL L)) (z0h (dt (w4r hT)) ?_)))
    rw[v1m]
    refine ⟨fun v h=>(by cases h),?_,⟨w7x ms ds m' (.vs [] 0 .zero) (I 0),some (.cells [.vs (z0a x9p (L++[x])) (L.length+1) (.own j)] 67),[],(T++[(1,3,77)]).set j (L.length+1,3,77)⟩,rfl,.inl ⟨rfl,rfl,rfl,by simp;omega,.inr ⟨j,by simp,by simpa using w4e hT⟩⟩⟩
    exact w74 (K:=9) (c:=⟨w7x ms ds m' (.vs [] 0 .zero) (I 0),some (.cells [.vs (z0a x9p (L++[x])) (L.length+1) (.own j)] 67),[],(T++[(1,3,77)]).set j (L.length+1,3,77)⟩) (W:=[]) rfl (w85 ms ds m' rfl (L++[x]) _ _) hes
theorem w8e:∀ l:List Trn,z5d (z0a x9p l)=z0a x9p l
 | []=>rfl
 | x::l=>by rw[z0a,x3q,w8e l];rfl
section
variable {ms:List Mst}{ds:List Dcr}{i f u:Int}(hm:ms.length≤10000000)(hk:ds.length≤10000000)
include hm hk
theorem v2s:∃ L t,L=(tlV ms ds i f u).1∧CallOk XL.cx 54 [.agg [.vs (z0a z0d ms) ms.length .none,.vs (z0a z0b ds) ds.length .none],I i,I f,I u] St.nil (.ret (.tup [.vs (z0a x9p L) L.length t,I (tlV ms ds i f u).2])) St.nil:=by
 have hp:∃ ms' ds',z0a z0d ms=z0a z0d ms'∧ms.length=ms'.length∧z0a z0b ds=z0a z0b ds'∧ds.length=ds'.length∧ms'.length≤10000000∧ds'.length≤10000000:=⟨ms,ds,rfl,rfl,rfl,rfl,hm,hk⟩
 have start:∀ r,(decide ((z0f ms ds i 0).2≠0) || !w7t f u)=true→w0v XL.cx Tryz.f54 r .ret ([X,X,I f,I u,X,X,X,X,.ptr 1 0,.ptr 2 0,.raw .nilPtr,I (if (z0f ms ds i 0).2≠0 then (z0f ms ds i 0).2 else 1),X,X,X,X,X,X,X,X,X,X,I (if (z0f ms ds i 0).2≠0 then (z0f ms ds i 0).2 else 1),Bo ((if (z0f ms ds i 0).2≠0 then (z0f ms ds i 0).2 else 1) != 0),I (if (z0f ms ds i 0).2≠0 then (z0f ms ds i 0).2 else 1)]++replicate 13 X) ⟨[some (.cells [.vs (z0a z0d ms) ms.length .none,.vs (z0a z0b ds) ds.length .none] 25),some (.cells [.vs [] 0 .zero] 67),some (.cells [I (if (z0f ms ds i 0).2≠0 then (z0f ms ds i 0).2 else 1)] 30)],[],[2,1]⟩ ⟨none,0⟩→CallOk XL.cx 54 [.agg [.vs (z0a z0d ms) ms.length .none,.vs (z0a z0b ds) ds.length .none],I i,I f,I u] St.nil (.ret r) St.nil:=fun r hb hr=>by
  refine CallOk.of_RWE (Y:=fun _ _ _ _=>False) xlok Tryz.func54 (c:=cd PP 54 []) (by kernel_rfl) ?_
  rw[v0c]
  refine RW.seq (RW.of_wpN xlo xlok xlm xlc v1u ((v1h _ _ _ _ i f u _).mpr ?_))
  refine RW.mask' [1,2,3,4,8,9] (env':=[X,I i,I f,I u,.ptr 0 0,X,X,X,.ptr 1 0,.ptr 2 0]++replicate 28 X) rfl ?_
  refine RW.seq (RW.of_wpN xlo xlok xlm xlc v1t ((v1g _ _ _ _ i f u _).mpr ?_))
  rw[x11,x12,z1m,y5w,y5v]
  refine ⟨hp,z0h hb ?_⟩
  refine RW.mask' [2,3,8,9,10,11] (env':=[X,X,I f,I u,X,X,X,X,.ptr 1 0,.ptr 2 0,.raw .nilPtr,I (if (z0f ms ds i 0).2≠0 then (z0f ms ds i 0).2 else 1)]++replicate 26 X) rfl ?_
  refine RW.seq (RW.of_wpN xlo xlok xlm xlc v1s ((v3l _ f u _ _ _).mpr (z0h ?_ hr)))
  by_cases h:(z0f ms ds i 0).2≠0
  ·rw[if_pos h];simpa using h
  ·rw[if_neg h];rfl
 by_cases h1:(z0f ms ds i 0).2≠0
 ·have e:tlV ms ds i f u=([],(z0f ms ds i 0).2):=by unfold tlV;rw[if_pos h1]
  rw[e]
  refine ⟨[],.zero,rfl,start _ (by simp[h1]) ?_⟩
  rw[if_pos h1]
  exact ⟨.inr rfl,_,_,rfl,rfl,rfl⟩
 have h1':(z0f ms ds i 0).2=0:=by simpa using h1
 by_cases h2:w7t f u=false
 ·have e:tlV ms ds i f u=([],1):=by unfold tlV;rw[if_neg h1,if_pos h2]
  rw[e]
  refine ⟨[],.zero,rfl,start _ (by simp[h2]) ?_⟩
  rw[if_neg h1]
  exact ⟨.inr rfl,_,_,rfl,rfl,rfl⟩
 clear start
 have h2':w7t f u=true:=by simpa using h2
 have hr:=h2'
 unfold w7t at hr
 simp only[Bool.and_eq_true,decide_eq_true_eq]at hr
 obtain ⟨⟨hf,hfu⟩,hu⟩:=hr
 obtain ⟨c1,c2,c3⟩:=y1r h1'
 obtain ⟨-,-,z1,z2⟩:=y6s h1'
 have hP:P54 ms ds (z0f ms ds i 0).1 [] ⟨w7x ms ds (z0f ms ds i 0).1 (.vs [] 0 .zero) (I 0),some (.cells [.vs [] 0 .zero] 67),[],[]⟩:=⟨rfl,rfl,by simp,.inl ⟨rfl,rfl⟩⟩
 obtain ⟨j,c',es',hM,hc,hs⟩:=w9v c1.dok c1.ml c1.dl z1 z2 hf hu (v1o ms ds (z0f ms ds i 0).1 (z0f ms ds i 0).1 f u) (es:=[]) (W:=[]) rfl (MapOk.nil _ _) hP
 have start:∀ r,w0u (y3h 0 (w0t XL.cx 0 none (fun _ _ _ _=>False) (cd PP 54 [1,1,1,1,1]) (w0v XL.cx Tryz.f54 r))) w8s (stT 9 { c' with J:=[] } (mV ms ds (z0f ms ds i 0).1.id (z0f ms ds i 0).1.zo) f u es' []) 1 j→CallOk XL.cx 54 [.agg [.vs (z0a z0d ms) ms.length .none,.vs (z0a z0b ds) ds.length .none],I i,I f,I u] St.nil (.ret r) St.nil:=fun r hr=>by
  refine CallOk.of_RWE (Y:=fun _ _ _ _=>False) xlok Tryz.func54 (c:=cd PP 54 []) (by kernel_rfl) ?_
  rw[v0c]
  refine RW.seq (RW.of_wpN xlo xlok xlm xlc v1u ((v1h _ _ _ _ i f u _).mpr ?_))
  refine RW.mask' [1,2,3,4,8,9] (env':=[X,I i,I f,I u,.ptr 0 0,X,X,X,.ptr 1 0,.ptr 2 0]++replicate 28 X) rfl ?_
  refine RW.seq (RW.of_wpN xlo xlok xlm xlc v1t ((v1g _ _ _ _ i f u _).mpr ?_))
  rw[x11,x12,z1m,y5w,y5v]
  refine ⟨hp,z02 (by rw[h1',h2'];rfl) ?_⟩
  refine RW.mask' [2,3,8,9,10,11] (env':=[X,X,I f,I u,X,X,X,X,.ptr 1 0,.ptr 2 0,.ptr 10 0,I 0]++replicate 26 X) rfl ?_
  refine RW.seq (RW.of_wpN xlo xlok xlm xlc v1s ((v3k _ _ _ _ _ _ _ _ _ _ _ f u _).mpr ?_))
  refine RW.mask' [2,3,8,9,10] (env':=[X,X,I f,I u,X,X,X,X,.ptr 1 0,.ptr 2 0,.ptr 10 0]++replicate 27 X) rfl ?_
  refine RW.seq (RW.of_wpN xlo xlok xlm xlc v4a ((v3j _ _ _ _ _ _ _ _ _ _ _ f u _).mpr ?_))
  refine RW.mask' [2,3,8,9,10,12] (env':=[X,X,I f,I u,X,X,X,X,.ptr 1 0,.ptr 2 0,.ptr 10 0,X,.ptr 11 0]++replicate 25 X) rfl ?_
  refine RW.seq (RW.seq (RW.of_wpN xlo xlok xlm xlc v3z ((v3i _ _ _ _ _ _ _ _ _ _ _ _ f u _).mpr ⟨trivial,?_⟩)))
  show RW _ _ _ _ (cd PP 54 [1,1,1,1,0,1]) _ _ _ _
  rw[v2u]
  refine RW.mask' [8,9,12,28] (env':=w8s) rfl (RW.block ?_)
  exact RW.rangeC (sf:=noSelf) xlok (y61 _) v3q v3p rfl hs (by simp) hr
 rcases hc with ⟨rfl,hj,hpre,hlen,hd⟩ | ⟨rfl,L1,x,L2,hsp,hl,j,hpre,hd⟩
 ·have hlen:(w7s ds (z0f ms ds i 0).1 f u).length≤100000:=hlen
  have e:tlV ms ds i f u=(w7s ds (z0f ms ds i 0).1 f u,0):=by unfold tlV;rw[if_neg h1,if_neg h2,if_neg (by omega)]
  obtain ⟨t,hd⟩:∃ t,c'.d=some (.cells [.vs (z0a x9p (w7s ds (z0f ms ds i 0).1 f u)) (w7s ds (z0f ms ds i 0).1 f u).length t] 67):=by
   rcases hd with ⟨h,hd⟩ | ⟨j,hd,-⟩
   ·refine ⟨.zero,?_⟩
    have h:w7s ds (z0f ms ds i 0).1 f u=[]:=h
    rw[h];exact hd
   ·exact ⟨_,hd⟩
  rw[e]
  refine ⟨_,t.scrub 0,rfl,start _ ?_⟩
  obtain ⟨pre,d,J,T⟩:=c'
  obtain rfl:pre=_:=hpre
  obtain rfl:d=_:=hd
  show RW _ _ _ _ (cd PP 54 [1,1,1,1,1]) _ _ _ _
  refine RW.mask' [8,9,12] (env':=[X,X,X,X,X,X,X,X,.ptr 1 0,.ptr 2 0,X,X,.ptr 11 0]++replicate 25 X) rfl ?_
  refine RW.of_wpN xlo xlok xlm xlc v3y ((v3g _ none none _ _ _ _ _ _ _ _ _ _ _ _ _ t _ _ T _).mpr ?_)
  exact ⟨.inr rfl,.tup [.vs (z0a x9p (w7s ds (z0f ms ds i 0).1 f u)) (w7s ds (z0f ms ds i 0).1 f u).length t,I 0],.tup [.vs (z0a x9p (w7s ds (z0f ms ds i 0).1 f u)) (w7s ds (z0f ms ds i 0).1 f u).length t,I 0],rfl,by simp[pub,z97,noH,eT.noHL'],by simp[scrub,z0e,eT.scL]⟩
 ·have hl2:100000 < (w7s ds (z0f ms ds i 0).1 f u).length:=by
   have:w7s ds (z0f ms ds i 0).1 f u=L1++x::L2:=hsp
   rw[this];simp;omega
  have e:tlV ms ds i f u=([],2):=by unfold tlV;rw[if_neg h1,if_neg h2,if_pos hl2]
  rw[e]
  refine ⟨_,.zero,rfl,start _ ?_⟩
  obtain ⟨pre,d,J,T⟩:=c'
  obtain rfl:pre=_:=hpre
  obtain rfl:d=_:=hd
  exact ⟨.inr rfl,_,_,rfl,rfl,rfl⟩
end
theorem v4i:Ct qB.c0 54 R54:=⟨⟨_,_,Tryz.func54,rfl⟩,fun args D r hR hD=>by
 unfold R54 at hR
 split at hR<;>cases hR
 rename_i a n c k i f u
 obtain ⟨ms,ds,rfl,rfl,rfl,rfl,hm,hk⟩:=hD
 refine ⟨by simp[noHL,noH,eM.noHL',eD.noHL'],?_⟩
 rw[show z0e 0 [agg [vs (z0a z0d ms) ms.length .none,vs (z0a z0b ds) ds.length .none],I i,I f,I u]=[agg [vs (z0a z0d ms) ms.length .none,vs (z0a z0b ds) ds.length .none],I i,I f,I u] by simp[z0e,scrub,eM.scL,eD.scL,Tok.scrub],z6p,z1m]
 obtain ⟨L,t,rfl,h⟩:=v2s (ms:=ms) (ds:=ds) (i:=i) (f:=f) (u:=u) hm hk
 have hz:=CallOk.zap h
 have e:y7v (.ret (.tup [.vs (z0a x9p (tlV ms ds i f u).1) (tlV ms ds i f u).1.length t,I (tlV ms ds i f u).2]))=.ret (.tup [.vs (z0a x9p (tlV ms ds i f u).1) (tlV ms ds i f u).1.length .none,I (tlV ms ds i f u).2]):=by
  simp only[y7v,zap,z5d,w8e]
 rw[e]at hz
 exact hz⟩
end Go.Proofs
namespace Go.Proofs
open Go Go.Ev
theorem v1e (a c:List AV)(n k:Nat)(l:List AV)(p:Nat)(i f u:Int)(Q:EX→Env→St→Prop):wpC XL (cd PP 56 [0]) ([.agg [.vs a n .none,.vs c k .none],I i,I f,I u,.vs l p .none]++replicate 45 X) ⟨[],[],[]⟩ Q =
 (Q EX.normal ([agg [vs a n .none,vs c k .none],I i,I f,I u,vs l p .none,ptr 0 0,X,X,X,ptr 1 0,ptr 2 0,ptr 3 0]++replicate 38 X) (St.mk [some (cells [vs a n .none,vs c k .none] 25),some (cells [vs l p .none] 67),some (cells [Bo false] 4),some (cells [I 0] 30)] [] [])):=by kernel_rfl
theorem v1d (a c:List AV)(n k:Nat)(l:List AV)(p:Nat)(i f u:Int)(Q:EX→Env→St→Prop):wpC XL (cd PP 56 [1,0]) ([X,I i,I f,I u,X,.ptr 0 0,X,X,X,.ptr 1 0,.ptr 2 0,.ptr 3 0]++replicate 38 X) ⟨[some (.cells [.vs a n .none,.vs c k .none] 25),some (.cells [.vs l p .none] 67),some (.cells [Bo false] 4),some (.cells [I 0] 30)],[],[]⟩ Q =
 ((∃ ms,∃ ds,a=z0a z0d ms∧n=ms.length∧c=z0a z0b ds∧k=ds.length∧ms.length≤10000000∧ds.length≤10000000)∧cIf (decide (aE a c i 0≠0) || !w7t f u) (Q EX.normal ([X,I i,I f,I u,X,ptr 0 0,X,X,X,ptr 1 0,ptr 2 0,ptr 3 0,raw RV.nilPtr,I (if aE a c i 0≠0 then aE a c i 0 else 1),X,X,tup [raw RV.nilPtr,I (if aE a c i 0≠0 then aE a c i 0 else 1)],agg [vs a n .none,vs c k .none],I i,I f,I u,tup [raw RV.nilPtr,I (if aE a c i 0≠0 then aE a c i 0 else 1)],raw RV.nilPtr,I (if aE a c i 0≠0 then aE a c i 0 else 1)]++replicate 26 X) (St.mk [some (cells [vs a n .none,vs c k .none] 25),some (cells [vs l p .none] 67),some (cells [Bo false] 4),some (cells [I 0] 30)] [] [])) (Q EX.normal ([X,I i,I f,I u,X,ptr 0 0,X,X,X,ptr 1 0,ptr 2 0,ptr 3 0,ptr 11 0,I 0,X,X,tup [ptr 11 0,I 0],agg [vs a n .none,vs c k .none],I i,I f,I u,tup [ptr 11 0,I 0],ptr 11 0,I 0]++replicate 26 X) (St.mk [some (cells [vs a n .none,vs c k .none] 25),some (cells [vs l p .none] 67),some (cells [Bo false] 4),some (cells [I 0] 30),some (cells [vs a n .none,vs c k .none] 25),some (cells [vs a n .none,vs c k .none] 25),some (cells [I (aA a c i 0).id,I (aA a c i 0).zo] 58),some (cells [vs a n .none,vs c k .none] 25),some (cells [I (aA a c i 0).id,I (aA a c i 0).zo] 58),some (map (z6g (z0j c) [])),some (map []),some (cells [vs a n .none,vs c k .none,I (aA a c i 0).id,I (aA a c i 0).zo,vs (bC c) (bN c) .none,mp 10] 185)] [] []))):=by kernel_rfl
theorem v3e (b0 b1:Option HB)(f u e:Int)(p:AV)(Q:EX→Env→St→Prop):wpC XL (cd PP 56 [1,1,0]) ([X,X,I f,I u,X,X,X,X,X,.ptr 1 0,.ptr 2 0,.ptr 3 0,p,I e]++replicate 36 X) ⟨[b0,b1,some (.cells [Bo false] 4),some (.cells [I 0] 30)],[],[]⟩ Q =
 (cIf (e != 0) (Q EX.ret ([X,X,I f,I u,X,X,X,X,X,ptr 1 0,ptr 2 0,ptr 3 0,p,I e,X,X,X,X,X,X,X,X,X,X,I e,Bo (e != 0),I e]++replicate 23 X) (St.mk [b0,b1,some (cells [Bo false] 4),some (cells [I e] 30)] [] [3,2])) (Q EX.normal ([X,X,I f,I u,X,X,X,X,X,ptr 1 0,ptr 2 0,ptr 3 0,p,I e,X,X,X,X,X,X,X,X,X,X,I e,Bo (e != 0)]++replicate 24 X) (St.mk [b0,b1,some (cells [Bo false] 4),some (cells [I 0] 30)] [] []))):=by kernel_rfl
theorem v3d (b0 b1 b2 b3 b4 b5 b6 b7 b8 b9 b10 b11:Option HB)(f u:Int)(Q:EX→Env→St→Prop):wpC XL (cd PP 56 [1,1,0]) ([X,X,I f,I u,X,X,X,X,X,.ptr 1 0,.ptr 2 0,.ptr 3 0,.ptr 11 0,I 0]++replicate 36 X) ⟨[b0,b1,b2,b3,b4,b5,b6,b7,b8,b9,b10,b11],[],[]⟩ Q =
 (Q EX.normal ([X,X,I f,I u,X,X,X,X,X,ptr 1 0,ptr 2 0,ptr 3 0,ptr 11 0,I 0,X,X,X,X,X,X,X,X,X,X,I 0,Bo false]++replicate 24 X) (St.mk [b0,b1,b2,b3,b4,b5,b6,b7,b8,b9,b10,b11] [] [])):=by kernel_rfl
theorem v3c (b0 b1 b2 b3 b4 b5 b6 b7 b8 b9 b10 b11:Option HB)(f u:Int)(Q:EX→Env→St→Prop):wpC XL (cd PP 56 [1,1,1,0]) ([X,X,I f,I u,X,X,X,X,X,.ptr 1 0,.ptr 2 0,.ptr 3 0,.ptr 11 0]++replicate 37 X) ⟨[b0,b1,b2,b3,b4,b5,b6,b7,b8,b9,b10,b11],[],[]⟩ Q =
 (Q EX.normal ([X,X,I f,I u,X,X,X,X,X,ptr 1 0,ptr 2 0,ptr 3 0,ptr 11 0,X,ptr 12 0]++replicate 35 X) (St.mk [b0,b1,b2,b3,b4,b5,b6,b7,b8,b9,b10,b11,some (cells [I 0] 3)] [] [12])):=by kernel_rfl
theorem v3b (b0 b1 b2 b3 b4 b5 b6 b7 b8 b9 b10 b11 b12:Option HB)(f u:Int)(Q:EX→Env→St→Prop):wpC XL (cd PP 56 [1,1,1,1,0,0]) ([X,X,I f,I u,X,X,X,X,X,.ptr 1 0,.ptr 2 0,.ptr 3 0,.ptr 11 0,X,.ptr 12 0]++replicate 35 X) ⟨[b0,b1,b2,b3,b4,b5,b6,b7,b8,b9,b10,b11,b12],[],[12]⟩ Q =
 (True∧Q EX.normal ([X,X,I f,I u,X,X,X,X,X,ptr 1 0,ptr 2 0,ptr 3 0,ptr 11 0,X,ptr 12 0,X,X,X,X,X,X,X,X,X,X,X,X,ptr 11 0,I f,I u,AV.fn (Fn.func 164) [] [ptr 14 0,ptr 15 0,ptr 13 0]]++replicate 19 X) (St.mk [b0,b1,b2,b3,b4,b5,b6,b7,b8,b9,b10,b11,b12,some (cells [ptr 11 0] 104),some (cells [I f] 3),some (cells [I u] 3)] [] [12])):=by kernel_rfl
theorem v3a (b0 b1 b2 b3 b4 b5 b6 b7 b8 b9 b10 b11 b12 b13 b14 b15:Option HB)(x:Trn)(T:List (Nat×(Nat×Nat)))(Q:EX→Env→St→Prop):wpC XL (cd PP 56 [1,1,1,1,0,1,0,0]) ([X,X,X,X,X,X,X,X,X,.ptr 1 0,.ptr 2 0,.ptr 3 0,X,X,.ptr 12 0,X,X,X,X,X,X,X,X,X,X,X,X,X,X,X,.fn (.func 164) [] [.ptr 14 0,.ptr 15 0,.ptr 13 0],.agg [I x.at',I x.fl,Bo x.ho]]++replicate 18 X) ⟨[b0,b1,b2,b3,b4,b5,b6,b7,b8,b9,b10,b11,b12,b13,b14,b15],T,[]⟩ Q =
 (Q EX.normal ([X,X,X,X,X,X,X,X,X,ptr 1 0,ptr 2 0,ptr 3 0,X,X,ptr 12 0,ptr 16 0,X,X,X,X,X,X,X,X,X,X,X,X,X,X,AV.fn (Fn.func 164) [] [ptr 14 0,ptr 15 0,ptr 13 0],agg [I x.at',I x.fl,Bo x.ho]]++replicate 18 X) (St.mk [b0,b1,b2,b3,b4,b5,b6,b7,b8,b9,b10,b11,b12,b13,b14,b15,some (cells [I x.at',I x.fl,Bo x.ho] 77)] T [16])):=by kernel_rfl
theorem v2z (b0 b4 b5 b6 b7 b8 b9 b10 b11 b13 b14 b15:Option HB)(l:List AV)(p k:Nat)(x:Trn)(g:AV)(T:List (Nat×(Nat×Nat)))(Q:EX→Env→St→Prop):wpC XL (cd PP 56 [1,1,1,1,0,1,0,1]) ([X,X,X,X,X,X,X,X,X,.ptr 1 0,.ptr 2 0,.ptr 3 0,X,X,.ptr 12 0,.ptr 16 0,X,X,X,X,X,X,X,X,X,X,X,X,X,X,.fn (.func 164) [] [.ptr 14 0,.ptr 15 0,.ptr 13 0],g]++replicate 18 X) ⟨[b0,some (.cells [.vs l p .none] 67),some (.cells [Bo false] 4),some (.cells [I 0] 30),b4,b5,b6,b7,b8,b9,b10,b11,some (.cells [I k] 3),b13,b14,b15,some (.cells [I x.at',I x.fl,Bo x.ho] 77)],T,[16]⟩ Q =
 (cIf (decide ((↑k:Int)≥(↑p:Int))) (Q EX.ret ([X,X,X,X,X,X,X,X,X,ptr 1 0,ptr 2 0,ptr 3 0,X,X,ptr 12 0,ptr 16 0,X,X,X,X,X,X,X,X,X,X,X,X,X,X,AV.fn (Fn.func 164) [] [ptr 14 0,ptr 15 0,ptr 13 0],g,I k,vs l p .none,I p,Bo (decide ((↑k:Int)≥(↑p:Int))),Bo true,tup [],tup [],tup [],tup [],tup [],tup [],Bo true]++replicate 6 X) (St.mk [b0,some (cells [vs l p .none] 67),some (cells [Bo false] 4),some (cells [I 0] 30),b4,b5,b6,b7,b8,b9,b10,b11,some (cells [I k] 3),b13,b14,b15,some (cells [I x.at',I x.fl,Bo x.ho] 77)] T [3,2,16])) (cIf (decide (k < p)) (cIf (decide (p*3=l.length)) (cIf (decide (3≤(drop (k*3) l).length)) (cIf (like [I 0,I 0,Bo false] (el (drop (k*3) l) 0 3)) (cIf (!(cI (el (drop (k*3) l) 0 3) 0 == x.at' && (cI (el (drop (k*3) l) 0 3) 1 == x.fl && (cB (el (drop (k*3) l) 0 3) 2 == x.ho && true)))) (Q EX.ret ([X,X,X,X,X,X,X,X,X,ptr 1 0,ptr 2 0,ptr 3 0,X,X,ptr 12 0,ptr 16 0,X,X,X,X,X,X,X,X,X,X,X,X,X,X,AV.fn (Fn.func 164) [] [ptr 14 0,ptr 15 0,ptr 13 0],g,I k,vs l p .none,I p,Bo (decide ((↑k:Int)≥(↑p:Int))),Bo false,vs l p .none,I k,vp (drop (k*3) l),agg [I (cI (el (drop (k*3) l) 0 3) 0),I (cI (el (drop (k*3) l) 0 3) 1),Bo (cB (el (drop (k*3) l) 0 3) 2)],agg [I x.at',I x.fl,Bo x.ho],AV.bool !(cI (el (drop (k*3) l) 0 3) 0 == x.at' && (cI (el (drop (k*3) l) 0 3) 1 == x.fl && (cB (el (drop (k*3) l) 0 3) 2 == x.ho && true))),AV.bool !(cI (el (drop (k*3) l) 0 3) 0 == x.at' && (cI (el (drop (k*3) l) 0 3) 1 == x.fl && (cB (el (drop (k*3) l) 0 3) 2 == x.ho && true)))]++replicate 6 X) (St.mk [b0,some (cells [vs l p .none] 67),some (cells [Bo false] 4),some (cells [I 0] 30),b4,b5,b6,b7,b8,b9,b10,b11,some (cells [I k] 3),b13,b14,b15,some (cells [I x.at',I x.fl,Bo x.ho] 77)] T [3,2,16])) (Q EX.normal [X,X,X,X,X,X,X,X,X,ptr 1 0,ptr 2 0,ptr 3 0,X,X,ptr 12 0,ptr 16 0,X,X,X,X,X,X,X,X,X,X,X,X,X,X,AV.fn (Fn.func 164) [] [ptr 14 0,ptr 15 0,ptr 13 0],g,I k,vs l p .none,I p,Bo (decide ((↑k:Int)≥(↑p:Int))),Bo false,vs l p .none,I k,vp (drop (k*3) l),agg [I (cI (el (drop (k*3) l) 0 3) 0),I (cI (el (drop (k*3) l) 0 3) 1),Bo (cB (el (drop (k*3) l) 0 3) 2)],agg [I x.at',I x.fl,Bo x.ho],AV.bool !(cI (el (drop (k*3) l) 0 3) 0 == x.at' && (cI (el (drop (k*3) l) 0 3) 1 == x.fl && (cB (el (drop (k*3) l) 0 3) 2 == x.ho && true))),AV.bool !(cI (el (drop (k*3) l) 0 3) 0 == x.at' && (cI (el (drop (k*3) l) 0 3) 1 == x.fl && (cB (el (drop (k*3) l) 0 3) 2 == x.ho && true))),I k,I (IntKind.i64.wrap ((↑k:Int)+1)),X,X,X,X] (St.mk [b0,some (cells [vs l p .none] 67),some (cells [Bo false] 4),some (cells [I 0] 30),b4,b5,b6,b7,b8,b9,b10,b11,some (cells [I (IntKind.i64.wrap ((↑k:Int)+1))] 3),b13,b14,b15,some (cells [I x.at',I x.fl,Bo x.ho] 77)] T [12,16]))) False) False) False) False)):=by kernel_rfl
theorem v2y (b0 b4 b5 b6 b7 b8 b9 b10 b11 b13 b14 b15:Option HB)(l:List AV)(p k:Nat)(T:List (Nat×(Nat×Nat)))(Q:EX→Env→St→Prop):wpC XL (cd PP 56 [1,1,1,1,1]) ([X,X,X,X,X,X,X,X,X,.ptr 1 0,.ptr 2 0,.ptr 3 0,X,X,.ptr 12 0]++replicate 35 X) ⟨[b0,some (.cells [.vs l p .none] 67),some (.cells [Bo false] 4),some (.cells [I 0] 30),b4,b5,b6,b7,b8,b9,b10,b11,some (.cells [I k] 3),b13,b14,b15],T,[]⟩ Q =
 (Q EX.ret [X,X,X,X,X,X,X,X,X,ptr 1 0,ptr 2 0,ptr 3 0,X,X,ptr 12 0,X,X,X,X,X,X,X,X,X,X,X,X,X,X,X,X,X,X,X,X,X,X,X,X,X,X,X,X,X,X,X,I k,vs l p .none,I p,Bo ((↑k:Int) == (↑p:Int))] (St.mk [b0,some (cells [vs l p .none] 67),some (cells [Bo ((↑k:Int) == (↑p:Int))] 4),some (cells [I 0] 30),b4,b5,b6,b7,b8,b9,b10,b11,some (cells [I k] 3),b13,b14,b15] T [3,2])):=by kernel_rfl
end Go.Proofs
namespace Go.Proofs
open Go Go.Ev
attribute [local irreducible] wpF wpC wpE cd
theorem v2t:cd PP 56 [1,1,1,1,0,1]=.block 0 (.rangeFunc (.tmp 30) #[31] (cd PP 56 [1,1,1,1,0,1,0,0]) (cd PP 56 [1,1,1,1,0,1,0,1])):=by kernel_rfl
theorem v0b:cd PP 56 []=.seq (cd PP 56 [0]) (.seq (cd PP 56 [1,0]) (.seq (cd PP 56 [1,1,0]) (.seq (cd PP 56 [1,1,1,0]) (.seq (.seq (cd PP 56 [1,1,1,1,0,0]) (cd PP 56 [1,1,1,1,0,1])) (cd PP 56 [1,1,1,1,1]))))):=by kernel_rfl
theorem v1r:w7u (cd PP 56 [0])=true:=by kernel_rfl
theorem v1q:w7u (cd PP 56 [1,0])=true:=by kernel_rfl
theorem v1p:w7u (cd PP 56 [1,1,0])=true:=by kernel_rfl
theorem v3v:w7u (cd PP 56 [1,1,1,0])=true:=by kernel_rfl
theorem v3u:w7u (cd PP 56 [1,1,1,1,0,0])=true:=by kernel_rfl
theorem v3t:w7u (cd PP 56 [1,1,1,1,1])=true:=by kernel_rfl
theorem v3s:w7u (cd PP 56 [1,1,1,1,0,1,0,0])=true:=by kernel_rfl
theorem v3r:w7u (cd PP 56 [1,1,1,1,0,1,0,1])=true:=by kernel_rfl
theorem v3o:okC (cd PP 56 [1,1,1,1,0,1,0,0])=true:=by kernel_rfl
theorem v3n:okC (cd PP 56 [1,1,1,1,0,1,0,1])=true:=by kernel_rfl
def ckV (ms:List Mst)(ds:List Dcr)(i f u:Int)(xs:List Trn):Bool×Int :=
 if (z0f ms ds i 0).2≠0 then (false,(z0f ms ds i 0).2) else if w7t f u=false then (false,1) else (decide (w7s ds (z0f ms ds i 0).1 f u=xs),0)
def w8d (l:List AV):List Trn:=z0c (z0a x9p) (fun x=>x) [] l
theorem w8k (x:List Trn):w8d (z0a x9p x)=x:=eT.on (by decide) _ _ _
def R56:Spc:=fun args=>match args with
 | [.agg [.vs a n .none,.vs c k .none],.int .i64 i,.int .i64 f,.int .i64 u,.vs l p .none]=>some ((∃ ms ds,a=z0a z0d ms∧n=ms.length∧c=z0a z0b ds∧k=ds.length∧ms.length≤10000000∧ds.length≤10000000)∧∃ xs:List Trn,l=z0a x9p xs∧p=xs.length∧xs.length≤10000000,.ret (.tup [Bo (ckV (z1f a) (z0j c) i f u (w8d l)).1,I (ckV (z1f a) (z0j c) i f u (w8d l)).2]))
 | _=>none
def w8r:Env:=[X,X,X,X,X,X,X,X,X,.ptr 1 0,.ptr 2 0,.ptr 3 0,X,X,.ptr 12 0,X,X,X,X,X,X,X,X,X,X,X,X,X,X,X,.fn (.func 164) [] [.ptr 14 0,.ptr 15 0,.ptr 13 0]]++replicate 19 X
def w7y (ms:List Mst)(ds:List Dcr)(xs:List Trn)(m:Mst):List (Option HB):=[some (.cells [.vs (z0a z0d ms) ms.length .none,.vs (z0a z0b ds) ds.length .none] 25),some (.cells [.vs (z0a x9p xs) xs.length .none] 67),some (.cells [Bo false] 4),some (.cells [I 0] 30)]++w87 ms ds m
def P56 (ms:List Mst)(ds:List Dcr)(xs:List Trn)(m:Mst)(L:List Trn)(c:Cs):Prop :=
 c.J=[]∧c.pre=w7y ms ds xs m∧c.d=some (.cells [I L.length] 3)∧L.length≤xs.length∧L=xs.take L.length
def F56 (ms:List Mst)(ds:List Dcr)(xs:List Trn)(m:Mst)(L:List Trn)(x:Trn)(c:Cs):Prop :=
 c.pre=w7y ms ds xs m∧c.d=some (.cells [I L.length] 3)∧∀ L2,L++x::L2≠xs
theorem w8g (ms:List Mst)(ds:List Dcr)(xs:List Trn)(m:Mst){n:Nat}(k:Int):(w7y ms ds xs m++[some (cells [I k] 3)]).all (okBlk n)=true:=by
 rw[List.all_append]
 unfold w7y
 rw[List.all_append,w8p]
 simp[okBlk,noHB,noHL,noH,eM.noHL',eD.noHL',eT.noHL']
theorem v1l {y x:Trn}:(!(y.at' == x.at' && (y.fl == x.fl && (y.ho == x.ho && true))))=!decide (y=x):=by
 obtain ⟨a,b,c⟩:=y
 obtain ⟨a',b',c'⟩:=x
 rw[Bool.eq_iff_iff]
 simp
theorem v1n (ms:List Mst)(ds:List Dcr)(xs:List Trn)(hxs:xs.length≤10000000)(m m':Mst)(f u:Int):Sink 10 (w7z XL.cx noSelf #[31] (cd PP 56 [1,1,1,1,0,1,0,0]) (cd PP 56 [1,1,1,1,0,1,0,1]) w8r) (mV ms ds m.id m.zo) f u (P56 ms ds xs m') (F56 ms ds xs m') where
 len:=fun L c h=>by rw[h.2.1];rfl
 lenF:=fun L x c ⟨h,_⟩=>by rw[h];rfl
 ok:=fun L c ⟨_,h1,h2,_⟩=>by rw[h1,h2];exact w8g ms ds xs m' _
 okF:=fun L x c ⟨h1,h2,_⟩=>by rw[h1,h2];exact w8g ms ds xs m' _
 step:=fun L x c es W hes hP=>by
  obtain ⟨pre,d,J,T⟩:=c
  obtain ⟨rfl,rfl,rfl,hL,hd⟩:=hP
  have key:=w8o xlo xlm xlc (ps:=#[31]) (asg:=cd PP 56 [1,1,1,1,0,1,0,0]) (body:=cd PP 56 [1,1,1,1,0,1,0,1]) (env:=w8r) (it:=[.agg (x9p x)]) (S:=stT 10 ⟨w7y ms ds xs m',some (.cells [I L.length] 3),[],T⟩ (mV ms ds m.id m.zo) f u es W)
   (kk:=fun j S'=>∃ c',S'=stT 10 c' (mV ms ds m.id m.zo) f u es []∧((j=none∧P56 ms ds xs m' (L++[x]) c')∨(j=some .ret∧F56 ms ds xs m' L x c'))) (N:=16) rfl rfl v3s v3r ?_
  ·obtain ⟨j,S',h1,c',rfl,h2⟩:=key
   exact ⟨j,c',[],h1,h2⟩
  refine (v3a _ _ _ _ _ _ _ _ _ _ _ _ _ _ _ _ x T _).mpr ⟨rfl,?_⟩
  refine (v2z _ _ _ _ _ _ _ _ _ _ _ _ (z0a x9p xs) xs.length L.length x _ T _).mpr ?_
  refine z0i (fun c=>?_) (fun c=>?_)
  ·have c:xs.length≤L.length:=by have:=of_decide_eq_true c;omega
   refine ⟨fun v h=>(by cases h),?_,⟨w7y ms ds xs m',some (.cells [I L.length] 3),[],T⟩,rfl,.inr ⟨rfl,rfl,rfl,fun L2 q=>?_⟩⟩
   ·exact w74 (K:=10) (c:=⟨w7y ms ds xs m',some (.cells [I L.length] 3),[],T⟩) (W:=[]) rfl (w8g ms ds xs m' _) hes
   ·have:=congrArg List.length q
    simp at this
    omega
  ·have c:L.length < xs.length:=by have:=of_decide_eq_false c;omega
   obtain ⟨y,hy,hdr⟩:=z06 c
   have w1:IntKind.i64.wrap ((L.length:Int)+1)=((L.length+1:Nat):Int):=z1c (by omega) (by omega)
   simp only[dt c,eT.gl,eT.gd c,eT.g0 c (by decide),eT.el hy,eT.ld0 hy (by decide),w8x,eT.cI0 hy (by decide),w9a,w95,eT.gf c 1 (by decide),eT.ld hy 1 (by decide),eT.cI hy 1 (by decide),w89,w94,eT.gf c 2 (by decide),eT.ld hy 2 (by decide),eT.cB hy 2 (by decide),w88,w93,eT.gfn c 1 2 (by decide),w9b hy,w8y,w98,w97,z0x,w1,v1l]
   refine z0i (fun q=>?_) (fun q=>?_)
   ·have q:y≠x:=by simpa using q
    refine ⟨fun v h=>(by cases h),?_,⟨w7y ms ds xs m',some (.cells [I L.length] 3),[],T⟩,rfl,.inr ⟨rfl,rfl,rfl,fun L2 h=>?_⟩⟩
    ·exact w74 (K:=10) (c:=⟨w7y ms ds xs m',some (.cells [I L.length] 3),[],T⟩) (W:=[]) rfl (w8g ms ds xs m' _) hes
    ·have h3:xs[L.length]?=some x:=by rw[← h];simp
     rw[h3]at hy
     exact q (Option.some.inj hy).symm
   ·have q:y=x:=by simpa using q
    subst q
    refine ⟨fun v h=>(by cases h),?_,⟨w7y ms ds xs m',some (.cells [I ((L.length+1:Nat):Int)] 3),[],T⟩,rfl,.inl ⟨rfl,rfl,rfl,by simp,by simp;omega,?_⟩⟩
    ·exact w74 (K:=10) (c:=⟨w7y ms ds xs m',some (.cells [I ((L.length+1:Nat):Int)] 3),[],T⟩) (W:=[]) rfl (w8g ms ds xs m' _) hes
    ·rw[List.length_append,List.length_singleton,List.take_add_one,hy,← hd]
     rfl
section
variable {ms:List Mst}{ds:List Dcr}{xs:List Trn}{i f u:Int}(hm:ms.length≤10000000)(hk:ds.length≤10000000)(hxs:xs.length≤10000000)
include hm hk hxs
theorem v2r:CallOk XL.cx 56 [.agg [.vs (z0a z0d ms) ms.length .none,.vs (z0a z0b ds) ds.length .none],I i,I f,I u,.vs (z0a x9p xs) xs.length .none] St.nil (.ret (.tup [Bo (ckV ms ds i f u xs).1,I (ckV ms ds i f u xs).2])) St.nil:=by
 have hp:∃ ms' ds',z0a z0d ms=z0a z0d ms'∧ms.length=ms'.length∧z0a z0b ds=z0a z0b ds'∧ds.length=ds'.length∧ms'.length≤10000000∧ds'.length≤10000000:=⟨ms,ds,rfl,rfl,rfl,rfl,hm,hk⟩
 have start:∀ r,(decide ((z0f ms ds i 0).2≠0) || !w7t f u)=true→w0v XL.cx Tryz.f56 r .ret ([X,X,I f,I u,X,X,X,X,X,.ptr 1 0,.ptr 2 0,.ptr 3 0,.raw .nilPtr,I (if (z0f ms ds i 0).2≠0 then (z0f ms ds i 0).2 else 1),X,X,X,X,X,X,X,X,X,X,I (if (z0f ms ds i 0).2≠0 then (z0f ms ds i 0).2 else 1),Bo ((if (z0f ms ds i 0).2≠0 then (z0f ms ds i 0).2 else 1) != 0),I (if (z0f ms ds i 0).2≠0 then (z0f ms ds i 0).2 else 1)]++replicate 23 X) ⟨[some (.cells [.vs (z0a z0d ms) ms.length .none,.vs (z0a z0b ds) ds.length .none] 25),some (.cells [.vs (z0a x9p xs) xs.length .none] 67),some (.cells [Bo false] 4),some (.cells [I (if (z0f ms ds i 0).2≠0 then (z0f ms ds i 0).2 else 1)] 30)],[],[3,2]⟩ ⟨none,0⟩→CallOk XL.cx 56 [.agg [.vs (z0a z0d ms) ms.length .none,.vs (z0a z0b ds) ds.length .none],I i,I f,I u,.vs (z0a x9p xs) xs.length .none] St.nil (.ret r) St.nil:=fun r hb hr=>by
  refine CallOk.of_RWE (Y:=fun _ _ _ _=>False) xlok Tryz.func56 (c:=cd PP 56 []) (by kernel_rfl) ?_
  rw[v0b]
  refine RW.seq (RW.of_wpN xlo xlok xlm xlc v1r ((v1e _ _ _ _ _ _ i f u _).mpr ?_))
  refine RW.mask' [1,2,3,5,9,10,11] (env':=[X,I i,I f,I u,X,.ptr 0 0,X,X,X,.ptr 1 0,.ptr 2 0,.ptr 3 0]++replicate 38 X) rfl ?_
  refine RW.seq (RW.of_wpN xlo xlok xlm xlc v1q ((v1d _ _ _ _ _ _ i f u _).mpr ?_))
  rw[x11,x12,z1m,y5w,y5v]
  refine ⟨hp,z0h hb ?_⟩
  refine RW.mask' [2,3,9,10,11,12,13] (env':=[X,X,I f,I u,X,X,X,X,X,.ptr 1 0,.ptr 2 0,.ptr 3 0,.raw .nilPtr,I (if (z0f ms ds i 0).2≠0 then (z0f ms ds i 0).2 else 1)]++replicate 36 X) rfl ?_
  refine RW.seq (RW.of_wpN xlo xlok xlm xlc v1p ((v3e _ _ f u _ _ _).mpr (z0h ?_ hr)))
  by_cases h:(z0f ms ds i 0).2≠0
  ·rw[if_pos h];simpa using h
  ·rw[if_neg h];rfl
 by_cases h1:(z0f ms ds i 0).2≠0
 ·have e:ckV ms ds i f u xs=(false,(z0f ms ds i 0).2):=by unfold ckV;rw[if_pos h1]
  rw[e]
  refine start _ (by simp[h1]) ?_
  rw[if_pos h1]
  exact ⟨.inr rfl,_,_,rfl,rfl,rfl⟩
 have h1':(z0f ms ds i 0).2=0:=by simpa using h1
 by_cases h2:w7t f u=false
 ·have e:ckV ms ds i f u xs=(false,1):=by unfold ckV;rw[if_neg h1,if_pos h2]
  rw[e]
  refine start _ (by simp[h2]) ?_
  rw[if_neg h1]
  exact ⟨.inr rfl,_,_,rfl,rfl,rfl⟩
 clear start
 have h2':w7t f u=true:=by simpa using h2
 have hr:=h2'
 unfold w7t at hr
 simp only[Bool.and_eq_true,decide_eq_true_eq]at hr
 obtain ⟨⟨hf,hfu⟩,hu⟩:=hr
 obtain ⟨c1,c2,c3⟩:=y1r h1'
 obtain ⟨-,-,z1,z2⟩:=y6s h1'
 have hP:P56 ms ds xs (z0f ms ds i 0).1 [] ⟨w7y ms ds xs (z0f ms ds i 0).1,some (.cells [I 0] 3),[],[]⟩:=⟨rfl,rfl,rfl,by simp,by simp⟩
 obtain ⟨j,c',es',hM,hc,hs⟩:=w9g c1.dok c1.ml c1.dl z1 z2 hf hu (v1n ms ds xs hxs (z0f ms ds i 0).1 (z0f ms ds i 0).1 f u) (es:=[]) (W:=[12]) rfl (MapOk.nil _ _) hP
 have start:∀ r,w0u (y3h 0 (w0t XL.cx 0 none (fun _ _ _ _=>False) (cd PP 56 [1,1,1,1,1]) (w0v XL.cx Tryz.f56 r))) w8r (stT 10 { c' with J:=[] } (mV ms ds (z0f ms ds i 0).1.id (z0f ms ds i 0).1.zo) f u es' []) 1 j→CallOk XL.cx 56 [.agg [.vs (z0a z0d ms) ms.length .none,.vs (z0a z0b ds) ds.length .none],I i,I f,I u,.vs (z0a x9p xs) xs.length .none] St.nil (.ret r) St.nil:=fun r hr=>by
  refine CallOk.of_RWE (Y:=fun _ _ _ _=>False) xlok Tryz.func56 (c:=cd PP 56 []) (by kernel_rfl) ?_
  rw[v0b]
  refine RW.seq (RW.of_wpN xlo xlok xlm xlc v1r ((v1e _ _ _ _ _ _ i f u _).mpr ?_))
  refine RW.mask' [1,2,3,5,9,10,11] (env':=[X,I i,I f,I u,X,.ptr 0 0,X,X,X,.ptr 1 0,.ptr 2 0,.ptr 3 0]++replicate 38 X) rfl ?_
  refine RW.seq (RW.of_wpN xlo xlok xlm xlc v1q ((v1d _ _ _ _ _ _ i f u _).mpr ?_))
  rw[x11,x12,z1m,y5w,y5v]
  refine ⟨hp,z02 (by rw[h1',h2'];rfl) ?_⟩
  refine RW.mask' [2,3,9,10,11,12,13] (env':=[X,X,I f,I u,X,X,X,X,X,.ptr 1 0,.ptr 2 0,.ptr 3 0,.ptr 11 0,I 0]++replicate 36 X) rfl ?_
  refine RW.seq (RW.of_wpN xlo xlok xlm xlc v1p ((v3d _ _ _ _ _ _ _ _ _ _ _ _ f u _).mpr ?_))
  refine RW.mask' [2,3,9,10,11,12] (env':=[X,X,I f,I u,X,X,X,X,X,.ptr 1 0,.ptr 2 0,.ptr 3 0,.ptr 11 0]++replicate 37 X) rfl ?_
  refine RW.seq (RW.of_wpN xlo xlok xlm xlc v3v ((v3c _ _ _ _ _ _ _ _ _ _ _ _ f u _).mpr ?_))
  refine RW.mask' [2,3,9,10,11,12,14] (env':=[X,X,I f,I u,X,X,X,X,X,.ptr 1 0,.ptr 2 0,.ptr 3 0,.ptr 11 0,X,.ptr 12 0]++replicate 35 X) rfl ?_
  refine RW.seq (RW.seq (RW.of_wpN xlo xlok xlm xlc v3u ((v3b _ _ _ _ _ _ _ _ _ _ _ _ _ f u _).mpr ⟨trivial,?_⟩)))
  show RW _ _ _ _ (cd PP 56 [1,1,1,1,0,1]) _ _ _ _
  rw[v2t]
  refine RW.mask' [9,10,11,14,30] (env':=w8r) rfl (RW.block ?_)
  exact RW.rangeC (sf:=noSelf) xlok (y61 _) v3o v3n rfl hs (by simp) hr
 have e:ckV ms ds i f u xs=(decide (w7s ds (z0f ms ds i 0).1 f u=xs),0):=by unfold ckV;rw[if_neg h1,if_neg h2]
 rw[e]
 refine start _ ?_
 clear start hs
 rcases hc with ⟨rfl,hj,hpre,hd,hlen,hpf⟩ | ⟨rfl,L1,x,L2,hsp,hpre,hd,hne⟩
 ·obtain ⟨pre,d,J,T⟩:=c'
  obtain rfl:pre=_:=hpre
  obtain rfl:d=_:=hd
  have hpf:w7s ds (z0f ms ds i 0).1 f u=xs.take (w7s ds (z0f ms ds i 0).1 f u).length:=hpf
  have hlen:(w7s ds (z0f ms ds i 0).1 f u).length≤xs.length:=hlen
  show RW _ _ _ _ (cd PP 56 [1,1,1,1,1]) _ _ _ _
  refine RW.mask' [9,10,11,14] (env':=[X,X,X,X,X,X,X,X,X,.ptr 1 0,.ptr 2 0,.ptr 3 0,X,X,.ptr 12 0]++replicate 35 X) rfl ?_
  refine RW.of_wpN xlo xlok xlm xlc v3t ((v2y _ _ _ _ _ _ _ _ _ _ _ _ _ _ (w7s ds (z0f ms ds i 0).1 f u).length T _).mpr ?_)
  have eb:(((w7s ds (z0f ms ds i 0).1 f u).length:Int) == (xs.length:Int))=decide (w7s ds (z0f ms ds i 0).1 f u=xs):=by
   rw[Bool.eq_iff_iff,beq_iff_eq,decide_eq_true_eq]
   refine ⟨fun q=>?_,fun q=>by rw[q]⟩
   rw[hpf,List.take_of_length_le (by omega)]
  refine ⟨.inr rfl,.tup [Bo (((w7s ds (z0f ms ds i 0).1 f u).length:Int) == (xs.length:Int)),I 0],.tup [Bo (((w7s ds (z0f ms ds i 0).1 f u).length:Int) == (xs.length:Int)),I 0],rfl,rfl,?_⟩
  rw[← eb]
  rfl
 ·have hb:decide (w7s ds (z0f ms ds i 0).1 f u=xs)=false:=df fun q=>hne L2 ((show w7s ds (z0f ms ds i 0).1 f u=L1++x::L2 from hsp).symm.trans q)
  obtain ⟨pre,d,J,T⟩:=c'
  obtain rfl:pre=_:=hpre
  obtain rfl:d=_:=hd
  rw[hb]
  exact ⟨.inr rfl,_,_,rfl,rfl,rfl⟩
end
theorem v4g:Ct qB.c0 56 R56:=⟨⟨_,_,Tryz.func56,rfl⟩,fun args D r hR hD=>by
 unfold R56 at hR
 split at hR<;>cases hR
 rename_i a n c k i f u l p
 obtain ⟨⟨ms,ds,rfl,rfl,rfl,rfl,hm,hk⟩,xs,rfl,rfl,hxs⟩:=hD
 refine ⟨by simp[noHL,noH,eM.noHL',eD.noHL',eT.noHL'],?_⟩
 rw[show z0e 0 [agg [vs (z0a z0d ms) ms.length .none,vs (z0a z0b ds) ds.length .none],I i,I f,I u,vs (z0a x9p xs) xs.length .none]=[agg [vs (z0a z0d ms) ms.length .none,vs (z0a z0b ds) ds.length .none],I i,I f,I u,vs (z0a x9p xs) xs.length .none] by simp[z0e,scrub,eM.scL,eD.scL,eT.scL,Tok.scrub],z6p,z1m,w8k]
 exact v2r hm hk hxs⟩
end Go.Proofs
namespace Go.Ev
open Go.Proofs
def w7w (ds:List Dcr)(m:Mst)(os:List Trn)(t:Int):List Trn:=match os.getLast? with
 | some y=>if SV ds m t≠⟨y.fl,y.ho⟩ then os++[trn ds m t] else os
 | none=>os
theorem w75 {ds:List Dcr}{m:Mst}{os:List Trn}{y:Trn}{t:Int}:w7w ds m (os++[y]) t=if SV ds m t≠⟨y.fl,y.ho⟩ then os++[y]++[trn ds m t] else os++[y]:=by
 unfold w7w
 rw[List.getLast?_concat]
def tB (ds:List Dcr)(m:Mst)(f p:Int):List Trn:=trn ds m f::(chg (SV ds m) (p-f-1).toNat (f+1)).map (fun q=>trn ds m q.1)
theorem w9t {ds:List Dcr}{m:Mst}{f u:Int}(h:f < u):tB ds m f u=w7s ds m f u:=by unfold w7s tB;rw[if_pos h]
theorem w80 (ds:List Dcr)(m:Mst){f p:Int}(h:f < p):∃ os y,tB ds m f p=os++[y]∧(⟨y.fl,y.ho⟩:Sho)=SV ds m (p-1):=by
 have hl:=w8w (f:=SV ds m) (p-f-1).toNat (f+1)
 rw[show f+1-1+(((p-f-1).toNat:Nat):Int)=p-1 by omega,show f+1-1=f by omega]at hl
 unfold tB
 rcases List.eq_nil_or_concat (chg (SV ds m) (p-f-1).toNat (f+1)) with h0 | ⟨l,z,h0⟩
 ·rw[h0]at hl ⊢
  exact ⟨[],trn ds m f,rfl,hl⟩
 ·have hz:z∈chg (SV ds m) (p-f-1).toNat (f+1):=by rw[h0];simp
  have h1:=(w82 hz).2.2.1
  rw[h0]at hl ⊢
  have hl:z.2=SV ds m (p-1):=by
   unfold w8q at hl
   rw[List.concat_eq_append,List.getLast?_concat]at hl
   exact hl
  refine ⟨trn ds m f::l.map (fun q=>trn ds m q.1),trn ds m z.1,by simp,?_⟩
  rw[← hl,h1]
  rfl
theorem v0n (ds:List Dcr)(m:Mst){f p:Int}(h:f < p):tB ds m f (p+1)=w7w ds m (tB ds m f p) p:=by
 obtain ⟨os,y,h1,h2⟩:=w80 ds m h
 rw[h1,w75,h2,← h1]
 unfold tB
 have e:(p+1-f-1).toNat=(p-f-1).toNat+1:=by omega
 rw[e,w8n]
 have e2:f+1+(((p-f-1).toNat:Nat):Int)=p:=by omega
 rw[e2]
 simp only[chg]
 by_cases hc:SV ds m p=SV ds m (p-1)
 ·rw[if_pos hc,if_neg (fun q=>q hc)]
  simp
 ·rw[if_neg hc,if_pos hc]
  simp
def w7v (ds:List Dcr)(m:Mst)(f u lim:Int):List Trn×Bool:=if lim < ((w7s ds m f u).length:Int) then ([],false) else (w7s ds m f u,true)
end Go.Ev
--BASE BR3
namespace Go.Proofs
open Go Go.Ev
def v6r:Spc:=fun args=>match args with
 | [.agg [.vs a n .none,.vs c k .none],.agg [.int .i64 id,.int .i64 zo],.int .i64 f,.int .i64 u,.int .i64 m]=>some ((∃ ms ds,a=z0a z0d ms∧n=ms.length∧c=z0a z0b ds∧k=ds.length∧ms.length≤10000000∧ds.length≤100∧∀ x∈ds,DecOk x)∧-720≤zo∧zo≤840∧0≤f∧f < u∧u≤144001440,.ret (.tup [.vs (z0a x9p (w7v (z0j c) ⟨id,zo⟩ f u m).1) (w7v (z0j c) ⟨id,zo⟩ f u m).1.length .none,Bo (w7v (z0j c) ⟨id,zo⟩ f u m).2]))
 | _=>none
end Go.Proofs
namespace Go.Ev
theorem v0o {x y:Sho}:(x.fl == y.fl && (x.ho == y.ho && true))=decide (x=y):=by
 cases x;cases y
 rw[Bool.eq_iff_iff]
 simp
end Go.Ev
namespace Go.Proofs
open Go Go.Ev
attribute [local irreducible] wpF wpC cd
section
variable {ms:List Mst}{ds:List Dcr}{id zo f u m la:Int}(hm:ms.length≤10000000)(hk:ds.length≤100)(hd:∀ x∈ds,DecOk x)(hz1:-720≤zo)(hz2:zo≤840)(hf:0≤f)(hfu:f < u)(hu:u≤144001440)
include hm hk hd hz1 hz2 hf hfu hu
end
end Go.Proofs
namespace Go.Proofs
open Go Go.Ev
def v6q:Spc:=fun args=>match args with
 | [.agg [.vs l n .none,.vs c k .none],.int .i64 a,.int .i64 m]=>some (∃ ms ds,l=z0a z0d ms∧n=ms.length∧c=z0a z0b ds∧k=ds.length∧ms.length≤10000000∧ds.length≤10000000,.ret (.tup [.agg [I (aA l c a m).id,I (aA l c a m).zo],I (aE l c a m)]))
 | _=>none
def R53:Spc:=fun args=>match args with
 | [.int .i64 f,.int .i64 u]=>some (True,rB (decide (f < 0) || (decide (u≤f) || (decide (u > 144001440) || decide (u-f≤7200)))))
 | _=>none
def v2a:List (Nat×List Nat):=[]
def X53:WCx:=qB.wcx [] v2a [] [] []
def v1y:List (Nat×List Nat):=[]
def X57:WCx:=qB.wcx [(80,v6q),(93,R87),(124,v6r),(58,R58)] v1y [] [] []
theorem v53 (f u:Int)(Q:CR→Prop):wpF X53 53 [I f,I u] Q =
 (cIf (decide (f < 0)) (Q (ret (Bo true))) (cIf (decide (u≤f)) (Q (ret (Bo true))) (cIf (decide (u > 144001440)) (Q (ret (Bo true))) (Q (ret (Bo (decide (IntKind.i64.wrap (u-f)≤7200)))))))):=by kernel_rfl
theorem v57 (a c l:List AV)(n k p:Nat)(i f u:Int)(Q:CR→Prop):wpF X57 57 [.agg [.vs a n .none,.vs c k .none],I i,I f,I u,.vs l p .none] Q =
 ((∃ ms,∃ ds,a=z0a z0d ms∧n=ms.length∧c=z0a z0b ds∧k=ds.length∧ms.length≤10000000∧ds.length≤10000000)∧cIf (aE a c i 0 != 0) (Q (ret (tup [Bo false,I (aE a c i 0)]))) (True∧cIf (!w7t f u) (Q (ret (tup [Bo false,I 1]))) (((∃ ms,∃ ds,a=z0a z0d ms∧n=ms.length∧c=z0a z0b ds∧k=ds.length∧ms.length≤10000000∧ds.length≤100∧∀ (x:Dcr),x∈ds→DecOk x)∧(-720:Int)≤(aA a c i 0).zo∧(aA a c i 0).zo≤840∧(0:Int)≤f∧f < u∧u≤144001440)∧cIf (w7v (z0j c) (Mst.mk (aA a c i 0).id (aA a c i 0).zo) f u (↑p:Int)).snd ((∃ x,∃ y,z0a x9p (w7v (z0j c) (Mst.mk (aA a c i 0).id (aA a c i 0).zo) f u (↑p:Int)).fst=z0a x9p x∧(w7v (z0j c) (Mst.mk (aA a c i 0).id (aA a c i 0).zo) f u (↑p:Int)).fst.length=x.length∧l=z0a x9p y∧p=y.length∧x.length≤10000000)∧Q (ret (tup [Bo (decide (z0a x9p (w7v (z0j c) (Mst.mk (aA a c i 0).id (aA a c i 0).zo) f u (↑p:Int)).fst=l)),I 0]))) (Q (ret (tup [Bo false,I 0])))))):=by kernel_rfl
end Go.Proofs
namespace Go.Ev
end Go.Ev
namespace Go.Proofs
open Go Go.Ev
attribute [local irreducible] wpF wpC cd
theorem v4j:Ct qB.c0 53 R53:=Ct.of_wp (l:=[]) (lm:=v2a) (tp:=[]) (ct:=[]) (sm:=[]) bok (Cts.nil _) ⟨_,_,Tryz.func53,rfl⟩ fun args D r hR hD=>by
 unfold R53 at hR
 split at hR<;>cases hR
 rename_i f u
 refine ⟨rfl,?_⟩
 show wpF X53 53 [I f,I u] _
 rw[v53]
 refine z0i (fun c=>?_) (fun c=>z0i (fun c2=>?_) (fun c2=>z0i (fun c3=>?_) (fun c3=>?_)))
 ·rw[c];rfl
 ·rw[c,c2];rfl
 ·rw[c,c2,c3];rfl
 ·have q1:=of_decide_eq_false c
  have q2:=of_decide_eq_false c2
  have q3:=of_decide_eq_false c3
  rw[c,c2,c3,z1c (x:=u-f) (by omega) (by omega)]
  rfl
section
variable {ms:List Mst}{ds:List Dcr}{i f u:Int}
end
theorem v0m (ms:List Mst)(ds:List Dcr)(i f u:Int):(tlV ms ds i f u).1.length≤100000:=by
 unfold tlV
 split
 ·simp
 ·split
  ·simp
  ·split
   ·simp
   ·simp only;omega
end Go.Proofs
namespace Go.Ev
open Go.Proofs
theorem v4n (ds:List Dcr)(m:Mst):∀ (k:Nat) (s:Int) (p:Trn),p.at' < s→p.sh=SV ds m (s-1)→0≤s→s+k≤144001440→w86 (some p) ((chg (SV ds m) k s).map fun q=>trn ds m q.1)=true
 | 0,s,p,_,_,_,_=>rfl
 | k+1,s,p,h1,h2,h3,h4=>by
  simp only[chg]
  by_cases hc:SV ds m s=SV ds m (s-1)
  ·rw[if_pos hc,List.nil_append]
   exact v4n ds m k (s+1) p (by omega) (by rw[h2,show s+1-1=s by omega,hc]) (by omega) (by omega)
  ·rw[if_neg hc]
   have hr:=v4n ds m k (s+1) (trn ds m s) (by show s < s+1;omega) (by rw[show s+1-1=s by omega];rfl) (by omega) (by omega)
   have hs:v2q p (trn ds m s)=false:=by
    rw[← Bool.not_eq_true,v4t,h2]
    exact fun q=>hc q.symm
   have hm:w8v (trn ds m s).at'=true:=by
    show w8v s=true
    unfold w8v
    rw[dt h3,dt (show s≤144001439 by omega)]
    rfl
   have ha:decide (p.at' < (trn ds m s).at')=true:=dt h1
   show (w8v (trn ds m s).at' && (decide (p.at' < (trn ds m s).at') && !v2q p (trn ds m s)) && w86 (some (trn ds m s)) ((chg (SV ds m) k (s+1)).map fun q=>trn ds m q.1))=true
   rw[hm,ha,hs,hr]
   rfl
theorem v5v {ds:List Dcr}{m:Mst}{f u:Int}(h:f < u){y:Trn}(hy:y∈tB ds m f u):f≤y.at'∧y.at' < u:=by
 unfold tB at hy
 rcases List.mem_cons.1 hy with rfl | hy
 ·exact ⟨Int.le_refl _,h⟩
 ·obtain ⟨q,hq,rfl⟩:=List.mem_map.1 hy
  have:=w82 hq
  show f≤q.1∧q.1 < u
  omega
theorem v5b {ds:List Dcr}{m:Mst}{f u:Int}(h0:0≤f)(h1:f < u)(h2:u≤144001440):v2i f u (tB ds m f u)=true:=by
 have hr:w7t f u=true:=by unfold w7t;rw[dt h0,dt h1,dt h2];rfl
 have hn:w9x (tB ds m f u)=true:=by
  unfold w9x tB
  have hm:w8v (trn ds m f).at'=true:=by
   show w8v f=true
   unfold w8v
   rw[dt h0,dt (show f≤144001439 by omega)]
   rfl
  have hc:=v4n ds m (u-f-1).toNat (f+1) (trn ds m f) (by show f < f+1;omega) (by rw[show f+1-1=f by omega];rfl) (by omega) (by omega)
  show (w8v (trn ds m f).at' && w86 (some (trn ds m f)) _ && decide (0 < _+1))=true
  rw[hm,hc]
  simp
 have hl:0 < (tB ds m f u).length:=by unfold tB;simp
 have hlast:((tB ds m f u).getD ((tB ds m f u).length-1) w8t).at' < u:=by
  have hlt:(tB ds m f u).length-1 < (tB ds m f u).length:=by omega
  rw[List.getD_eq_getElem?_getD,List.getElem?_eq_getElem hlt]
  exact (v5v h1 (List.getElem_mem hlt)).2
 unfold v2i
 rw[hr,hn,dt hlast]
 have:((tB ds m f u).getD 0 w8t).at'=f:=rfl
 rw[dt this]
 rfl
theorem v4o (ds:List Dcr)(m:Mst){f u p:Int}(h:f≤p)(h2:p≤u)(hfu:f < u):∃ R:List Trn,tB ds m f u=tB ds m f p++R∧∀ y∈R,p≤y.at':=by
 have key:∀ q,f+1≤q→q≤u→∃ R:List Trn,tB ds m f u=tB ds m f q++R∧∀ y∈R,q≤y.at':=fun q q1 q2=>by
  refine ⟨(chg (SV ds m) (u-q).toNat q).map fun z=>trn ds m z.1,?_,fun y hy=>?_⟩
  ·unfold tB
   have e:(u-f-1).toNat=(q-f-1).toNat+(u-q).toNat:=by omega
   rw[e,w8n,List.map_append,show f+1+(((q-f-1).toNat:Nat):Int)=q by omega]
   rfl
  ·obtain ⟨z,hz,rfl⟩:=List.mem_map.1 hy
   exact (w82 hz).1
 by_cases hp:f=p
 ·subst hp
  obtain ⟨R,r1,r2⟩:=key (f+1) (Int.le_refl _) (by omega)
  have e:tB ds m f (f+1)=tB ds m f f:=by
   unfold tB
   rw[show (f+1-f-1).toNat=(f-f-1).toNat by omega]
  rw[e]at r1
  exact ⟨R,r1,fun y hy=>by have:=r2 y hy;omega⟩
 ·exact key p (by omega) h2
theorem v4v (ds:List Dcr)(m:Mst){f u w:Int}(hfu:f < u)(h1:f≤w)(h2:w < u){j:Nat}(hj:j+1=(tB ds m f w).length) :
  ((∃ y,(tB ds m f u)[j+1]?=some y∧y.at'=w)∧j+2=(tB ds m f (w+1)).length)∨((∀ y,(tB ds m f u)[j+1]?=some y→y.at'≠w)∧j+1=(tB ds m f (w+1)).length):=by
 obtain ⟨R,r1,r2⟩:=v4o ds m (f:=f) (u:=u) (p:=w+1) (by omega) (by omega) hfu
 have hcase:tB ds m f (w+1)=tB ds m f w∨tB ds m f (w+1)=tB ds m f w++[trn ds m w]:=by
  by_cases hw:f=w
  ·subst hw
   left
   unfold tB
   rw[show (f+1-f-1).toNat=(f-f-1).toNat by omega]
  ·have hs:=v0n ds m (f:=f) (p:=w) (by omega)
   rw[hs]
   unfold w7w
   split
   ·split
    ·exact .inr rfl
    ·exact .inl rfl
   ·exact .inl rfl
 rcases hcase with hc | hc
 ·refine .inr ⟨fun y hy=>?_,by rw[hc];exact hj⟩
  rw[r1,List.getElem?_append_right (by rw[hc];omega)]at hy
  have:=r2 y (List.mem_of_getElem? hy)
  omega
 ·refine .inl ⟨⟨trn ds m w,?_,rfl⟩,by rw[hc];simp;omega⟩
  rw[r1,hc,List.append_assoc,List.getElem?_append_right (by omega),show j+1-(tB ds m f w).length=0 by omega]
  rfl
theorem v4p (ds:List Dcr)(m:Mst){f u w:Int}(hfu:f < u)(h1:f≤w)(h2:w < u){j:Nat}(hj:j+1=(tB ds m f (w+1)).length):∃ y,(tB ds m f u)[j]?=some y∧(⟨y.fl,y.ho⟩:Sho)=SV ds m w:=by
 obtain ⟨R,r1,r2⟩:=v4o ds m (f:=f) (u:=u) (p:=w+1) (by omega) (by omega) hfu
 obtain ⟨os,y,q1,q2⟩:=w80 ds m (f:=f) (p:=w+1) (by omega)
 rw[show w+1-1=w by omega]at q2
 refine ⟨y,?_,q2⟩
 rw[r1,q1]
 rw[q1]at hj
 simp at hj
 subst hj
 simp
theorem v6m (ds:List Dcr)(m:Mst)(f:Int):(tB ds m f f).length=1:=by
 unfold tB
 rw[show (f-f-1).toNat=0 by omega]
 rfl
end Go.Ev
--BASE Tryz.BW
namespace Go.Proofs
open Go Go.Ev
def Tryz.BW:Base:=qB.hk 56 (w3r R56)
theorem Tryz.bwok:BaseOk Tryz.BW:=bok.hk (v4g.hookU gtpB)
def R14:Spc:=fun args=>match args with
 | [.agg [.vs a n .none,.vs c k .none],.int .i64 i,.int .i64 f,.int .i64 u,.int .i64 z]=>some (∃ ms ds,a=z0a z0d ms∧n=ms.length∧c=z0a z0b ds∧k=ds.length,.ret (Bo true))
 | _=>none
def v5z:List (Nat×List Nat):=[(11,[1,2,3,4,5,11,15,16]),(18,[1,2,3,4,5,11,15])]
def X14:WCx:=Tryz.BW.wcx [(26,R26),(27,R28),(53,R53),(54,R54),(59,R59)] v5z [] [] [(11,1)]
theorem v14 (a c:List AV)(n k:Nat)(i f u z:Int)(Q:CR→Prop):wpF X14 14 [.agg [.vs a n .none,.vs c k .none],I i,I f,I u,I z] Q =
 (cIf (decide ((↑n:Int) > 6)) (True∧Q (ret (Bo true))) (cIf (decide ((↑k:Int) > 10)) (True∧Q (ret (Bo true))) (True∧cIf (!(decide (f < 0) || (decide (u≤f) || (decide (u > 144001440) || decide (u-f≤7200))))) (True∧Q (ret (Bo true))) ((∃ ms,∃ ds,a=z0a z0d ms∧n=ms.length∧c=z0a z0b ds∧k=ds.length∧ms.length≤10000000∧ds.length≤10000000)∧cIf ((tlV (z1f a) (z0j c) i f u).snd != 0) (True∧Q (ret (Bo ((↑(tlV (z1f a) (z0j c) i f u).fst.length:Int) == 0)))) (((∃ ms,∃ ds,a=z0a z0d ms∧n=ms.length∧c=z0a z0b ds∧k=ds.length∧ms.length≤10000000∧ds.length≤10000000)∧∃ xs,z0a x9p (tlV (z1f a) (z0j c) i f u).fst=z0a x9p xs∧(tlV (z1f a) (z0j c) i f u).fst.length=xs.length∧xs.length≤10000000)∧cIf (!(ckV (z1f a) (z0j c) i f u (w8d (z0a x9p (tlV (z1f a) (z0j c) i f u).fst))).fst) (Q (ret (Bo false))) (cIf ((ckV (z1f a) (z0j c) i f u (w8d (z0a x9p (tlV (z1f a) (z0j c) i f u).fst))).snd != 0) (Q (ret (Bo false))) ((∃ x,z0a x9p (tlV (z1f a) (z0j c) i f u).fst=z0a x9p x∧(tlV (z1f a) (z0j c) i f u).fst.length=x.length∧x.length≤1000000)∧cIf (!z0c (z0a x9p) (v2i f u) false (z0a x9p (tlV (z1f a) (z0j c) i f u).fst)) (Q (ret (Bo false))) (cIf (noHL 1 ([X,I i,I f,I u,I z,ptr 0 0,X,X,X,X,X,vs (z0a x9p (tlV (z1f a) (z0j c) i f u).fst) (tlV (z1f a) (z0j c) i f u).fst.length .none,X,X,X,I 0,I f]++replicate 150 X)) (cIf ([some (cells [vs a n .none,vs c k .none] 25)].all (okBlk 1)) (z0l X14 (cd X14.P 14 [1,1,1,1,1,1,1,0,1,0,0]) ([X,I i,I f,I u,I z,ptr 0 0,X,X,X,X,X,vs (z0a x9p (tlV (z1f a) (z0j c) i f u).fst) (tlV (z1f a) (z0j c) i f u).fst.length .none,X,X,X,I 0,I f]++replicate 150 X) (St.mk [some (cells [vs a n .none,vs c k .none] 25)] [] []) (z0g 0 (z0k X14 (cd X14.P 14 [1,1,1,1,1,1,1,1]) (z0q X14 14 Q)))) False) False)))))))):=by kernel_rfl
theorem v5u (a c L:List AV)(n k p j:Nat)(i f u z w:Int)(Q:CR→Prop):wpC X14 (cd PP 14 [1,1,1,1,1,1,1,0,1,0,0]) ([X,I i,I f,I u,I z,.ptr 0 0,X,X,X,X,X,.vs L p .none,X,X,X,I j,I w]++replicate 150 X) ⟨[some (.cells [.vs a n .none,.vs c k .none] 25)],[],[]⟩ (z1i X14 (cd PP 14 [1,1,1,1,1,1,1,0,1,0,0]) (z0g 0 (z0k X14 (cd PP 14 [1,1,1,1,1,1,1,1]) (z0q X14 14 Q)))) =
 (cIf (decide (w < u)) (cIf (decide (IntKind.i64.wrap ((↑j:Int)+1) < (↑p:Int))) (cIf (decide ((0:Int)≤IntKind.i64.wrap ((↑j:Int)+1))) (cIf (decide ((IntKind.i64.wrap ((↑j:Int)+1)).toNat < p)) (cIf (decide (p*3=L.length)) (cIf (decide (0 < (drop ((IntKind.i64.wrap ((↑j:Int)+1)).toNat*3) L).length)) (cIf (z0t (ofVal (Value.int IntKind.i64 0)) ((drop ((IntKind.i64.wrap ((↑j:Int)+1)).toNat*3) L).getD 0 X)) (cIf (cI (drop ((IntKind.i64.wrap ((↑j:Int)+1)).toNat*3) L) 0 == w) ((∃ ms,∃ ds,a=z0a z0d ms∧n=ms.length∧c=z0a z0b ds∧k=ds.length∧ms.length≤10000000∧ds.length≤10000000)∧cIf (z0c (z0a z0d) (fun ms=>z0c (z0a z0b) (fun ds=>(atV ms ds i w).snd) 0 c) 0 a != 0) (Q (ret (Bo false))) (cIf (decide ((0:Int)≤IntKind.i64.wrap ((↑j:Int)+1))) (cIf (decide ((IntKind.i64.wrap ((↑j:Int)+1)).toNat < p)) (cIf (decide (p*3=L.length)) (cIf (decide (2≤(drop 1 (drop ((IntKind.i64.wrap ((↑j:Int)+1)).toNat*3) L)).length)) (cIf (like [I 0,Bo false] (el (drop 1 (drop ((IntKind.i64.wrap ((↑j:Int)+1)).toNat*3) L)) 0 2)) (cIf (!(z0c (z0a z0d) (fun ms=>z0c (z0a z0b) (fun ds=>(atV ms ds i w).fst.fl) 0 c) 0 a == cI (el (drop 1 (drop ((IntKind.i64.wrap ((↑j:Int)+1)).toNat*3) L)) 0 2) 0 && (z0c (z0a z0d) (fun ms=>z0c (z0a z0b) (fun ds=>(atV ms ds i w).fst.ho) false c) false a == cB (el (drop 1 (drop ((IntKind.i64.wrap ((↑j:Int)+1)).toNat*3) L)) 0 2) 1 && true))) (Q (ret (Bo false))) (cIf (noHL 1 ([X,I i,I f,I u,I z,ptr 0 0,X,X,X,X,X,vs L p .none,X,X,X,I (IntKind.i64.wrap ((↑j:Int)+1)),I (IntKind.i64.wrap (w+1))]++replicate 150 X)) (cIf ([some (cells [vs a n .none,vs c k .none] 25)].all (okBlk 1)) (z0l X14 (cd PP 14 [1,1,1,1,1,1,1,0,1,0,0]) ([X,I i,I f,I u,I z,ptr 0 0,X,X,X,X,X,vs L p .none,X,X,X,I (IntKind.i64.wrap ((↑j:Int)+1)),I (IntKind.i64.wrap (w+1))]++replicate 150 X) (St.mk [some (cells [vs a n .none,vs c k .none] 25)] [] []) (z0g 0 (z0k X14 (cd PP 14 [1,1,1,1,1,1,1,1]) (z0q X14 14 Q)))) False) False)) False) False) False) False) False)) ((∃ ms,∃ ds,a=z0a z0d ms∧n=ms.length∧c=z0a z0b ds∧k=ds.length∧ms.length≤10000000∧ds.length≤10000000)∧cIf (z0c (z0a z0d) (fun ms=>z0c (z0a z0b) (fun ds=>(atV ms ds i w).snd) 0 c) 0 a != 0) (Q (ret (Bo false))) (cIf (decide (j < p)) (cIf (decide (p*3=L.length)) (cIf (decide (2≤(drop 1 (drop (j*3) L)).length)) (cIf (like [I 0,Bo false] (el (drop 1 (drop (j*3) L)) 0 2)) (cIf (!(z0c (z0a z0d) (fun ms=>z0c (z0a z0b) (fun ds=>(atV ms ds i w).fst.fl) 0 c) 0 a == cI (el (drop 1 (drop (j*3) L)) 0 2) 0 && (z0c (z0a z0d) (fun ms=>z0c (z0a z0b) (fun ds=>(atV ms ds i w).fst.ho) false c) false a == cB (el (drop 1 (drop (j*3) L)) 0 2) 1 && true))) (Q (ret (Bo false))) (cIf (noHL 1 ([X,I i,I f,I u,I z,ptr 0 0,X,X,X,X,X,vs L p .none,X,X,X,I j,I (IntKind.i64.wrap (w+1))]++replicate 150 X)) (cIf ([some (cells [vs a n .none,vs c k .none] 25)].all (okBlk 1)) (z0l X14 (cd PP 14 [1,1,1,1,1,1,1,0,1,0,0]) ([X,I i,I f,I u,I z,ptr 0 0,X,X,X,X,X,vs L p .none,X,X,X,I j,I (IntKind.i64.wrap (w+1))]++replicate 150 X) (St.mk [some (cells [vs a n .none,vs c k .none] 25)] [] []) (z0g 0 (z0k X14 (cd PP 14 [1,1,1,1,1,1,1,1]) (z0q X14 14 Q)))) False) False)) False) False) False) False))) False) False) False) False) False) ((∃ ms,∃ ds,a=z0a z0d ms∧n=ms.length∧c=z0a z0b ds∧k=ds.length∧ms.length≤10000000∧ds.length≤10000000)∧cIf (z0c (z0a z0d) (fun ms=>z0c (z0a z0b) (fun ds=>(atV ms ds i w).snd) 0 c) 0 a != 0) (Q (ret (Bo false))) (cIf (decide (j < p)) (cIf (decide (p*3=L.length)) (cIf (decide (2≤(drop 1 (drop (j*3) L)).length)) (cIf (like [I 0,Bo false] (el (drop 1 (drop (j*3) L)) 0 2)) (cIf (!(z0c (z0a z0d) (fun ms=>z0c (z0a z0b) (fun ds=>(atV ms ds i w).fst.fl) 0 c) 0 a == cI (el (drop 1 (drop (j*3) L)) 0 2) 0 && (z0c (z0a z0d) (fun ms=>z0c (z0a z0b) (fun ds=>(atV ms ds i w).fst.ho) false c) false a == cB (el (drop 1 (drop (j*3) L)) 0 2) 1 && true))) (Q (ret (Bo false))) (cIf (noHL 1 ([X,I i,I f,I u,I z,ptr 0 0,X,X,X,X,X,vs L p .none,X,X,X,I j,I (IntKind.i64.wrap (w+1))]++replicate 150 X)) (cIf ([some (cells [vs a n .none,vs c k .none] 25)].all (okBlk 1)) (z0l X14 (cd PP 14 [1,1,1,1,1,1,1,0,1,0,0]) ([X,I i,I f,I u,I z,ptr 0 0,X,X,X,X,X,vs L p .none,X,X,X,I j,I (IntKind.i64.wrap (w+1))]++replicate 150 X) (St.mk [some (cells [vs a n .none,vs c k .none] 25)] [] []) (z0g 0 (z0k X14 (cd PP 14 [1,1,1,1,1,1,1,1]) (z0q X14 14 Q)))) False) False)) False) False) False) False))) (cIf (decide (z < 0)) (True∧Q (ret (Bo ((↑j:Int) == IntKind.i64.wrap ((↑p:Int)-1))))) (cIf (decide (z≥(↑p:Int))) (True∧Q (ret (Bo ((↑j:Int) == IntKind.i64.wrap ((↑p:Int)-1))))) (cIf (decide ((0:Int)≤z)) (cIf (decide (z.toNat≤p)) (cIf (decide ((List.take ((z.toNat-0)*3) L).length=(z.toNat-0)*3)) (cIf ((List.take ((z.toNat-0)*3) L).all AV.one) (cIf (decide ((0+(z.toNat-0))*24≤140737488355328)) (cIf (decide (0+(z.toNat-0)≤140737488355328)) (cIf (decide (z.toNat-0=0)) (cIf (decide ((0:Int)≤IntKind.i64.wrap (z+1))) (cIf (decide ((IntKind.i64.wrap (z+1)).toNat≤p)) (cIf (decide (p≤p)) (cIf (decide ((List.take ((p-(IntKind.i64.wrap (z+1)).toNat)*3) (drop ((IntKind.i64.wrap (z+1)).toNat*3) L)).length=(p-(IntKind.i64.wrap (z+1)).toNat)*3)) (cIf ((List.take ((p-(IntKind.i64.wrap (z+1)).toNat)*3) (drop ((IntKind.i64.wrap (z+1)).toNat*3) L)).all AV.one) (cIf (decide ((0+(p-(IntKind.i64.wrap (z+1)).toNat))*24≤140737488355328)) (cIf (decide (0+(p-(IntKind.i64.wrap (z+1)).toNat)≤140737488355328)) (cIf (decide (p-(IntKind.i64.wrap (z+1)).toNat=0)) (((∃ ms,∃ ds,a=z0a z0d ms∧n=ms.length∧c=z0a z0b ds∧k=ds.length∧ms.length≤10000000∧ds.length≤10000000)∧∃ xs,[]=z0a x9p xs∧0=xs.length∧xs.length≤10000000)∧True∧cIf ((↑j:Int) == IntKind.i64.wrap ((↑p:Int)-1)) (cIf (!(ckV (z1f a) (z0j c) i f u (w8d [])).fst) (Q (ret (Bo ((ckV (z1f a) (z0j c) i f u (w8d [])).snd == 0)))) (Q (ret (Bo false)))) (Q (ret (Bo false)))) (((∃ ms,∃ ds,a=z0a z0d ms∧n=ms.length∧c=z0a z0b ds∧k=ds.length∧ms.length≤10000000∧ds.length≤10000000)∧∃ xs,List.take ((p-(IntKind.i64.wrap (z+1)).toNat)*3) (drop ((IntKind.i64.wrap (z+1)).toNat*3) L)=z0a x9p xs∧p-(IntKind.i64.wrap (z+1)).toNat=xs.length∧xs.length≤10000000)∧True∧cIf ((↑j:Int) == IntKind.i64.wrap ((↑p:Int)-1)) (cIf (!(ckV (z1f a) (z0j c) i f u (w8d (List.take ((p-(IntKind.i64.wrap (z+1)).toNat)*3) (drop ((IntKind.i64.wrap (z+1)).toNat*3) L)))).fst) (Q (ret (AV.bool ((ckV (z1f a) (z0j c) i f u (w8d (List.take ((p-(IntKind.i64.wrap (z+1)).toNat)*3) (drop ((IntKind.i64.wrap (z+1)).toNat*3) L)))).snd == 0)))) (Q (ret (Bo false)))) (Q (ret (Bo false))))) False) False) False) False) False) False) False) (cIf (decide ((0:Int)≤IntKind.i64.wrap (z+1))) (cIf (decide ((IntKind.i64.wrap (z+1)).toNat≤p)) (cIf (decide (p≤p)) (cIf (decide ((List.take ((p-(IntKind.i64.wrap (z+1)).toNat)*3) (drop ((IntKind.i64.wrap (z+1)).toNat*3) L)).length=(p-(IntKind.i64.wrap (z+1)).toNat)*3)) (cIf ((List.take ((p-(IntKind.i64.wrap (z+1)).toNat)*3) (drop ((IntKind.i64.wrap (z+1)).toNat*3) L)).all AV.one) (cIf (decide ((z.toNat-0+(p-(IntKind.i64.wrap (z+1)).toNat))*24≤140737488355328)) (cIf (decide (z.toNat-0+(p-(IntKind.i64.wrap (z+1)).toNat)≤140737488355328)) (cIf (decide ((List.take ((z.toNat-0)*3) L).length=(z.toNat-0)*3)) (cIf (decide (p-(IntKind.i64.wrap (z+1)).toNat=0)) (((∃ ms,∃ ds,a=z0a z0d ms∧n=ms.length∧c=z0a z0b ds∧k=ds.length∧ms.length≤10000000∧ds.length≤10000000)∧∃ xs,List.take ((z.toNat-0)*3) L=z0a x9p xs∧z.toNat-0=xs.length∧xs.length≤10000000)∧True∧cIf ((↑j:Int) == IntKind.i64.wrap ((↑p:Int)-1)) (cIf (!(ckV (z1f a) (z0j c) i f u (w8d (List.take ((z.toNat-0)*3) L))).fst) (Q (ret (Bo ((ckV (z1f a) (z0j c) i f u (w8d (List.take ((z.toNat-0)*3) L))).snd == 0)))) (Q (ret (Bo false)))) (Q (ret (Bo false)))) (cIf (decide ([(z.toNat-0,3,77)][0]?=some (z.toNat-0,3,77))) (((∃ ms,∃ ds,a=z0a z0d ms∧n=ms.length∧c=z0a z0b ds∧k=ds.length∧ms.length≤10000000∧ds.length≤10000000)∧∃ xs,List.take ((z.toNat-0)*3) L++List.take ((p-(IntKind.i64.wrap (z+1)).toNat)*3) (drop ((IntKind.i64.wrap (z+1)).toNat*3) L)=z0a x9p xs∧z.toNat-0+(p-(IntKind.i64.wrap (z+1)).toNat)=xs.length∧xs.length≤10000000)∧True∧cIf ((↑j:Int) == IntKind.i64.wrap ((↑p:Int)-1)) (cIf (!(ckV (z1f a) (z0j c) i f u (w8d (List.take ((z.toNat-0)*3) L++List.take ((p-(IntKind.i64.wrap (z+1)).toNat)*3) (drop ((IntKind.i64.wrap (z+1)).toNat*3) L)))).fst) (Q (ret (AV.bool ((ckV (z1f a) (z0j c) i f u (w8d (List.take ((z.toNat-0)*3) L++List.take ((p-(IntKind.i64.wrap (z+1)).toNat)*3) (drop ((IntKind.i64.wrap (z+1)).toNat*3) L)))).snd == 0)))) (Q (ret (Bo false)))) (Q (ret (Bo false)))) False)) False) False) False) False) False) False) False) False)) False) False) False) False) False) False)))):=by kernel_rfl
end Go.Proofs
namespace Go.Proofs
open Go Go.Ev
attribute [local irreducible] wpF wpC cd
theorem v4s:Cts Tryz.BW [(26,R26),(27,R28),(53,R53),(54,R54),(59,R59)]:=(((((Cts.nil Tryz.BW).cons v6n).cons v4i).cons v4j).cons w20).cons w21
theorem dT1 {L:List Trn}{k:Nat}{y:Trn}(h:L[k]?=some y):drop 1 (drop (k*3) (z0a x9p L))=I y.fl::Bo y.ho::z0a x9p (L.drop (k+1)):=by
 have hk:k < L.length:=(List.getElem?_eq_some_iff.1 h).1
 obtain ⟨x,hx,hdr⟩:=z06 hk
 rw[h]at hx
 obtain rfl:=Option.some.inj hx
 have e:L=L.take k++y::L.drop (k+1):=by rw[← hdr,List.take_append_drop]
 have e2:drop (k*3) (z0a x9p L)=x9p y++z0a x9p (L.drop (k+1)):=by
  have hl:(z0a x9p (L.take k)).length=k*3:=by rw[eT.lenL,List.length_take_of_le (by omega)]
  conv=>lhs;rw[e]
  rw[y86,List.drop_append_of_le_length (by omega),List.drop_of_length_le (by omega)]
  rfl
 rw[e2]
 rfl
theorem cutT {L:List Trn}(k:Nat):z0a x9p L=z0a x9p (L.take k)++z0a x9p (L.drop k):=by rw[← y86,List.take_append_drop]
theorem v6j {L:List Trn}{k:Nat}(hk:k≤L.length):drop (k*3) (z0a x9p L)=z0a x9p (L.drop k):=by
 have hl:(z0a x9p (L.take k)).length=k*3:=by rw[eT.lenL,List.length_take_of_le hk]
 rw[cutT k,List.drop_append_of_le_length (by omega),List.drop_of_length_le (by omega),List.nil_append]
theorem v6i {L:List Trn}{k:Nat}(hk:k≤L.length):List.take (k*3) (z0a x9p L)=z0a x9p (L.take k):=by
 have hl:(z0a x9p (L.take k)).length=k*3:=by rw[eT.lenL,List.length_take_of_le hk]
 rw[cutT k,List.take_append_of_le_length (by omega),List.take_of_length_le (by omega)]
section
variable {ms:List Mst}{ds:List Dcr}{i f u z:Int}(hm:ms.length≤6)(hk:ds.length≤10)(h1:(z0f ms ds i 0).2=0)(hf:0≤f)(hfu:f < u)(hu:u≤144001440)(hl:(tB ds (z0f ms ds i 0).1 f u).length≤100000)
include hm hk h1 hf hfu hu hl
theorem v6p {w:Int}(hw1:0≤w)(hw2:w≤144001439):atV ms ds i w=(SV ds (z0f ms ds i 0).1 w,0):=w36 h1 hw1 hw2
theorem v5w:([some (cells [.vs (z0a z0d ms) ms.length .none,.vs (z0a z0b ds) ds.length .none] 25)]:List (Option HB)).all (okBlk 1)=true:=by
 simp[okBlk,noHB,noHL,noH,eM.noHL',eD.noHL']
theorem v6o {xs:List Trn}(hx:xs.length+1=(tB ds (z0f ms ds i 0).1 f u).length):ckV ms ds i f u xs=(false,0):=by
 have hr:w7t f u=true:=by unfold w7t;rw[dt hf,dt hfu,dt hu];rfl
 unfold ckV
 rw[if_neg (fun q=>q h1),if_neg (by simp[hr]),← w9t hfu,df (fun q=>by rw[q]at hx;omega)]
theorem v5x (Q:CR→Prop)(hQ:Q (.ret (Bo true))):∀ (d:Nat) (w:Int) (j:Nat),(u-w).toNat=d→f≤w→w≤u→j+1=(tB ds (z0f ms ds i 0).1 f w).length →
  z0l X14 (cd PP 14 [1,1,1,1,1,1,1,0,1,0,0]) ([X,I i,I f,I u,I z,.ptr 0 0,X,X,X,X,X,.vs (z0a x9p (tB ds (z0f ms ds i 0).1 f u)) (tB ds (z0f ms ds i 0).1 f u).length .none,X,X,X,I j,I w]++replicate 150 X) ⟨[some (.cells [.vs (z0a z0d ms) ms.length .none,.vs (z0a z0b ds) ds.length .none] 25)],[],[]⟩ (z0g 0 (z0k X14 (cd PP 14 [1,1,1,1,1,1,1,1]) (z0q X14 14 Q))):=by
 have hp:∃ ms' ds',z0a z0d ms=z0a z0d ms'∧ms.length=ms'.length∧z0a z0b ds=z0a z0b ds'∧ds.length=ds'.length∧ms'.length≤10000000∧ds'.length≤10000000:=⟨ms,ds,rfl,rfl,rfl,rfl,by omega,by omega⟩
 intro d
 induction d with
 | zero =>
  intro w j hd hw1 hw2 hj
  have hwu:w=u:=by omega
  subst hwu
  refine z0y Tryz.bwok v4s ((v5u _ _ _ _ _ _ j i f w z w Q).mpr (z02 (df (by omega)) ?_))
  have w1:IntKind.i64.wrap (((tB ds (z0f ms ds i 0).1 f w).length:Int)-1)=(j:Int):=by rw[z1c (by omega) (by omega)];omega
  have hb:((j:Int) == (j:Int))=true:=beq_self_eq_true _
  rw[w1,hb]
  refine z0i (fun _=>⟨trivial,hQ⟩) (fun c1=>z0i (fun _=>⟨trivial,hQ⟩) (fun c2=>?_))
  have c1:=of_decide_eq_false c1
  have c2:=of_decide_eq_false c2
  obtain ⟨zn,rfl⟩:=Int.eq_ofNat_of_zero_le (show 0≤z by omega)
  have hck:∀ xs:List Trn,xs.length+1=(tB ds (z0f ms ds i 0).1 f w).length→ckV ms ds i f w xs=(false,0):=fun xs hx=>v6o hm hk h1 hf hfu hu hl hx
  generalize tB ds (z0f ms ds i 0).1 f w=L at hl c2 hck ⊢
  have hzl:zn < L.length:=by omega
  have wz:IntKind.i64.wrap ((zn:Int)+1)=((zn+1:Nat):Int):=z1c (by omega) (by omega)
  have l1:(L.take zn).length=zn:=List.length_take_of_le (by omega)
  have l2:(L.drop (zn+1)).length=L.length-(zn+1):=List.length_drop
  have l3:(z0a x9p (L.take zn)).length=zn*3:=by rw[eT.lenL,l1]
  have l5:(z0a x9p (L.drop (zn+1))).length=(L.length-(zn+1))*3:=by rw[eT.lenL,l2]
  have t1:List.take (zn*3) (z0a x9p L)=z0a x9p (L.take zn):=v6i (by omega)
  have t2:List.take ((L.length-(zn+1))*3) (drop ((zn+1)*3) (z0a x9p L))=z0a x9p (L.drop (zn+1)):=by
   rw[v6j (by omega),List.take_of_length_le (by rw[l5];exact Nat.le_refl _)]
  have hz0:(0:Int)≤((zn:Nat):Int):=Int.natCast_nonneg _
  have hz1:(0:Int)≤((zn+1:Nat):Int):=Int.natCast_nonneg _
  have ee:∀ a b:List Trn,z0a x9p a++z0a x9p b=z0a x9p (a++b):=fun a b=>(y86 _ _ _).symm
  simp only[wz,Int.toNat_natCast,Nat.sub_zero,Nat.zero_add,t1,t2,ee,dt hz0,dt hz1,z0x,z6p,z1m,w8k]
  have fin:∀ xs:List Trn,xs.length+1=L.length→cIf (!(ckV ms ds i f w xs).1) (Q (.ret (Bo ((ckV ms ds i f w xs).2 == 0)))) (Q (.ret (Bo false))):=fun xs hx=>by
   rw[hck xs hx]
   exact z0h rfl hQ
  have ls:(L.take zn++L.drop (zn+1)).length+1=L.length:=by rw[List.length_append,l1,l2];omega
  rw[dt (show zn≤L.length by omega),dt l3,eT.oneL,dt (show zn*24≤140737488355328 by omega),dt (show zn≤140737488355328 by omega)]
  refine z0h rfl (z0h rfl (z0h rfl (z0h rfl (z0h rfl (z0i (fun q=>?_) (fun q=>?_))))))
  ·have q:=of_decide_eq_true q
   refine z0h (dt (by omega)) (z0h (dt (Nat.le_refl _)) (z0h (dt l5) (z0h (eT.oneL _) (z0h (dt (by omega)) (z0h (dt (by omega)) (z0i (fun q2=>⟨⟨hp,[],rfl,rfl,by simp⟩,trivial,?_⟩) (fun q2=>⟨⟨hp,L.drop (zn+1),rfl,l2.symm,by omega⟩,trivial,fin _ (by omega)⟩)))))))
   have q2:=of_decide_eq_true q2
   rw[show w8d []=[] from w8k []]
   exact fin [] (by simp;omega)
  ·have q:=of_decide_eq_false q
   have la:(L.take zn++L.drop (zn+1)).length=zn+(L.length-(zn+1)):=by rw[List.length_append,l1,l2]
   exact z0h (dt (by omega)) (z0h (dt (Nat.le_refl _)) (z0h (dt l5) (z0h (eT.oneL _) (z0h (dt (by omega)) (z0h (dt (by omega)) (z0h rfl (z0i (fun q2=>⟨⟨hp,L.take zn,rfl,l1.symm,by omega⟩,trivial,fin _ (by have q2:=of_decide_eq_true q2;omega)⟩) (fun q2=>z0h (dt rfl) ⟨⟨hp,L.take zn++L.drop (zn+1),rfl,la.symm,by omega⟩,trivial,fin _ ls⟩))))))))
 | succ d ih =>
  intro w j hd hw1 hw2 hj
  have hwu:w < u:=by omega
  have w1:IntKind.i64.wrap ((j:Int)+1)=((j+1:Nat):Int):=z1c (by omega) (by
   obtain ⟨R,r1,-⟩:=v4o ds (z0f ms ds i 0).1 hw1 hw2 hfu
   have:=congrArg List.length r1
   simp at this
   omega)
  have w2:IntKind.i64.wrap (w+1)=w+1:=z1c (by omega) (by omega)
  have hat:=v6p hm hk h1 hf hfu hu hl (w:=w) (by omega) (by omega)
  have g3:decide ((tB ds (z0f ms ds i 0).1 f u).length*3=(z0a x9p (tB ds (z0f ms ds i 0).1 f u)).length)=true:=dt (by rw[eT.lenL])
  have hz0:∀ a:Nat,(0:Int)≤((a:Nat):Int):=Int.natCast_nonneg
  have fin:∀ j',j' + 1=(tB ds (z0f ms ds i 0).1 f (w+1)).length→∀ y:Trn,(⟨y.fl,y.ho⟩:Sho)=SV ds (z0f ms ds i 0).1 w→cIf (!((SV ds (z0f ms ds i 0).1 w).fl == y.fl && ((SV ds (z0f ms ds i 0).1 w).ho == y.ho && true))) (Q (.ret (Bo false))) (cIf (noHL 1 ([X,I i,I f,I u,I z,.ptr 0 0,X,X,X,X,X,.vs (z0a x9p (tB ds (z0f ms ds i 0).1 f u)) (tB ds (z0f ms ds i 0).1 f u).length .none,X,X,X,I (j':Nat),I (w+1)]++replicate 150 X)) (cIf (([some (cells [.vs (z0a z0d ms) ms.length .none,.vs (z0a z0b ds) ds.length .none] 25)]:List (Option HB)).all (okBlk 1)) (z0l X14 (cd PP 14 [1,1,1,1,1,1,1,0,1,0,0]) ([X,I i,I f,I u,I z,.ptr 0 0,X,X,X,X,X,.vs (z0a x9p (tB ds (z0f ms ds i 0).1 f u)) (tB ds (z0f ms ds i 0).1 f u).length .none,X,X,X,I (j':Nat),I (w+1)]++replicate 150 X) ⟨[some (.cells [.vs (z0a z0d ms) ms.length .none,.vs (z0a z0b ds) ds.length .none] 25)],[],[]⟩ (z0g 0 (z0k X14 (cd PP 14 [1,1,1,1,1,1,1,1]) (z0q X14 14 Q)))) False) False):=fun j' hj' y hy=>by
   have e:=v0o (x:=SV ds (z0f ms ds i 0).1 w) (y:=⟨y.fl,y.ho⟩)
   refine z02 ?_ (z0h ?_ (z0h (v5w hm hk h1 hf hfu hu hl) (ih (w+1) j' (by omega) (by omega) (by omega) hj')))
   ·rw[show ((SV ds (z0f ms ds i 0).1 w).fl == y.fl && ((SV ds (z0f ms ds i 0).1 w).ho == y.ho && true))=decide (SV ds (z0f ms ds i 0).1 w=⟨y.fl,y.ho⟩) from e,dt hy.symm]
    rfl
   ·simp[z00,noHL,noH,eT.noHL',z1r]
  refine z0y Tryz.bwok v4s ((v5u _ _ _ _ _ _ j i f u z w Q).mpr (z0h (dt hwu) ?_))
  rw[w1,w2]
  simp only[eM.on (show 0 < 2 by decide),eD.on (show 0 < 9 by decide),hat,g3,z0x,Int.toNat_natCast,dt (hz0 _)]
  rcases v4v ds (z0f ms ds i 0).1 hfu hw1 hwu hj with ⟨⟨y,hy,hyw⟩,hj2⟩ | ⟨hy,hj2⟩
  ·have hlt:j+1 < (tB ds (z0f ms ds i 0).1 f u).length:=(List.getElem?_eq_some_iff.1 hy).1
   have hlI:((j+1:Nat):Int) < ((tB ds (z0f ms ds i 0).1 f u).length:Nat):=by omega
   obtain ⟨y2,hy2,hs2⟩:=v4p ds (z0f ms ds i 0).1 hfu hw1 hwu (j:=j+1) (by omega)
   rw[hy]at hy2
   obtain rfl:=Option.some.inj hy2
   have hyb:(y.at' == w)=true:=by rw[hyw];exact beq_self_eq_true _
   simp only[dt hlI,dt hlt,eT.gl,eT.gd hlt,eT.g0 hlt (by decide),eT.el hy,eT.ld0 hy (by decide),w8x,eT.cI0 hy (by decide),w9a,w95,eT.gf hlt 1 (by decide),eT.ld hy 1 (by decide),eT.cI hy 1 (by decide),w89,w94,eT.gf hlt 2 (by decide),eT.ld hy 2 (by decide),eT.cB hy 2 (by decide),w88,w93,eT.gfn hlt 1 2 (by decide),w9b hy,w8y,w98,w97,z0x,hyb,dT1 hy]
   refine ⟨hp,z02 rfl (z0h (dt (by simp)) (z0h rfl ?_))⟩
   exact fin (j+1) (by omega) y hs2
  ·obtain ⟨y2,hy2,hs2⟩:=v4p ds (z0f ms ds i 0).1 hfu hw1 hwu (j:=j) hj2
   have hlt2:j < (tB ds (z0f ms ds i 0).1 f u).length:=(List.getElem?_eq_some_iff.1 hy2).1
   have tail:∃ ms' ds',z0a z0d ms=z0a z0d ms'∧ms.length=ms'.length∧z0a z0b ds=z0a z0b ds'∧ds.length=ds'.length∧ms'.length≤10000000∧ds'.length≤10000000:=hp
   refine z0i (fun c=>?_) (fun c=>?_)
   ·have c:=of_decide_eq_true c
    have hlt:j+1 < (tB ds (z0f ms ds i 0).1 f u).length:=by omega
    obtain ⟨y,hyy,-⟩:=z06 hlt
    have hyb:(y.at' == w)=false:=by
     rw[← Bool.not_eq_true,beq_iff_eq]
     exact hy y hyy
    simp only[dt hlt,eT.gl,eT.gd hlt,eT.g0 hlt (by decide),eT.el hyy,eT.ld0 hyy (by decide),w8x,eT.cI0 hyy (by decide),w9a,w95,eT.gf hlt 1 (by decide),eT.ld hyy 1 (by decide),eT.cI hyy 1 (by decide),w89,w94,eT.gf hlt 2 (by decide),eT.ld hyy 2 (by decide),eT.cB hyy 2 (by decide),w88,w93,eT.gfn hlt 1 2 (by decide),w9b hyy,w8y,w98,w97,z0x,hyb,dt hlt2,dT1 hy2]
    refine z02 rfl ⟨hp,z02 rfl (z0h (dt (by simp)) (z0h rfl ?_))⟩
    exact fin j hj2 y2 hs2
   ·simp only[dt hlt2,z0x,dT1 hy2]
    refine ⟨hp,z02 rfl (z0h (dt (by simp)) (z0h rfl ?_))⟩
    exact fin j hj2 y2 hs2
end
theorem ct14:Ct qB.c0 14 R14:=Ct.of_wp (B:=Tryz.BW) (l:=[(26,R26),(27,R28),(53,R53),(54,R54),(59,R59)]) (lm:=v5z) (tp:=[]) (ct:=[]) (sm:=[(11,1)]) Tryz.bwok v4s ⟨_,_,Tryz.func14,rfl⟩ fun args D r hR hD=>by
 unfold R14 at hR
 split at hR<;>cases hR
 rename_i a n c k i f u z
 obtain ⟨ms,ds,rfl,rfl,rfl,rfl⟩:=hD
 refine ⟨by simp[noHL,noH,eM.noHL',eD.noHL'],?_⟩
 rw[show z0e 0 [agg [vs (z0a z0d ms) ms.length .none,vs (z0a z0b ds) ds.length .none],I i,I f,I u,I z]=[agg [vs (z0a z0d ms) ms.length .none,vs (z0a z0b ds) ds.length .none],I i,I f,I u,I z] by simp[z0e,scrub,eM.scL,eD.scL,Tok.scrub]]
 have key:∀ Q:CR→Prop,Q (.ret (Bo true))→wpF X14 14 [.agg [.vs (z0a z0d ms) ms.length .none,.vs (z0a z0b ds) ds.length .none],I i,I f,I u,I z] Q:=?_
 ·exact key _ rfl
 intro Q hQ
 rw[v14]
 simp only[z6p,z1m,w8k]
 refine z0i (fun _=>⟨trivial,hQ⟩) (fun a1=>z0i (fun _=>⟨trivial,hQ⟩) (fun a2=>⟨trivial,z0i (fun _=>⟨trivial,hQ⟩) (fun a3=>?_)⟩))
 have a1:=of_decide_eq_false a1
 have a2:=of_decide_eq_false a2
 have hp:∃ ms' ds',z0a z0d ms=z0a z0d ms'∧ms.length=ms'.length∧z0a z0b ds=z0a z0b ds'∧ds.length=ds'.length∧ms'.length≤10000000∧ds'.length≤10000000:=⟨ms,ds,rfl,rfl,rfl,rfl,by omega,by omega⟩
 have htl:=v0m ms ds i f u
 refine ⟨hp,z0i (fun h=>⟨trivial,?_⟩) (fun h=>?_)⟩
 ·have h:(tlV ms ds i f u).2≠0:=by simpa using h
  have e:(tlV ms ds i f u).1=[]:=by
   unfold tlV at h ⊢
   split
   ·rfl
   ·split
    ·rfl
    ·split
     ·rfl
     ·rename_i q1 q2 q3
      rw[if_neg q1,if_neg q2,if_neg q3]at h
      exact absurd rfl h
  rw[e]
  exact hQ
 ·have h:(tlV ms ds i f u).2=0:=by simpa using h
  have h1:(z0f ms ds i 0).2=0:=Decidable.byContradiction fun q=>by
   unfold tlV at h
   rw[if_pos q]at h
   exact q h
  have h2:w7t f u=true:=by
   cases hb:w7t f u with
   | true=>rfl
   | false =>
    unfold tlV at h
    rw[if_neg (fun q=>q h1),if_pos hb]at h
    cases h
  have hr:=h2
  unfold w7t at hr
  simp only[Bool.and_eq_true,decide_eq_true_eq]at hr
  obtain ⟨⟨hf,hfu⟩,hu⟩:=hr
  have e:(tlV ms ds i f u).1=tB ds (z0f ms ds i 0).1 f u:=by
   rw[w9t hfu]
   unfold tlV at h ⊢
   rw[if_neg (fun q=>q h1),if_neg (by simp[h2])]at h ⊢
   split
   ·rename_i q
    rw[if_pos q]at h
    cases h
   ·rfl
  rw[e]at htl ⊢
  have hck:ckV ms ds i f u (tB ds (z0f ms ds i 0).1 f u)=(true,0):=by
   unfold ckV
   rw[if_neg (fun q=>q h1),if_neg (by simp[h2]),w9t hfu,dt rfl]
  rw[hck]
  have hch:=v5b (ds:=ds) (m:=(z0f ms ds i 0).1) hf hfu hu
  refine ⟨⟨hp,_,rfl,rfl,by omega⟩,z02 rfl (z02 rfl ⟨⟨_,rfl,rfl,by omega⟩,z02 (by rw[eT.on (by decide),hch];rfl) (z0h ?_ (z0h ?_ ?_))⟩)⟩
  ·simp[z00,noHL,noH,eT.noHL',z1r]
  ·exact v5w (ms:=ms) (ds:=ds) (by omega) (by omega) h1 hf hfu hu htl
  ·exact v5x (by omega) (by omega) h1 hf hfu hu htl Q hQ _ f 0 rfl (Int.le_refl _) (by omega) (v6m _ _ _).symm
end Go.Proofs
