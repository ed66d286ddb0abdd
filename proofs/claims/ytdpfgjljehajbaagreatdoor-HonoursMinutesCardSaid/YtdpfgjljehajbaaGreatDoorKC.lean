/- Contracts of functions of the program and of the reference. -/
import Derived.Test.YtdpfgjljehajbaaGreatDoorKB
set_option linter.unusedVariables false
set_option linter.unusedSimpArgs false
set_option maxRecDepth 100000
open Go.Ev.AV (vs ptr agg tup vp mp ofVal raw)
open Go.Ev.HB (cells map)
open Go.Ev.CR (ret)
open Go.IntKind (i64)
open List (drop replicate)
noncomputable section
--BASE BM2
namespace Go.Proofs
open Go Go.Ev
def z74 (cs:List AV)(es:List (AV×AV)):Prop:=match cs with
 | [_,.vs c _ _,.int _ id,.int _ zo,_]=>MapOk (z0j c) ⟨id,zo⟩ es
 | _=>False
def r91 (day:Int)(cs:List AV):CR:=match cs with
 | [_,.vs c _ _,.int _ id,.int _ zo,_]=>.ret (.vs (z0a z04 (z0o (z0j c) ⟨id,zo⟩ day)) (z0o (z0j c) ⟨id,zo⟩ day).length .none)
 | _=>.ret .bad
def E91 (day:Int)(cs:List AV)(es:List (AV×AV)):List (AV×AV):=y6g qB.c0 185 91 (z74 cs) [I day] cs es (r91 day cs)
def R91:SpcM:=fun rest cs es=>match rest,cs with
 | [.int .i64 day],[.vs a n .none,.vs c k .none,.int .i64 id,.int .i64 zo,.vs b nb .none]=>some (∃ ms ds,ObjOk a c b n k nb id zo es ms ds,.ret (.vs (z0a z04 (z0o (z0j c) ⟨id,zo⟩ day)) (z0o (z0j c) ⟨id,zo⟩ day).length .none),E91 day [.vs a n .none,.vs c k .none,.int .i64 id,.int .i64 zo,.vs b nb .none] es)
 | _,_=>none
def x8q:List (Nat×List Nat):=[(7,[0,1,5,8,35,36,37]),(13,[0,1,5,8]),(15,[0,1,5,11,60,61,62]),(21,[0,5,11])]
def X91:WCx:=BM2.wcxP 2 [(116,R116),(148,R148),(149,R149)] x8q [] [] [(7,3),(15,2)]
theorem x7w (a c b tl L:List AV)(n k nb tn i p:Nat)(id zo day key:Int)(es:List (AV×AV))(Q:CR→List (Option HB)→Prop):wpC X91 (cd PP 91 [1,1,1,1,1,1,0,1,0,0]) ([.ptr 1 0,I day,X,X,X,I key,X,X,X,X,X,.vs L p (.own 0),X,X,X,X,X,X,X,X,X,X,X,X,X,X,X,X,X,X,X,X,X,X,X,X,X,X,X,X,X,X,X,X,X,X,X,X,X,X,X,X,X,X,X,X,X,X,X,X,.vs tl tn .none,I tn,I i]++replicate 36 X) ⟨[some (.map es),some (.cells [.vs a n .none,.vs c k .none,I id,I zo,.vs b nb .none,.mp 0] 185)],[(p,(5,110))],[]⟩ (z1i X91 (cd PP 91 [1,1,1,1,1,1,0,1,0,0]) (z0g 2 (z0k X91 (cd PP 91 [1,1,1,1,1,1,1]) (z05 X91 91 Q)))) =
 (cIf (decide ((↑i:Int) < (↑tn:Int))) (cIf (decide (i < tn)) (cIf (decide (tn*1=tl.length)) (cIf (decide (0 < (drop (i*1) tl).length)) (cIf (z0t (ofVal (Value.int IntKind.i64 0)) ((drop (i*1) tl).getD 0 X)) (cIf (decide (cI (drop (i*1) tl) 0≥1440)) (cIf (noHL 2 ([ptr 1 0,I day,X,X,X,I key,X,X,X,X,X,vs L p (Tok.own 0),X,X,X,X,X,X,X,X,X,X,X,X,X,X,X,X,X,X,X,X,X,X,X,X,X,X,X,X,X,X,X,X,X,X,X,X,X,X,X,X,X,X,X,X,X,X,X,X,vs tl tn .none,I tn,I (IntKind.i64.wrap ((↑i:Int)+1))]++replicate 36 X)) (cIf ([some (map es),some (cells [vs a n .none,vs c k .none,I id,I zo,vs b nb .none,mp 0] 185)].all (okBlk 2)) (z0l X91 (cd PP 91 [1,1,1,1,1,1,0,1,0,0]) ([ptr 1 0,I day,X,X,X,I key,X,X,X,X,X,vs L p (Tok.own 0),X,X,X,X,X,X,X,X,X,X,X,X,X,X,X,X,X,X,X,X,X,X,X,X,X,X,X,X,X,X,X,X,X,X,X,X,X,X,X,X,X,X,X,X,X,X,X,X,vs tl tn .none,I tn,I (IntKind.i64.wrap ((↑i:Int)+1))]++replicate 36 X) (St.mk [some (map es),some (cells [vs a n .none,vs c k .none,I id,I zo,vs b nb .none,mp 0] 185)] [(p,5,110)] []) (z0g 2 (z0k X91 (cd PP 91 [1,1,1,1,1,1,1]) (z05 X91 91 Q)))) False) False) (cIf (noHL [some (map es),some (cells [vs a n .none,vs c k .none,I id,I zo,vs b nb .none,mp 0] 185)].length ([]++[agg [vs a n .none,vs c k .none],agg [I id,I zo],I day,I (cI (drop (i*1) tl) 0)]++[])) ((∃ ms,∃ ds,a=z0a z0d ms∧n=ms.length∧c=z0a z0b ds∧k=ds.length∧ms.length≤10000000∧ds.length≤10000000)∧St.mk [some (map es),some (cells [vs a n .none,vs c k .none,I id,I zo,vs b nb .none,mp 0] 185)] [(p,5,110)] []=St.mk [some (map es),some (cells [vs a n .none,vs c k .none,I id,I zo,vs b nb .none,mp 0] 185)] [(p,5,110)] []∧cIf (noHL [some (map es),some (cells [vs a n .none,vs c k .none,I id,I zo,vs b nb .none,mp 0] 185),some (cells [I (z0m (z0j c) (Mst.mk id zo) day (cI (drop (i*1) tl) 0) 1 2),I (z0m (z0j c) (Mst.mk id zo) day (cI (drop (i*1) tl) 0) 3 4)] 108)].length ([]++[agg [vs a n .none,vs c k .none],agg [I (z0m (z0j c) (Mst.mk id zo) day (cI (drop (i*1) tl) 0) 1 2),I (z0m (z0j c) (Mst.mk id zo) day (cI (drop (i*1) tl) 0) 3 4)]]++[])) ((∃ ms,∃ ds,a=z0a z0d ms∧n=ms.length∧c=z0a z0b ds∧k=ds.length∧ms.length≤10000000∧ds.length≤10000000∧y1d ds (z0m (z0j c) (Mst.mk id zo) day (cI (drop (i*1) tl) 0) 1 2)∧y1d ds (z0m (z0j c) (Mst.mk id zo) day (cI (drop (i*1) tl) 0) 3 4))∧St.mk [some (map es),some (cells [vs a n .none,vs c k .none,I id,I zo,vs b nb .none,mp 0] 185),some (cells [I (z0m (z0j c) (Mst.mk id zo) day (cI (drop (i*1) tl) 0) 1 2),I (z0m (z0j c) (Mst.mk id zo) day (cI (drop (i*1) tl) 0) 3 4)] 108)] [(p,5,110)] [2]=St.mk [some (map es),some (cells [vs a n .none,vs c k .none,I id,I zo,vs b nb .none,mp 0] 185),some (cells [I (z0m (z0j c) (Mst.mk id zo) day (cI (drop (i*1) tl) 0) 1 2),I (z0m (z0j c) (Mst.mk id zo) day (cI (drop (i*1) tl) 0) 3 4)] 108)] [(p,5,110)] [2]∧cIf (decide ((p+1)*40≤140737488355328)) (cIf (decide (p+1≤140737488355328)) (cIf (decide (L.length=p*5)) (cIf (decide ([(p,5,110)][0]?=some (p,5,110))) (cIf (noHL 2 ([ptr 1 0,I day,X,X,X,I key,X,X,X,X,X,vs (L++[I (cI (drop (i*1) tl) 0),AV.int IntKind.i64 (z4q (z0j c) (z0m (z0j c) (Mst.mk id zo) day (cI (drop (i*1) tl) 0) 1 2) (z0m (z0j c) (Mst.mk id zo) day (cI (drop (i*1) tl) 0) 3 4)).fl,AV.bool (z4q (z0j c) (z0m (z0j c) (Mst.mk id zo) day (cI (drop (i*1) tl) 0) 1 2) (z0m (z0j c) (Mst.mk id zo) day (cI (drop (i*1) tl) 0) 3 4)).ho,I (z0m (z0j c) (Mst.mk id zo) day (cI (drop (i*1) tl) 0) 1 2),I (z0m (z0j c) (Mst.mk id zo) day (cI (drop (i*1) tl) 0) 3 4)]) (p+1) (Tok.own 0),X,X,X,X,X,X,X,X,X,X,X,X,X,X,X,X,X,X,X,X,X,X,X,X,X,X,X,X,X,X,X,X,X,X,X,X,X,X,X,X,X,X,X,X,X,X,X,X,vs tl tn .none,I tn,I (IntKind.i64.wrap ((↑i:Int)+1))]++replicate 36 X)) (cIf ([some (map es),some (cells [vs a n .none,vs c k .none,I id,I zo,vs b nb .none,mp 0] 185)].all (okBlk 2)) (z0l X91 (cd PP 91 [1,1,1,1,1,1,0,1,0,0]) ([ptr 1 0,I day,X,X,X,I key,X,X,X,X,X,vs (L++[I (cI (drop (i*1) tl) 0),AV.int IntKind.i64 (z4q (z0j c) (z0m (z0j c) (Mst.mk id zo) day (cI (drop (i*1) tl) 0) 1 2) (z0m (z0j c) (Mst.mk id zo) day (cI (drop (i*1) tl) 0) 3 4)).fl,AV.bool (z4q (z0j c) (z0m (z0j c) (Mst.mk id zo) day (cI (drop (i*1) tl) 0) 1 2) (z0m (z0j c) (Mst.mk id zo) day (cI (drop (i*1) tl) 0) 3 4)).ho,I (z0m (z0j c) (Mst.mk id zo) day (cI (drop (i*1) tl) 0) 1 2),I (z0m (z0j c) (Mst.mk id zo) day (cI (drop (i*1) tl) 0) 3 4)]) (p+1) (Tok.own 0),X,X,X,X,X,X,X,X,X,X,X,X,X,X,X,X,X,X,X,X,X,X,X,X,X,X,X,X,X,X,X,X,X,X,X,X,X,X,X,X,X,X,X,X,X,X,X,X,vs tl tn .none,I tn,I (IntKind.i64.wrap ((↑i:Int)+1))]++replicate 36 X) (St.mk [some (map es),some (cells [vs a n .none,vs c k .none,I id,I zo,vs b nb .none,mp 0] 185)] [(p+1,5,110)] []) (z0g 2 (z0k X91 (cd PP 91 [1,1,1,1,1,1,1]) (z05 X91 91 Q)))) False) False) False) False) False) False) False) False)) False) False) False) False) (cIf (es.all fun (x:AV×AV)=>z09 (I key) x.fst) (z05 X91 91 Q EX.ret [ptr 1 0,X,X,X,vs L p (Tok.own 0),I key,X,X,X,X,X,vs L p (Tok.own 0),X,X,X,X,X,X,X,X,X,X,X,X,X,X,X,X,X,X,X,X,X,X,X,X,X,X,X,X,X,X,X,X,X,X,X,X,X,X,X,X,X,X,X,X,X,X,X,X,X,X,X,X,X,X,X,X,X,X,X,X,X,X,X,X,X,X,X,X,X,X,X,X,X,X,X,X,X,X,X,X,ptr 1 0,ptr 1 0,ptr 1 5,mp 0,I key,vs L p (Tok.own 0),vs L p (Tok.own 0)] (St.mk [some (map (z08 (I key) (vs L p (Tok.own 0)) es)),some (cells [vs a n .none,vs c k .none,I id,I zo,vs b nb .none,mp 0] 185)] [(p,5,110)] [0])) False)):=by kernel_rfl
theorem v91 (a c b:List AV)(n k nb:Nat)(id zo day:Int)(es:List (AV×AV))(Q:CR→List (Option HB)→Prop):wpS X91 91 [.ptr 1 0,I day] [some (.map es),some (.cells [.vs a n .none,.vs c k .none,I id,I zo,.vs b nb .none,.mp 0] 185)] Q =
 ((∃ ms,∃ ds,ObjOk a c b n k nb id zo es ms ds)∧(185=(185:Nat)∧[vs a n .none,vs c k .none,I id,I zo,vs b nb .none,mp 0]=List.take 5 [vs a n .none,vs c k .none,I id,I zo,vs b nb .none,mp 0]++[mp (nat_lit 0)])∧cIf (es.all fun (x:AV×AV)=>z09 (I (z0z (z0j c) day)) x.fst) (cIf (y6n (I (z0z (z0j c) day)) es) (cIf (z0t (ofVal (Value.slice none 0 0)) (z2w (I (z0z (z0j c) day)) es)) (z05 X91 91 Q EX.ret ([ptr 1 0,I day,X,X,vs (cL [z2w (I (z0z (z0j c) day)) es] 0) (cN [z2w (I (z0z (z0j c) day)) es] 0) (cT [z2w (I (z0z (z0j c) day)) es] 0),I (z0z (z0j c) day),vs (cL [z2w (I (z0z (z0j c) day)) es] 0) (cN [z2w (I (z0z (z0j c) day)) es] 0) (cT [z2w (I (z0z (z0j c) day)) es] 0),Bo true,X,X,X,X,X,X,X,ptr 1 0,I day,I (z0z (z0j c) day),tup [vs (cL [z2w (I (z0z (z0j c) day)) es] 0) (cN [z2w (I (z0z (z0j c) day)) es] 0) (cT [z2w (I (z0z (z0j c) day)) es] 0),Bo true],ptr 1 0,ptr 1 0,ptr 1 5,mp 0,I (z0z (z0j c) day),tup [vs (cL [z2w (I (z0z (z0j c) day)) es] 0) (cN [z2w (I (z0z (z0j c) day)) es] 0) (cT [z2w (I (z0z (z0j c) day)) es] 0),Bo true],vs (cL [z2w (I (z0z (z0j c) day)) es] 0) (cN [z2w (I (z0z (z0j c) day)) es] 0) (cT [z2w (I (z0z (z0j c) day)) es] 0),Bo true,Bo true,vs (cL [z2w (I (z0z (z0j c) day)) es] 0) (cN [z2w (I (z0z (z0j c) day)) es] 0) (cT [z2w (I (z0z (z0j c) day)) es] 0)]++replicate 70 X) (St.mk [some (map es),some (cells [vs a n .none,vs c k .none,I id,I zo,vs b nb .none,mp 0] 185)] [] [1,0])) False) (cIf (noHL 3 ([ptr 1 0,I day,X,X,X,I (z0z (z0j c) day),X,X,mp 2,X,X,X,X,X,X,X,X,X,X,X,X,X,X,X,X,X,X,X,X,X,X,X,X,X,X,vs c k .none,I k,I 0]++replicate 61 X)) (cIf ([some (map es),some (cells [vs a n .none,vs c k .none,I id,I zo,vs b nb .none,mp 0] 185),some (map [(I 0,Bo true)])].all (okBlk 3)) (z0l X91 (cd X91.P 91 [1,1,1,1,0,1,0,0]) ([ptr 1 0,I day,X,X,X,I (z0z (z0j c) day),X,X,mp 2,X,X,X,X,X,X,X,X,X,X,X,X,X,X,X,X,X,X,X,X,X,X,X,X,X,X,vs c k .none,I k,I 0]++replicate 61 X) (St.mk [some (map es),some (cells [vs a n .none,vs c k .none,I id,I zo,vs b nb .none,mp 0] 185),some (map [(I 0,Bo true)])] [] []) (z0g 0 (z0k X91 (cd X91.P 91 [1,1,1,1,1]) (z05 X91 91 Q)))) False) False)) False):=by kernel_rfl
theorem x7x (a c b:List AV)(n k nb i:Nat)(id zo day key:Int)(es ts:List (AV×AV))(Q:CR→List (Option HB)→Prop):wpC X91 (cd PP 91 [1,1,1,1,0,1,0,0]) ([.ptr 1 0,I day,X,X,X,I key,X,X,.mp 2,X,X,X,X,X,X,X,X,X,X,X,X,X,X,X,X,X,X,X,X,X,X,X,X,X,X,.vs c k .none,I k,I i]++replicate 61 X) ⟨[some (.map es),some (.cells [.vs a n .none,.vs c k .none,I id,I zo,.vs b nb .none,.mp 0] 185),some (.map ts)],[],[]⟩ (z1i X91 (cd PP 91 [1,1,1,1,0,1,0,0]) (z0g 0 (z0k X91 (cd PP 91 [1,1,1,1,1]) (z05 X91 91 Q)))) =
 (cIf (decide ((↑i:Int) < (↑k:Int))) (cIf (decide (i < k)) (cIf (decide (k*9=c.length)) (cIf (decide (9≤(drop (i*9) c).length)) (cIf (like [I 0,U 0,I 0,I 0,I 0,I 0,I 0,I 0,I 0] (el (drop (i*9) c) 0 9)) (True∧cIf (y0j (Dcr.mk (cI (el (drop (i*9) c) 0 9) 0) (cI (el (drop (i*9) c) 0 9) 1) (cI (el (drop (i*9) c) 0 9) 2) (cI (el (drop (i*9) c) 0 9) 3) (cI (el (drop (i*9) c) 0 9) 4) (cI (el (drop (i*9) c) 0 9) 5) (cI (el (drop (i*9) c) 0 9) 6) (cI (el (drop (i*9) c) 0 9) 7) (cI (el (drop (i*9) c) 0 9) 8)) (Mst.mk id zo) day) (cIf (ts.all fun (x:AV×AV)=>z09 (I (cI (el (drop (i*9) c) 0 9) 7)) x.fst) (cIf ((z08 (I (cI (el (drop (i*9) c) 0 9) 7)) (Bo true) ts).all fun (x:AV×AV)=>z09 (I (cI (el (drop (i*9) c) 0 9) 8)) x.fst) (cIf (noHL 3 ([ptr 1 0,I day,X,X,X,I key,X,X,mp 2,X,X,X,X,X,X,X,X,X,X,X,X,X,X,X,X,X,X,X,X,X,X,X,X,X,X,vs c k .none,I k,I (IntKind.i64.wrap ((↑i:Int)+1))]++replicate 61 X)) (cIf ([some (map es),some (cells [vs a n .none,vs c k .none,I id,I zo,vs b nb .none,mp 0] 185),some (map (z08 (I (cI (el (drop (i*9) c) 0 9) 8)) (Bo (decide (cI (el (drop (i*9) c) 0 9) 8 < 1440))) (z08 (I (cI (el (drop (i*9) c) 0 9) 7)) (Bo true) ts)))].all (okBlk 3)) (z0l X91 (cd PP 91 [1,1,1,1,0,1,0,0]) ([ptr 1 0,I day,X,X,X,I key,X,X,mp 2,X,X,X,X,X,X,X,X,X,X,X,X,X,X,X,X,X,X,X,X,X,X,X,X,X,X,vs c k .none,I k,I (IntKind.i64.wrap ((↑i:Int)+1))]++replicate 61 X) (St.mk [some (map es),some (cells [vs a n .none,vs c k .none,I id,I zo,vs b nb .none,mp 0] 185),some (map (z08 (I (cI (el (drop (i*9) c) 0 9) 8)) (Bo (decide (cI (el (drop (i*9) c) 0 9) 8 < 1440))) (z08 (I (cI (el (drop (i*9) c) 0 9) 7)) (Bo true) ts)))] [] []) (z0g 0 (z0k X91 (cd PP 91 [1,1,1,1,1]) (z05 X91 91 Q)))) False) False) False) False) (cIf (noHL 3 ([ptr 1 0,I day,X,X,X,I key,X,X,mp 2,X,X,X,X,X,X,X,X,X,X,X,X,X,X,X,X,X,X,X,X,X,X,X,X,X,X,vs c k .none,I k,I (IntKind.i64.wrap ((↑i:Int)+1))]++replicate 61 X)) (cIf ([some (map es),some (cells [vs a n .none,vs c k .none,I id,I zo,vs b nb .none,mp 0] 185),some (map ts)].all (okBlk 3)) (z0l X91 (cd PP 91 [1,1,1,1,0,1,0,0]) ([ptr 1 0,I day,X,X,X,I key,X,X,mp 2,X,X,X,X,X,X,X,X,X,X,X,X,X,X,X,X,X,X,X,X,X,X,X,X,X,X,vs c k .none,I k,I (IntKind.i64.wrap ((↑i:Int)+1))]++replicate 61 X) (St.mk [some (map es),some (cells [vs a n .none,vs c k .none,I id,I zo,vs b nb .none,mp 0] 185),some (map ts)] [] []) (z0g 0 (z0k X91 (cd PP 91 [1,1,1,1,1]) (z05 X91 91 Q)))) False) False)) False) False) False) False) ((∃ ks,z4s ts=some ks∧ks.length≤1000000)∧cIf (noHL 2 ([ptr 1 0,I day,X,X,X,I key,X,X,X,X,X,vs [] 0 Tok.zero,X,X,X,X,X,X,X,X,X,X,X,X,X,X,X,X,X,X,X,X,X,X,X,X,X,X,X,X,X,X,X,X,X,X,X,X,X,X,X,X,X,X,X,X,X,X,X,X,vs (List.map (AV.int IntKind.i64) (z1h (keysOf ts))) (keysOf ts).length .none,I (↑(keysOf ts).length:Int),I 0]++replicate 36 X)) (cIf ([some (map es),some (cells [vs a n .none,vs c k .none,I id,I zo,vs b nb .none,mp 0] 185)].all (okBlk 2)) (z0l X91 (cd PP 91 [1,1,1,1,1,1,0,1,0,0]) ([ptr 1 0,I day,X,X,X,I key,X,X,X,X,X,vs [] 0 Tok.zero,X,X,X,X,X,X,X,X,X,X,X,X,X,X,X,X,X,X,X,X,X,X,X,X,X,X,X,X,X,X,X,X,X,X,X,X,X,X,X,X,X,X,X,X,X,X,X,X,vs (List.map (AV.int IntKind.i64) (z1h (keysOf ts))) (keysOf ts).length .none,I (↑(keysOf ts).length:Int),I 0]++replicate 36 X) (St.mk [some (map es),some (cells [vs a n .none,vs c k .none,I id,I zo,vs b nb .none,mp 0] 185)] [] []) (z0g 2 (z0k X91 (cd PP 91 [1,1,1,1,1,1,1]) (z05 X91 91 Q)))) False) False)):=by kernel_rfl
theorem w0k (a c b tl:List AV)(n k nb tn i:Nat)(id zo day key:Int)(es:List (AV×AV))(Q:CR→List (Option HB)→Prop):wpC X91 (cd PP 91 [1,1,1,1,1,1,0,1,0,0]) ([.ptr 1 0,I day,X,X,X,I key,X,X,X,X,X,.vs [] 0 .zero,X,X,X,X,X,X,X,X,X,X,X,X,X,X,X,X,X,X,X,X,X,X,X,X,X,X,X,X,X,X,X,X,X,X,X,X,X,X,X,X,X,X,X,X,X,X,X,X,.vs tl tn .none,I tn,I i]++replicate 36 X) ⟨[some (.map es),some (.cells [.vs a n .none,.vs c k .none,I id,I zo,.vs b nb .none,.mp 0] 185)],[],[]⟩ (z1i X91 (cd PP 91 [1,1,1,1,1,1,0,1,0,0]) (z0g 2 (z0k X91 (cd PP 91 [1,1,1,1,1,1,1]) (z05 X91 91 Q)))) =
 (cIf (decide ((↑i:Int) < (↑tn:Int))) (cIf (decide (i < tn)) (cIf (decide (tn*1=tl.length)) (cIf (decide (0 < (drop (i*1) tl).length)) (cIf (z0t (ofVal (Value.int IntKind.i64 0)) ((drop (i*1) tl).getD 0 X)) (cIf (decide (cI (drop (i*1) tl) 0≥1440)) (cIf (noHL 2 ([ptr 1 0,I day,X,X,X,I key,X,X,X,X,X,vs [] 0 Tok.zero,X,X,X,X,X,X,X,X,X,X,X,X,X,X,X,X,X,X,X,X,X,X,X,X,X,X,X,X,X,X,X,X,X,X,X,X,X,X,X,X,X,X,X,X,X,X,X,X,vs tl tn .none,I tn,I (IntKind.i64.wrap ((↑i:Int)+1))]++replicate 36 X)) (cIf ([some (map es),some (cells [vs a n .none,vs c k .none,I id,I zo,vs b nb .none,mp 0] 185)].all (okBlk 2)) (z0l X91 (cd PP 91 [1,1,1,1,1,1,0,1,0,0]) ([ptr 1 0,I day,X,X,X,I key,X,X,X,X,X,vs [] 0 Tok.zero,X,X,X,X,X,X,X,X,X,X,X,X,X,X,X,X,X,X,X,X,X,X,X,X,X,X,X,X,X,X,X,X,X,X,X,X,X,X,X,X,X,X,X,X,X,X,X,X,vs tl tn .none,I tn,I (IntKind.i64.wrap ((↑i:Int)+1))]++replicate 36 X) (St.mk [some (map es),some (cells [vs a n .none,vs c k .none,I id,I zo,vs b nb .none,mp 0] 185)] [] []) (z0g 2 (z0k X91 (cd PP 91 [1,1,1,1,1,1,1]) (z05 X91 91 Q)))) False) False) (cIf (noHL [some (map es),some (cells [vs a n .none,vs c k .none,I id,I zo,vs b nb .none,mp 0] 185)].length ([]++[agg [vs a n .none,vs c k .none],agg [I id,I zo],I day,I (cI (drop (i*1) tl) 0)]++[])) ((∃ ms,∃ ds,a=z0a z0d ms∧n=ms.length∧c=z0a z0b ds∧k=ds.length∧ms.length≤10000000∧ds.length≤10000000)∧St.mk [some (map es),some (cells [vs a n .none,vs c k .none,I id,I zo,vs b nb .none,mp 0] 185)] [] []=St.mk [some (map es),some (cells [vs a n .none,vs c k .none,I id,I zo,vs b nb .none,mp 0] 185)] [] []∧cIf (noHL [some (map es),some (cells [vs a n .none,vs c k .none,I id,I zo,vs b nb .none,mp 0] 185),some (cells [I (z0m (z0j c) (Mst.mk id zo) day (cI (drop (i*1) tl) 0) 1 2),I (z0m (z0j c) (Mst.mk id zo) day (cI (drop (i*1) tl) 0) 3 4)] 108)].length ([]++[agg [vs a n .none,vs c k .none],agg [I (z0m (z0j c) (Mst.mk id zo) day (cI (drop (i*1) tl) 0) 1 2),I (z0m (z0j c) (Mst.mk id zo) day (cI (drop (i*1) tl) 0) 3 4)]]++[])) ((∃ ms,∃ ds,a=z0a z0d ms∧n=ms.length∧c=z0a z0b ds∧k=ds.length∧ms.length≤10000000∧ds.length≤10000000∧y1d ds (z0m (z0j c) (Mst.mk id zo) day (cI (drop (i*1) tl) 0) 1 2)∧y1d ds (z0m (z0j c) (Mst.mk id zo) day (cI (drop (i*1) tl) 0) 3 4))∧St.mk [some (map es),some (cells [vs a n .none,vs c k .none,I id,I zo,vs b nb .none,mp 0] 185),some (cells [I (z0m (z0j c) (Mst.mk id zo) day (cI (drop (i*1) tl) 0) 1 2),I (z0m (z0j c) (Mst.mk id zo) day (cI (drop (i*1) tl) 0) 3 4)] 108)] [] [2]=St.mk [some (map es),some (cells [vs a n .none,vs c k .none,I id,I zo,vs b nb .none,mp 0] 185),some (cells [I (z0m (z0j c) (Mst.mk id zo) day (cI (drop (i*1) tl) 0) 1 2),I (z0m (z0j c) (Mst.mk id zo) day (cI (drop (i*1) tl) 0) 3 4)] 108)] [] [2]∧cIf (noHL 2 ([ptr 1 0,I day,X,X,X,I key,X,X,X,X,X,vs [I (cI (drop (i*1) tl) 0),AV.int IntKind.i64 (z4q (z0j c) (z0m (z0j c) (Mst.mk id zo) day (cI (drop (i*1) tl) 0) 1 2) (z0m (z0j c) (Mst.mk id zo) day (cI (drop (i*1) tl) 0) 3 4)).fl,AV.bool (z4q (z0j c) (z0m (z0j c) (Mst.mk id zo) day (cI (drop (i*1) tl) 0) 1 2) (z0m (z0j c) (Mst.mk id zo) day (cI (drop (i*1) tl) 0) 3 4)).ho,I (z0m (z0j c) (Mst.mk id zo) day (cI (drop (i*1) tl) 0) 1 2),I (z0m (z0j c) (Mst.mk id zo) day (cI (drop (i*1) tl) 0) 3 4)] 1 (Tok.own 0),X,X,X,X,X,X,X,X,X,X,X,X,X,X,X,X,X,X,X,X,X,X,X,X,X,X,X,X,X,X,X,X,X,X,X,X,X,X,X,X,X,X,X,X,X,X,X,X,vs tl tn .none,I tn,I (IntKind.i64.wrap ((↑i:Int)+1))]++replicate 36 X)) (cIf ([some (map es),some (cells [vs a n .none,vs c k .none,I id,I zo,vs b nb .none,mp 0] 185)].all (okBlk 2)) (z0l X91 (cd PP 91 [1,1,1,1,1,1,0,1,0,0]) ([ptr 1 0,I day,X,X,X,I key,X,X,X,X,X,vs [I (cI (drop (i*1) tl) 0),AV.int IntKind.i64 (z4q (z0j c) (z0m (z0j c) (Mst.mk id zo) day (cI (drop (i*1) tl) 0) 1 2) (z0m (z0j c) (Mst.mk id zo) day (cI (drop (i*1) tl) 0) 3 4)).fl,AV.bool (z4q (z0j c) (z0m (z0j c) (Mst.mk id zo) day (cI (drop (i*1) tl) 0) 1 2) (z0m (z0j c) (Mst.mk id zo) day (cI (drop (i*1) tl) 0) 3 4)).ho,I (z0m (z0j c) (Mst.mk id zo) day (cI (drop (i*1) tl) 0) 1 2),I (z0m (z0j c) (Mst.mk id zo) day (cI (drop (i*1) tl) 0) 3 4)] 1 (Tok.own 0),X,X,X,X,X,X,X,X,X,X,X,X,X,X,X,X,X,X,X,X,X,X,X,X,X,X,X,X,X,X,X,X,X,X,X,X,X,X,X,X,X,X,X,X,X,X,X,X,vs tl tn .none,I tn,I (IntKind.i64.wrap ((↑i:Int)+1))]++replicate 36 X) (St.mk [some (map es),some (cells [vs a n .none,vs c k .none,I id,I zo,vs b nb .none,mp 0] 185)] [(1,5,110)] []) (z0g 2 (z0k X91 (cd PP 91 [1,1,1,1,1,1,1]) (z05 X91 91 Q)))) False) False) False) False)) False) False) False) False) (cIf (es.all fun (x:AV×AV)=>z09 (I key) x.fst) (cIf ((List.take X91.bs [some (map (z08 (I key) (vs [] 0 Tok.zero) es)),some (cells [vs a n .none,vs c k .none,I id,I zo,vs b nb .none,mp 0] 185)]).all (okBlk X91.bs)) (Q (ret (vs [] 0 Tok.zero)) [some (z0n 0 (map (z08 (I key) (vs [] 0 Tok.zero) es))),some (cells [vs (z0e 0 a) n .none,vs (z0e 0 c) k .none,I id,I zo,vs (z0e 0 b) nb .none,mp 0] 185)]) False) False)):=by kernel_rfl
end Go.Proofs
namespace Go.Proofs
open Go Go.Ev
attribute [local irreducible] wpF wpC wpS cd
theorem z9y {all:List Dcr}{p:Dcr→Bool}{b:Int}(h:IdxOf all p b):y1d all b:=by
 rcases h with h | ⟨k,x,h1,h2,_⟩
 ·exact .inl h
 ·exact .inr ⟨k,h1,(List.getElem?_eq_some_iff.1 h2).1⟩
theorem y3n:Cts BM2 [(116,R116),(148,R148),(149,R149)]:=(((Cts.nil BM2).cons (g:=149) w04).cons (g:=148) w05).cons (g:=116) x1l
section
variable {ms:List Mst}{ds:List Dcr}{id zo day key:Int}{es:List (AV×AV)}(hd:∀ x∈ds,DecOk x)(hm1:ms.length≤10000000)(hd1:ds.length≤100)(hM:MapOk ds ⟨id,zo⟩ es)
theorem y8g {ts:List (AV×AV)}{ks:List Int}(hM:MapOk ds ⟨id,zo⟩ es)(hT:SetOk ts ks):([some (.map es),some (.cells [.vs (z0a z0d ms) ms.length .none,.vs (z0a z0b ds) ds.length .none,I id,I zo,.vs (z0a z0s (brk ds)) (brk ds).length .none,.mp 0] 185),some (.map ts)]:List (Option HB)).all (okBlk 3)=true:=by
 rw[List.all_cons,List.all_cons,List.all_cons,List.all_nil,y5a hM,y0t ms ds id zo (by omega),hT.blk];rfl
include hd hm1 hd1 hM
theorem x6w {tl:List Int}(htl:tl.length≤1000)(hk:key=z0z ds day)(Q:CR→List (Option HB)→Prop)(hQ:∀ es',MapOk ds ⟨id,zo⟩ es'→Q (.ret (.vs (z0a z04 (z0o ds ⟨id,zo⟩ day)) (z0o ds ⟨id,zo⟩ day).length .none)) (z2c 185 (mV ms ds id zo) es')) :
  ∀ (d i:Nat) (ps:List Prt),tl.length-i=d→i≤tl.length→ps.length≤i→ps++((tl.drop i).filter fun t=>decide (t < 1440)).map (z5s ds ⟨id,zo⟩ day)=z0o ds ⟨id,zo⟩ day →
  z0l X91 (cd PP 91 [1,1,1,1,1,1,0,1,0,0]) ([.ptr 1 0,I day,X,X,X,I key,X,X,X,X,X,.vs (z0a z04 ps) ps.length (.own 0),X,X,X,X,X,X,X,X,X,X,X,X,X,X,X,X,X,X,X,X,X,X,X,X,X,X,X,X,X,X,X,X,X,X,X,X,X,X,X,X,X,X,X,X,X,X,X,X,.vs (z0a z0s tl) tl.length .none,I tl.length,I i]++replicate 36 X) ⟨mBk ms ds id zo es,[(ps.length,(5,110))],[]⟩ (z0g 2 (z0k X91 (cd PP 91 [1,1,1,1,1,1,1]) (z05 X91 91 Q))):=by
 intro d
 induction d with
 | zero =>
  intro i ps hdd hi hpi hps
  have hi':i=tl.length:=by omega
  subst hi'
  have hno:¬ ((tl.length:Nat):Int) < (tl.length:Nat):=by omega
  rw[List.drop_length,List.filter_nil,List.map_nil,List.append_nil]at hps
  refine z1g bm2ok y3n ((x7w (z0a z0d ms) (z0a z0b ds) (z0a z0s (brk ds)) (z0a z0s tl) (z0a z04 ps) ms.length ds.length (brk ds).length tl.length tl.length ps.length id zo day key es Q).mpr (z02 (df hno) (z0h (hM.kk key) ?_)))
  refine y8t (C:=X91) (fn:=Tryz.f91) (l:=z0a z04 ps) (n:=ps.length) (t:=.own 0) Tryz.func91 rfl (ePr.noHL' 0 _) (ePr.scL 0 _) ?_ ?_
  ·show ([_,_]:List (Option HB)).all (okBlk 2)=true
   rw[List.all_cons,List.all_cons,List.all_nil,y0t ms ds id zo (by omega)]
   show (noHB 2 (.map (z08 (I key) (.vs (z0a z04 ps) ps.length (.own 0)) es)) && _)=true
   rw[y8k rfl (by simp[noH,ePr.noHL']) (hM.noHB 2)];rfl
  ·show Q (.ret (.vs (z0a z04 ps) ps.length .none)) [some (z0n 0 (.map (z08 (I key) (.vs (z0a z04 ps) ps.length (.own 0)) es))),some (.cells [.vs (z0e 0 (z0a z0d ms)) ms.length .none,.vs (z0e 0 (z0a z0b ds)) ds.length .none,I id,I zo,.vs (z0e 0 (z0a z0s (brk ds))) (brk ds).length .none,.mp 0] 185)]
   rw[hM.scrubPut,eM.scL,eD.scL,eNum.scL,hps]
   exact hQ _ (hM.put (by rw[hk,y33 hd]))
 | succ d ih =>
  intro i ps hdd hi hpi hps
  have hlt:i < tl.length:=by omega
  have e1:tl.length-(i+1)=d:=by omega
  have w1:IntKind.i64.wrap ((i:Int)+1)=((i+1:Nat):Int):=z1c (by omega) (by omega)
  have hl1:(i:Int) < tl.length:=by omega
  obtain ⟨x,hx,hdr⟩:=z06 hlt
  rw[hdr,List.filter_cons]at hps
  refine z1g bm2ok y3n ((x7w (z0a z0d ms) (z0a z0b ds) (z0a z0s (brk ds)) (z0a z0s tl) (z0a z04 ps) ms.length ds.length (brk ds).length tl.length i ps.length id zo day key es Q).mpr ?_)
  simp only[dt hl1,dt hlt,eNum.gl,eNum.gd hlt,eNum.g0 hlt (by decide),eNum.el hx,eNum.ld0 hx (by decide),y1s,eNum.cI0 hx (by decide),y3s,y50,z0x,w1,z1m]
  refine z0i (fun q=>z0h (by simp[z00,noHL,noH,ePr.noHL',eNum.noHL',z1r]) (z0h (z3w hM) (ih (i+1) ps e1 hlt (by omega) ?_))) (fun q=>z0h (by simp[noHL,noH,eM.noHL',eD.noHL']) ⟨⟨ms,ds,rfl,rfl,rfl,rfl,hm1,by omega⟩,trivial,z0h (by simp[noHL,noH,eM.noHL',eD.noHL']) ⟨⟨ms,ds,rfl,rfl,rfl,rfl,hm1,by omega,z9y (z2x ds _ _ _ _ _),z9y (z2x ds _ _ _ _ _)⟩,trivial,z0h (dt (by omega)) (z0h (dt (by omega)) (z0h (dt (ePr.lenL ps)) (z0h (by simp) (z0h ?_ (z0h (z3w hM) ?_)))))⟩⟩)
  ·have q:¬ x < 1440:=by have:=of_decide_eq_true q;omega
   rw[if_neg (by simpa using q)]at hps
   exact hps
  ·simp[z00,noHL,noH,ePr.noHL',eNum.noHL',z1r]
  ·have q:x < 1440:=by have:=of_decide_eq_false q;omega
   rw[if_pos (dt q),List.map_cons]at hps
   have key:=ih (i+1) (ps++[z5s ds ⟨id,zo⟩ day x]) e1 hlt (by simp;omega) (by rw[List.append_assoc];exact hps)
   rw[y86,List.length_append]at key
   exact key
theorem x6v {tl:List Int}(htl:tl.length≤1000)(hk:key=z0z ds day)(hhead:∃ t,tl=0::t)(hpv:z0o ds ⟨id,zo⟩ day=(tl.filter fun t=>decide (t < 1440)).map (z5s ds ⟨id,zo⟩ day))(Q:CR→List (Option HB)→Prop)(hQ:∀ es',MapOk ds ⟨id,zo⟩ es'→Q (.ret (.vs (z0a z04 (z0o ds ⟨id,zo⟩ day)) (z0o ds ⟨id,zo⟩ day).length .none)) (z2c 185 (mV ms ds id zo) es')) :
  z0l X91 (cd PP 91 [1,1,1,1,1,1,0,1,0,0]) ([.ptr 1 0,I day,X,X,X,I key,X,X,X,X,X,.vs [] 0 .zero,X,X,X,X,X,X,X,X,X,X,X,X,X,X,X,X,X,X,X,X,X,X,X,X,X,X,X,X,X,X,X,X,X,X,X,X,X,X,X,X,X,X,X,X,X,X,X,X,.vs (z0a z0s tl) tl.length .none,I tl.length,I (0:Nat)]++replicate 36 X) ⟨mBk ms ds id zo es,[],[]⟩ (z0g 2 (z0k X91 (cd PP 91 [1,1,1,1,1,1,1]) (z05 X91 91 Q))):=by
 obtain ⟨t,rfl⟩:=hhead
 have hlt:0 < (0::t:List Int).length:=by simp
 have w1:IntKind.i64.wrap (((0:Nat):Int)+1)=((1:Nat):Int):=z1c (by omega) (by omega)
 have hl1:((0:Nat):Int) < (0::t:List Int).length:=by omega
 have hx:(0::t:List Int)[0]?=some 0:=rfl
 refine z1g bm2ok y3n ((w0k (z0a z0d ms) (z0a z0b ds) (z0a z0s (brk ds)) (z0a z0s (0::t)) ms.length ds.length (brk ds).length (0::t:List Int).length 0 id zo day key es Q).mpr ?_)
 simp only[dt hl1,dt hlt,eNum.gl,eNum.gd hlt,eNum.g0 hlt (by decide),eNum.el hx,eNum.ld0 hx (by decide),y1s,eNum.cI0 hx (by decide),y3s,y50,z0x,w1,z1m]
 refine z02 rfl (z0h (by simp[noHL,noH,eM.noHL',eD.noHL']) ⟨⟨ms,ds,rfl,rfl,rfl,rfl,hm1,by omega⟩,trivial,z0h (by simp[noHL,noH,eM.noHL',eD.noHL']) ⟨⟨ms,ds,rfl,rfl,rfl,rfl,hm1,by omega,z9y (z2x ds _ _ _ _ _),z9y (z2x ds _ _ _ _ _)⟩,trivial,z0h ?_ (z0h (z3w hM) ?_)⟩⟩)
 ·simp[z00,noHL,noH,eNum.noHL',z1r]
 ·exact x6w hd hm1 hd1 hM htl hk Q hQ _ 1 [z5s ds ⟨id,zo⟩ day 0] rfl hlt (Nat.le_refl _) (by rw[hpv];rfl)
theorem x8j (hk:key=z0z ds day)(Q:CR→List (Option HB)→Prop)(hQ:∀ es',MapOk ds ⟨id,zo⟩ es'→Q (.ret (.vs (z0a z04 (z0o ds ⟨id,zo⟩ day)) (z0o ds ⟨id,zo⟩ day).length .none)) (z2c 185 (mV ms ds id zo) es')) :
  ∀ (d i:Nat) (ts:List (AV×AV)) (ks:List Int),ds.length-i=d→i≤ds.length→SetOk ts ks→z1p ⟨id,zo⟩ day (ds.drop i) ks=z1p ⟨id,zo⟩ day ds [0] →
  z0l X91 (cd PP 91 [1,1,1,1,0,1,0,0]) ([.ptr 1 0,I day,X,X,X,I key,X,X,.mp 2,X,X,X,X,X,X,X,X,X,X,X,X,X,X,X,X,X,X,X,X,X,X,X,X,X,X,.vs (z0a z0b ds) ds.length .none,I ds.length,I i]++replicate 61 X) ⟨[some (.map es),some (.cells [.vs (z0a z0d ms) ms.length .none,.vs (z0a z0b ds) ds.length .none,I id,I zo,.vs (z0a z0s (brk ds)) (brk ds).length .none,.mp 0] 185),some (.map ts)],[],[]⟩ (z0g 0 (z0k X91 (cd PP 91 [1,1,1,1,1]) (z05 X91 91 Q))):=by
 intro d
 induction d with
 | zero =>
  intro i ts ks hdd hi hT hks
  have hi':i=ds.length:=by omega
  subst hi'
  have hno:¬ ((ds.length:Nat):Int) < (ds.length:Nat):=by omega
  rw[List.drop_length]at hks
  have hks:ks=z1p ⟨id,zo⟩ day ds [0]:=hks
  subst hks
  have hlen:=y00 ⟨id,zo⟩ day ds [0]
  have hl2:=(z03 (z1p ⟨id,zo⟩ day ds [0])).length_eq
  simp only[List.length_cons,List.length_nil]at hlen
  have hkeys:=hT.keys (x3u hd ⟨id,zo⟩ day)
  refine z1g bm2ok y3n ((x7x (z0a z0d ms) (z0a z0b ds) (z0a z0s (brk ds)) ms.length ds.length (brk ds).length ds.length id zo day key es ts Q).mpr (z02 (df hno) ⟨⟨_,hkeys,by omega⟩,z0h ?_ (z0h (z3w hM) ?_)⟩))
  ·rw[y3c]
   simp[z00,noHL,noH,eNum.noHL',z1r]
  ·rw[y65 hkeys,y3c,← hl2]
   exact x6v hd hm1 hd1 hM (by omega) hk (x0l hd _ _) rfl Q hQ
 | succ d ih =>
  intro i ts ks hdd hi hT hks
  have hlt:i < ds.length:=by omega
  have e1:ds.length-(i+1)=d:=by omega
  have w1:IntKind.i64.wrap ((i:Int)+1)=((i+1:Nat):Int):=z1c (by omega) (by omega)
  have hl1:(i:Int) < ds.length:=by omega
  obtain ⟨x,hx,hdr⟩:=z06 hlt
  rw[hdr]at hks
  have eX:Dcr.mk x.id x.ki x.ma x.st x.ra x.fr x.un x.op x.cl=x:=rfl
  refine z1g bm2ok y3n ((x7x (z0a z0d ms) (z0a z0b ds) (z0a z0s (brk ds)) ms.length ds.length (brk ds).length i id zo day key es ts Q).mpr ?_)
  simp only[dt hl1,dt hlt,eD.gl,eD.gd hlt,eD.g0 hlt (by decide),eD.el hx,eD.ld0 hx (by decide),z16,eD.cI0 hx (by decide),z2t,z4j,eD.gf hlt 1 (by decide),eD.ld hx 1 (by decide),eD.cI hx 1 (by decide),z2s,z4i,eD.gf hlt 2 (by decide),eD.ld hx 2 (by decide),eD.cI hx 2 (by decide),z2r,z4h,eD.gf hlt 3 (by decide),eD.ld hx 3 (by decide),eD.cI hx 3 (by decide),z2q,z4g,eD.gf hlt 4 (by decide),eD.ld hx 4 (by decide),eD.cI hx 4 (by decide),z2p,z4f,eD.gf hlt 5 (by decide),eD.ld hx 5 (by decide),eD.cI hx 5 (by decide),z2o,z4e,eD.gf hlt 6 (by decide),eD.ld hx 6 (by decide),eD.cI hx 6 (by decide),z2n,z4d,eD.gf hlt 7 (by decide),eD.ld hx 7 (by decide),eD.cI hx 7 (by decide),z2m,z4c,eD.gf hlt 8 (by decide),eD.ld hx 8 (by decide),eD.cI hx 8 (by decide),z2l,z4b,z0x,w1,eX,true_and]
  refine z0i (fun c=>z0h (hT.kk _) (z0h ((hT.put _ _).kk _) (z0h ?_ (z0h (y8g hM ((hT.put _ _).put _ _)) (ih (i+1) _ _ e1 hlt ((hT.put _ _).put _ _) ?_))))) (fun c=>z0h ?_ (z0h (y8g hM hT) (ih (i+1) ts ks e1 hlt hT ?_)))
  ·simp[z00,noHL,noH,eD.noHL',z1r]
  ·rw[z1p,if_pos (show z2a x ⟨id,zo⟩ day=true from c)]at hks
   exact hks
  ·simp[z00,noHL,noH,eD.noHL',z1r]
  ·rw[z1p,if_neg (show ¬ z2a x ⟨id,zo⟩ day=true by show ¬ y0j x ⟨id,zo⟩ day=true;rw[c];simp)]at hks
   exact hks
end
theorem y49 {ms:List Mst}{ds:List Dcr}{id zo:Int}{es:List (AV×AV)}:z74 (mV ms ds id zo) es↔MapOk ds ⟨id,zo⟩ es:=by
 show MapOk (z0j (z0a z0b ds)) ⟨id,zo⟩ es↔_
 rw[z1m]
theorem z98:∀ cs es,z74 cs es→z6y es:=fun cs es h=>by
 unfold z74 at h
 split at h
 ·exact h.plain
 ·exact h.elim
theorem x6f:CtM qB.c0 185 5 91 R91∧∀ rest cs es (D:Prop) r es',R91 rest cs es=some (D,r,es')→D→z74 cs es' :=
 CtM.of_wpE (B:=BM2) (l:=[(116,R116),(148,R148),(149,R149)]) (lm:=x8q) (tp:=[]) (ct:=[]) (sm:=[(7,3),(15,2)]) bm2ok y3n ⟨_,_,Tryz.func91,rfl⟩ z98 fun rest cs es D r es' hR hD=>by
 unfold R91 at hR
 split at hR<;>cases hR
 rename_i day a n c k id zo b nb
 obtain ⟨ms,ds,hO⟩:=hD
 have hO2:=hO
 obtain ⟨rfl,rfl,rfl,rfl,rfl,rfl,hd,hdl,hml,-,-,hM⟩:=hO2
 have ePV:(mCs (z0a z0d ms) (z0a z0b ds) (z0a z0s (brk ds)) ms.length ds.length (brk ds).length id zo)=mV ms ds id zo:=rfl
 refine ⟨rfl,z9e _,z6e ms ds id zo,hM.plain,fun m=>?_,?_⟩
 ·simp only[mvR,mvA,z2h m _ (ePr.noHL' 0 _)]
 show wpS X91 91 [.ptr 1 0,I day] (mBk ms ds id zo es) _
 rw[v91,z1m]
 have hfin:∀ es',MapOk ds ⟨id,zo⟩ es'→(ret (.vs (z0a z04 (z0o ds ⟨id,zo⟩ day)) (z0o ds ⟨id,zo⟩ day).length .none)=.ret (.vs (z0a z04 (z0o ds ⟨id,zo⟩ day)) (z0o ds ⟨id,zo⟩ day).length .none)∧∃ e,z74 (mV ms ds id zo) e∧z2c 185 (mV ms ds id zo) es'=z2c 185 (mV ms ds id zo) e):=fun es' h=>⟨rfl,es',y49.2 h,rfl⟩
 refine ⟨⟨ms,ds,hO⟩,⟨rfl,rfl⟩,z0h (hM.kk _) (z0i (fun hh=>?_) (fun hh=>z0h ?_ (z0h ?_ ?_)))⟩
 ·have hg:=hM.get hh
  rw[y33 hd]at hg
  rw[hg]
  refine z0h rfl (y8t (C:=X91) (fn:=Tryz.f91) (l:=z0a z04 (z0o ds ⟨id,zo⟩ day)) (n:=(z0o ds ⟨id,zo⟩ day).length) (t:=.none) Tryz.func91 rfl (ePr.noHL' 0 _) (ePr.scL 0 _) (z3w hM) ?_)
  show _∧∃ e,_∧[some (z0n 0 (.map es)),some (.cells [.vs (z0e 0 (z0a z0d ms)) ms.length .none,.vs (z0e 0 (z0a z0b ds)) ds.length .none,I id,I zo,.vs (z0e 0 (z0a z0s (brk ds))) (brk ds).length .none,.mp 0] 185)]=_
  rw[z5q hM]
  exact hfin es hM
 ·simp[z00,noHL,noH,eD.noHL',z1r]
 ·exact y8g hM (SetOk.nil.put 0 true)
 ·exact x8j hd (by omega) hdl hM rfl _ hfin _ 0 _ [0] rfl (Nat.zero_le _) (SetOk.nil.put 0 true) rfl
theorem cm91:CtM qB.c0 185 5 91 R91:=x6f.1
theorem x2p {ms:List Mst}{ds:List Dcr}{id zo day:Int}{es:List (AV×AV)}(h:ObjOk (z0a z0d ms) (z0a z0b ds) (z0a z0s (brk ds)) ms.length ds.length (brk ds).length id zo es ms ds):MapOk ds ⟨id,zo⟩ (E91 day (mV ms ds id zo) es) :=
 y49.1 (x6f.2 [I day] (mV ms ds id zo) es _ _ _ rfl ⟨ms,ds,h⟩)
def BM3:Base:=BM2.hk 91 (z8m 185 5 R91)
theorem bm3ok:BaseOk BM3:=bm2ok.hk (cm91.hook gtpB)
end Go.Proofs
--BASE BM3
namespace Go.Proofs
open Go Go.Ev
def pAt (ds:List Dcr)(m:Mst)(n:Int):Prt:=z8o ((n+m.zo) % 1440) (z0o ds m ((n+m.zo) / 1440)) x3r
def r79 (n:Int)(cs:List AV):CR:=match cs with
 | [_,.vs c _ _,.int _ id,.int _ zo,_]=>.ret (.agg (z04 (pAt (z0j c) ⟨id,zo⟩ n)))
 | _=>.ret .bad
def E79 (n:Int)(cs:List AV)(es:List (AV×AV)):List (AV×AV):=y6g qB.c0 185 79 (z74 cs) [I n] cs es (r79 n cs)
def R79:SpcM:=fun rest cs es=>match rest,cs with
 | [.int .i64 m],[.vs a n .none,.vs c k .none,.int .i64 id,.int .i64 zo,.vs b nb .none]=>some ((∃ ms ds,ObjOk a c b n k nb id zo es ms ds)∧0≤m∧m≤144001439,.ret (.agg [I (pAt (z0j c) ⟨id,zo⟩ m).of,I (pAt (z0j c) ⟨id,zo⟩ m).fl,Bo (pAt (z0j c) ⟨id,zo⟩ m).ho,I (pAt (z0j c) ⟨id,zo⟩ m).pf,I (pAt (z0j c) ⟨id,zo⟩ m).ph]),E79 m [.vs a n .none,.vs c k .none,.int .i64 id,.int .i64 zo,.vs b nb .none] es)
 | _,_=>none
def x8w:List (Nat×List Nat):=[(4,[4,6,7,23,24,25]),(9,[4,7])]
def X79:WCx:=BM3.wcxP 2 [(89,R89)] x8w [] [] [(4,4)]
theorem v79 (a c b:List AV)(n k nb:Nat)(id zo m:Int)(es:List (AV×AV))(Q:CR→List (Option HB)→Prop):wpS X79 79 [.ptr 1 0,I m] [some (.map es),some (.cells [.vs a n .none,.vs c k .none,I id,I zo,.vs b nb .none,.mp 0] 185)] Q =
 (((-1000000000:Int)≤IntKind.i64.wrap (m+zo)∧IntKind.i64.wrap (m+zo)≤1000000000)∧(∃ ms,∃ ds,ObjOk a c b n k nb id zo es ms ds)∧(185=(185:Nat)∧[vs a n .none,vs c k .none,I id,I zo,vs b nb .none,mp 0]=List.take 5 [vs a n .none,vs c k .none,I id,I zo,vs b nb .none,mp 0]++[mp (nat_lit 0)])∧cIf (noHL 4 ([X,X,X,X,ptr 2 0,X,I (IntKind.i64.wrap (m+zo) % 1440),ptr 3 0,X,X,X,X,X,X,X,X,X,X,X,X,X,X,X,vs (z0a z04 (z0o (z0j c) (Mst.mk id zo) (IntKind.i64.wrap (m+zo) / 1440))) (z0o (z0j c) (Mst.mk id zo) (IntKind.i64.wrap (m+zo) / 1440)).length .none,I (↑(z0o (z0j c) (Mst.mk id zo) (IntKind.i64.wrap (m+zo) / 1440)).length:Int),I 0]++replicate 10 X)) (cIf ([some (map (E91 (IntKind.i64.wrap (m+zo) / 1440) [vs a n .none,vs c k .none,I id,I zo,vs b nb .none] es)),some (cells [vs a n .none,vs c k .none,I id,I zo,vs b nb .none,mp 0] 185),some (cells [I 0,I 0,Bo false,I 0,I 0] 110),some (cells [I 0,I 0,Bo false,I 0,I 0] 110)].all (okBlk 4)) (z0l X79 (cd X79.P 79 [1,1,1,0,1,0,0]) ([X,X,X,X,ptr 2 0,X,I (IntKind.i64.wrap (m+zo) % 1440),ptr 3 0,X,X,X,X,X,X,X,X,X,X,X,X,X,X,X,vs (z0a z04 (z0o (z0j c) (Mst.mk id zo) (IntKind.i64.wrap (m+zo) / 1440))) (z0o (z0j c) (Mst.mk id zo) (IntKind.i64.wrap (m+zo) / 1440)).length .none,I (↑(z0o (z0j c) (Mst.mk id zo) (IntKind.i64.wrap (m+zo) / 1440)).length:Int),I 0]++replicate 10 X) (St.mk [some (map (E91 (IntKind.i64.wrap (m+zo) / 1440) [vs a n .none,vs c k .none,I id,I zo,vs b nb .none] es)),some (cells [vs a n .none,vs c k .none,I id,I zo,vs b nb .none,mp 0] 185),some (cells [I 0,I 0,Bo false,I 0,I 0] 110),some (cells [I 0,I 0,Bo false,I 0,I 0] 110)] [] []) (z0g 0 (z0k X79 (cd X79.P 79 [1,1,1,1]) (z05 X79 79 Q)))) False) False):=by kernel_rfl
theorem x70 (a c b L:List AV)(n k nb p i:Nat)(id zo of qo qf qp qh:Int)(qb:Bool)(es:List (AV×AV))(Q:CR→List (Option HB)→Prop):wpC X79 (cd PP 79 [1,1,1,0,1,0,0]) ([X,X,X,X,.ptr 2 0,X,I of,.ptr 3 0,X,X,X,X,X,X,X,X,X,X,X,X,X,X,X,.vs L p .none,I p,I i]++replicate 10 X) ⟨[some (.map es),some (.cells [.vs a n .none,.vs c k .none,I id,I zo,.vs b nb .none,.mp 0] 185),some (.cells [I 0,I 0,Bo false,I 0,I 0] 110),some (.cells [I qo,I qf,Bo qb,I qp,I qh] 110)],[],[]⟩ (z1i X79 (cd PP 79 [1,1,1,0,1,0,0]) (z0g 0 (z0k X79 (cd PP 79 [1,1,1,1]) (z05 X79 79 Q)))) =
 (cIf (decide ((↑i:Int) < (↑p:Int))) (cIf (decide (i < p)) (cIf (decide (p*5=L.length)) (cIf (decide (5≤(drop (i*5) L).length)) (cIf (like [I 0,I 0,Bo false,I 0,I 0] (el (drop (i*5) L) 0 5)) (cIf (decide (cI (el (drop (i*5) L) 0 5) 0≤of)) (cIf (noHL 4 ([X,X,X,X,ptr 2 0,X,I of,ptr 3 0,X,X,X,X,X,X,X,X,X,X,X,X,X,X,X,vs L p .none,I p,I (IntKind.i64.wrap ((↑i:Int)+1))]++replicate 10 X)) (cIf ([some (map es),some (cells [vs a n .none,vs c k .none,I id,I zo,vs b nb .none,mp 0] 185),some (cells [I 0,I 0,Bo false,I 0,I 0] 110),some (cells [I (cI (el (drop (i*5) L) 0 5) 0),I (cI (el (drop (i*5) L) 0 5) 1),Bo (cB (el (drop (i*5) L) 0 5) 2),I (cI (el (drop (i*5) L) 0 5) 3),I (cI (el (drop (i*5) L) 0 5) 4)] 110)].all (okBlk 4)) (z0l X79 (cd PP 79 [1,1,1,0,1,0,0]) ([X,X,X,X,ptr 2 0,X,I of,ptr 3 0,X,X,X,X,X,X,X,X,X,X,X,X,X,X,X,vs L p .none,I p,I (IntKind.i64.wrap ((↑i:Int)+1))]++replicate 10 X) (St.mk [some (map es),some (cells [vs a n .none,vs c k .none,I id,I zo,vs b nb .none,mp 0] 185),some (cells [I 0,I 0,Bo false,I 0,I 0] 110),some (cells [I (cI (el (drop (i*5) L) 0 5) 0),I (cI (el (drop (i*5) L) 0 5) 1),Bo (cB (el (drop (i*5) L) 0 5) 2),I (cI (el (drop (i*5) L) 0 5) 3),I (cI (el (drop (i*5) L) 0 5) 4)] 110)] [] []) (z0g 0 (z0k X79 (cd PP 79 [1,1,1,1]) (z05 X79 79 Q)))) False) False) (cIf (noHL 4 ([X,X,X,X,ptr 2 0,X,I of,ptr 3 0,X,X,X,X,X,X,X,X,X,X,X,X,X,X,X,vs L p .none,I p,I (IntKind.i64.wrap ((↑i:Int)+1))]++replicate 10 X)) (cIf ([some (map es),some (cells [vs a n .none,vs c k .none,I id,I zo,vs b nb .none,mp 0] 185),some (cells [I 0,I 0,Bo false,I 0,I 0] 110),some (cells [I qo,I qf,Bo qb,I qp,I qh] 110)].all (okBlk 4)) (z0l X79 (cd PP 79 [1,1,1,0,1,0,0]) ([X,X,X,X,ptr 2 0,X,I of,ptr 3 0,X,X,X,X,X,X,X,X,X,X,X,X,X,X,X,vs L p .none,I p,I (IntKind.i64.wrap ((↑i:Int)+1))]++replicate 10 X) (St.mk [some (map es),some (cells [vs a n .none,vs c k .none,I id,I zo,vs b nb .none,mp 0] 185),some (cells [I 0,I 0,Bo false,I 0,I 0] 110),some (cells [I qo,I qf,Bo qb,I qp,I qh] 110)] [] []) (z0g 0 (z0k X79 (cd PP 79 [1,1,1,1]) (z05 X79 79 Q)))) False) False)) False) False) False) False) (cIf ((List.take X79.bs [some (map es),some (cells [vs a n .none,vs c k .none,I id,I zo,vs b nb .none,mp 0] 185),some (cells [I qo,I qf,Bo qb,I qp,I qh] 110),some (cells [I qo,I qf,Bo qb,I qp,I qh] 110)]).all (okBlk X79.bs)) (Q (ret (agg [I qo,I qf,Bo qb,I qp,I qh])) [some (z0n 0 (map es)),some (cells [vs (z0e 0 a) n .none,vs (z0e 0 c) k .none,I id,I zo,vs (z0e 0 b) nb .none,mp 0] 185)]) False)):=by kernel_rfl
end Go.Proofs
namespace Go.Ev
theorem y08 (ds:List Dcr)(m:Mst)(day:Int):(z0o ds m day).length≤1+2*ds.length:=by
 unfold z0o
 rw[List.length_map]
 refine Nat.le_trans (List.length_filter_le _ _) ?_
 rw[(z03 _).length_eq]
 exact y00 m day ds [0]
end Go.Ev
namespace Go.Proofs
open Go Go.Ev
attribute [local irreducible] wpF wpC wpS cd
theorem x1g:Cts BM3 [(89,R89)]:=(Cts.nil BM3).cons (g:=89) x9r
section
variable {ms:List Mst}{ds:List Dcr}{id zo:Int}{es:List (AV×AV)}(hM:MapOk ds ⟨id,zo⟩ es)
theorem y8f {q r:List AV}{t u:TypeId}(hM:MapOk ds ⟨id,zo⟩ es)(h1:noHL 4 q=true)(h2:noHL 4 r=true):([some (.map es),some (.cells [.vs (z0a z0d ms) ms.length .none,.vs (z0a z0b ds) ds.length .none,I id,I zo,.vs (z0a z0s (brk ds)) (brk ds).length .none,.mp 0] 185),some (.cells q t),some (.cells r u)]:List (Option HB)).all (okBlk 4)=true:=by
 rw[List.all_cons,List.all_cons,List.all_cons,List.all_cons,List.all_nil,y5a hM,y0t ms ds id zo (by omega)]
 simp only[okBlk,noHB,h1,h2,Bool.and_self]
include hM
theorem x8n {ps:List Prt}(hps:ps.length≤1000){of:Int}(Q:CR→List (Option HB)→Prop):∀ (d i:Nat) (q:Prt),ps.length-i=d→i≤ps.length→Q (.ret (.agg (z04 (z8o of (ps.drop i) q)))) (z2c 185 (mV ms ds id zo) es) →
  z0l X79 (cd PP 79 [1,1,1,0,1,0,0]) ([X,X,X,X,.ptr 2 0,X,I of,.ptr 3 0,X,X,X,X,X,X,X,X,X,X,X,X,X,X,X,.vs (z0a z04 ps) ps.length .none,I ps.length,I i]++replicate 10 X) ⟨[some (.map es),some (.cells [.vs (z0a z0d ms) ms.length .none,.vs (z0a z0b ds) ds.length .none,I id,I zo,.vs (z0a z0s (brk ds)) (brk ds).length .none,.mp 0] 185),some (.cells [I 0,I 0,Bo false,I 0,I 0] 110),some (.cells [I q.of,I q.fl,Bo q.ho,I q.pf,I q.ph] 110)],[],[]⟩ (z0g 0 (z0k X79 (cd PP 79 [1,1,1,1]) (z05 X79 79 Q))):=by
 intro d
 induction d with
 | zero =>
  intro i q hd hi hQ
  have hi':i=ps.length:=by omega
  subst hi'
  have hno:¬ ((ps.length:Nat):Int) < (ps.length:Nat):=by omega
  rw[List.drop_length]at hQ
  refine z1g bm3ok x1g ((x70 (z0a z0d ms) (z0a z0b ds) (z0a z0s (brk ds)) (z0a z04 ps) ms.length ds.length (brk ds).length ps.length ps.length id zo of q.of q.fl q.pf q.ph q.ho es Q).mpr (z02 (df hno) (z0h (z3w hM) ?_)))
  rw[z5q hM]
  exact hQ
 | succ d ih =>
  intro i q hd hi hQ
  have hlt:i < ps.length:=by omega
  have e1:ps.length-(i+1)=d:=by omega
  have w1:IntKind.i64.wrap ((i:Int)+1)=((i+1:Nat):Int):=z1c (by omega) (by omega)
  have hl1:(i:Int) < ps.length:=by omega
  obtain ⟨x,hx,hdr⟩:=z06 hlt
  rw[hdr,z8o]at hQ
  refine z1g bm3ok x1g ((x70 (z0a z0d ms) (z0a z0b ds) (z0a z0s (brk ds)) (z0a z04 ps) ms.length ds.length (brk ds).length ps.length i id zo of q.of q.fl q.pf q.ph q.ho es Q).mpr ?_)
  simp only[dt hl1,dt hlt,ePr.gl,ePr.gd hlt,ePr.g0 hlt (by decide),ePr.el hx,ePr.ld0 hx (by decide),x0k,ePr.cI0 hx (by decide),x3p,x6l,ePr.gf hlt 1 (by decide),ePr.ld hx 1 (by decide),ePr.cI hx 1 (by decide),x3o,x6k,ePr.gf hlt 2 (by decide),ePr.ld hx 2 (by decide),ePr.cB hx 2 (by decide),x3n,x6j,ePr.gf hlt 3 (by decide),ePr.ld hx 3 (by decide),ePr.cI hx 3 (by decide),x3m,x6i,ePr.gf hlt 4 (by decide),ePr.ld hx 4 (by decide),ePr.cI hx 4 (by decide),x3l,x6h,z0x,w1]
  refine z0i (fun c=>z0h ?_ (z0h (y8f hM rfl rfl) (ih (i+1) x e1 hlt ?_))) (fun c=>z0h ?_ (z0h (y8f hM rfl rfl) (ih (i+1) q e1 hlt ?_)))
  ·simp[z00,noHL,noH,ePr.noHL',z1r]
  ·rw[if_pos (of_decide_eq_true c)]at hQ
   exact hQ
  ·simp[z00,noHL,noH,ePr.noHL',z1r]
  ·rw[if_neg (of_decide_eq_false c)]at hQ
   exact hQ
end
theorem x6g:CtM qB.c0 185 5 79 R79∧∀ rest cs es (D:Prop) r es',R79 rest cs es=some (D,r,es')→D→z74 cs es' :=
 CtM.of_wpE (B:=BM3) (l:=[(89,R89)]) (lm:=x8w) (tp:=[]) (ct:=[]) (sm:=[(4,4)]) bm3ok x1g ⟨_,_,Tryz.func79,rfl⟩ z98 fun rest cs es D r es' hR hD=>by
 unfold R79 at hR
 split at hR<;>cases hR
 rename_i m a n c k id zo b nb
 obtain ⟨⟨ms,ds,hO⟩,hm0,hm1⟩:=hD
 have hO2:=hO
 obtain ⟨rfl,rfl,rfl,rfl,rfl,rfl,hd,hdl,hml,hz1,hz2,hM⟩:=hO2
 refine ⟨rfl,z9e _,z6e ms ds id zo,hM.plain,fun _=>rfl,?_⟩
 show wpS X79 79 [.ptr 1 0,I m] (mBk ms ds id zo es) _
 have w1:IntKind.i64.wrap (m+zo)=m+zo:=z1c (by omega) (by omega)
 rw[v79,w1,z1m]
 have hM2:=x2p (day:=(m+zo) / 1440) hO
 refine ⟨⟨by omega,by omega⟩,⟨ms,ds,hO⟩,⟨rfl,rfl⟩,z0h ?_ (z0h (y8f hM2 rfl rfl) ?_)⟩
 ·simp[z00,noHL,noH,ePr.noHL',z1r]
 ·have hl:=y08 ds ⟨id,zo⟩ ((m+zo) / 1440)
  refine x8n hM2 (by omega) _ _ 0 x3r rfl (Nat.zero_le _) ⟨rfl,_,y49.2 hM2,rfl⟩
theorem cm79:CtM qB.c0 185 5 79 R79:=x6g.1
theorem x8c {ms:List Mst}{ds:List Dcr}{id zo m:Int}{es:List (AV×AV)}(h:ObjOk (z0a z0d ms) (z0a z0b ds) (z0a z0s (brk ds)) ms.length ds.length (brk ds).length id zo es ms ds)(h0:0≤m)(h1:m≤144001439):MapOk ds ⟨id,zo⟩ (E79 m (mV ms ds id zo) es) :=
 y49.1 (x6g.2 [I m] (mV ms ds id zo) es _ _ _ rfl ⟨⟨ms,ds,h⟩,h0,h1⟩)
def BM4:Base:=BM3.hk 79 (z8m 185 5 R79)
theorem bm4ok:BaseOk BM4:=bm3ok.hk (cm79.hook gtpB)
theorem y8e {ds:List Dcr}(hd:∀ x∈ds,DecOk x)(m:Mst)(n:Int):prS (pAt ds m n)=TV ds m (n+m.zo)∧((pAt ds m n).pf,(pAt ds m n).ph)=DV ds m (n+m.zo):=by
 obtain ⟨t,ht,h1,h2,h3,h4⟩:=gov hd m ((n+m.zo) / 1440) ((n+m.zo) % 1440) (by omega) (by omega)
 unfold pAt
 rw[h4]
 refine ⟨?_,?_⟩
 ·rw[x8b,z8b h3];rfl
 ·unfold DV
  rw[← h3,← h3];rfl
end Go.Proofs
--BASE BM4
namespace Go.Proofs
open Go Go.Ev
def z5y (ds:List Dcr)(m:Mst)(n:Int):Int×Bool:=match x4u ds m (n+m.zo) with
 | some s=>(s-m.zo,decide (0≤s-m.zo) && decide (s-m.zo≤144001439))
 | none=>(0,false)
def r83 (n:Int)(cs:List AV):CR:=match cs with
 | [_,.vs c _ _,.int _ id,.int _ zo,_]=>.ret (.tup [I (z5y (z0j c) ⟨id,zo⟩ n).1,Bo (z5y (z0j c) ⟨id,zo⟩ n).2])
 | _=>.ret .bad
def E83 (n:Int)(cs:List AV)(es:List (AV×AV)):List (AV×AV):=y6g qB.c0 185 83 (z74 cs) [I n] cs es (r83 n cs)
def R83:SpcM:=fun rest cs es=>match rest,cs with
 | [.int .i64 m],[.vs a n .none,.vs c k .none,.int .i64 id,.int .i64 zo,.vs b nb .none]=>some ((∃ ms ds,ObjOk a c b n k nb id zo es ms ds)∧0≤m∧m≤144001439,.ret (.tup [I (z5y (z0j c) ⟨id,zo⟩ m).1,Bo (z5y (z0j c) ⟨id,zo⟩ m).2]),E83 m [.vs a n .none,.vs c k .none,.int .i64 id,.int .i64 zo,.vs b nb .none] es)
 | _,_=>none
def x8s:List (Nat×List Nat):=[(4,[0,6,7,8,9]),(6,[0,6,7,8,9,35,36,37]),(12,[0,6,7,8,9]),(17,[])]
def X83:WCx:=BM4.wcxP 2 [(89,R89),(115,R115)] x8s [] [] [(4,3),(6,3)]
theorem v83 (a c b:List AV)(n k nb:Nat)(id zo m:Int)(es:List (AV×AV))(Q:CR→List (Option HB)→Prop):wpS X83 83 [.ptr 1 0,I m] [some (.map es),some (.cells [.vs a n .none,.vs c k .none,I id,I zo,.vs b nb .none,.mp 0] 185)] Q =
 (((∃ ms,∃ ds,ObjOk a c b n k nb id zo es ms ds)∧(0:Int)≤m∧m≤144001439)∧(185=(185:Nat)∧[vs a n .none,vs c k .none,I id,I zo,vs b nb .none,mp 0]=List.take 5 [vs a n .none,vs c k .none,I id,I zo,vs b nb .none,mp 0]++[mp (nat_lit 0)])∧((-1000000000:Int)≤IntKind.i64.wrap (m+zo)∧IntKind.i64.wrap (m+zo)≤1000000000)∧cIf ([some (map (E79 m [vs a n .none,vs c k .none,I id,I zo,vs b nb .none] es)),some (cells [vs a n .none,vs c k .none,I id,I zo,vs b nb .none,mp 0] 185),some (cells [I (pAt (z0j c) (Mst.mk id zo) m).fl,Bo (pAt (z0j c) (Mst.mk id zo) m).ho] 29)].all (okBlk 3)) (z0l X83 (cd X83.P 83 [1,1,1,0,1,0,0]) ([ptr 1 0,X,X,X,X,X,ptr 2 0,I (IntKind.i64.wrap (m+zo) / 1440),I (IntKind.i64.wrap (m+zo) % 1440),I (IntKind.i64.wrap (m+zo) / 1440)]++replicate 75 X) (St.mk [some (map (E79 m [vs a n .none,vs c k .none,I id,I zo,vs b nb .none] es)),some (cells [vs a n .none,vs c k .none,I id,I zo,vs b nb .none,mp 0] 185),some (cells [I (pAt (z0j c) (Mst.mk id zo) m).fl,Bo (pAt (z0j c) (Mst.mk id zo) m).ho] 29)] [] []) (z0g 0 (z0k X83 (cd X83.P 83 [1,1,1,1]) (z05 X83 83 Q)))) False):=by kernel_rfl
theorem x3v (a c b:List AV)(n k nb:Nat)(id zo wf fi of day:Int)(wb:Bool)(es:List (AV×AV))(Q:CR→List (Option HB)→Prop):wpC X83 (cd PP 83 [1,1,1,0,1,0,0]) ([.ptr 1 0,X,X,X,X,X,.ptr 2 0,I fi,I of,I day]++replicate 75 X) ⟨[some (.map es),some (.cells [.vs a n .none,.vs c k .none,I id,I zo,.vs b nb .none,.mp 0] 185),some (.cells [I wf,Bo wb] 29)],[],[]⟩ (z1i X83 (cd PP 83 [1,1,1,0,1,0,0]) (z0g 0 (z0k X83 (cd PP 83 [1,1,1,1]) (z05 X83 83 Q)))) =
 (cIf (decide (day≤100001)) ((∃ ms,∃ ds,ObjOk a c b n k nb id zo es ms ds)∧(185=(185:Nat)∧[vs a n .none,vs c k .none,I id,I zo,vs b nb .none,mp 0]=List.take 5 [vs a n .none,vs c k .none,I id,I zo,vs b nb .none,mp 0]++[mp (nat_lit 0)])∧cIf (noHL 3 ([ptr 1 0,X,X,X,X,X,ptr 2 0,I fi,I of,I day,X,X,X,X,X,X,X,X,X,X,X,X,X,X,X,X,X,X,X,X,X,X,X,X,X,vs (z0a z04 (z0o (z0j c) (Mst.mk id zo) day)) (z0o (z0j c) (Mst.mk id zo) day).length .none,I (↑(z0o (z0j c) (Mst.mk id zo) day).length:Int),I 0]++replicate 47 X)) (cIf ([some (map (E91 day [vs a n .none,vs c k .none,I id,I zo,vs b nb .none] es)),some (cells [vs a n .none,vs c k .none,I id,I zo,vs b nb .none,mp 0] 185),some (cells [I wf,Bo wb] 29)].all (okBlk 3)) (z0l X83 (cd PP 83 [1,1,1,0,1,0,0,1,0,0,1,0,0]) ([ptr 1 0,X,X,X,X,X,ptr 2 0,I fi,I of,I day,X,X,X,X,X,X,X,X,X,X,X,X,X,X,X,X,X,X,X,X,X,X,X,X,X,vs (z0a z04 (z0o (z0j c) (Mst.mk id zo) day)) (z0o (z0j c) (Mst.mk id zo) day).length .none,I (↑(z0o (z0j c) (Mst.mk id zo) day).length:Int),I 0]++replicate 47 X) (St.mk [some (map (E91 day [vs a n .none,vs c k .none,I id,I zo,vs b nb .none] es)),some (cells [vs a n .none,vs c k .none,I id,I zo,vs b nb .none,mp 0] 185),some (cells [I wf,Bo wb] 29)] [] []) (z0g 2 (z0k X83 (cd PP 83 [1,1,1,0,1,0,0,1,0,1]) (z0g 1 (z1i X83 (cd PP 83 [1,1,1,0,1,0,0]) (z0g 0 (z0k X83 (cd PP 83 [1,1,1,1]) (z05 X83 83 Q)))))))) False) False) (cIf ((List.take X83.bs [some (map es),some (cells [vs a n .none,vs c k .none,I id,I zo,vs b nb .none,mp 0] 185),some (cells [I wf,Bo wb] 29)]).all (okBlk X83.bs)) (Q (ret (tup [I 0,Bo false])) [some (z0n 0 (map es)),some (cells [vs (z0e 0 a) n .none,vs (z0e 0 c) k .none,I id,I zo,vs (z0e 0 b) nb .none,mp 0] 185)]) False)):=by kernel_rfl
theorem x5b (a c b L:List AV)(n k nb p i:Nat)(id zo wf fi of day:Int)(wb:Bool)(es:List (AV×AV))(Q:CR→List (Option HB)→Prop):wpC X83 (cd PP 83 [1,1,1,0,1,0,0,1,0,0,1,0,0]) ([.ptr 1 0,X,X,X,X,X,.ptr 2 0,I fi,I of,I day,X,X,X,X,X,X,X,X,X,X,X,X,X,X,X,X,X,X,X,X,X,X,X,X,X,.vs L p .none,I p,I i]++replicate 47 X) ⟨[some (.map es),some (.cells [.vs a n .none,.vs c k .none,I id,I zo,.vs b nb .none,.mp 0] 185),some (.cells [I wf,Bo wb] 29)],[],[]⟩ (z1i X83 (cd PP 83 [1,1,1,0,1,0,0,1,0,0,1,0,0]) (z0g 2 (z0k X83 (cd PP 83 [1,1,1,0,1,0,0,1,0,1]) (z0g 1 (z1i X83 (cd PP 83 [1,1,1,0,1,0,0]) (z0g 0 (z0k X83 (cd PP 83 [1,1,1,1]) (z05 X83 83 Q)))))))) =
 (cIf (decide ((↑i:Int) < (↑p:Int))) (cIf (decide (i < p)) (cIf (decide (p*5=L.length)) (cIf (decide (5≤(drop (i*5) L).length)) (cIf (like [I 0,I 0,Bo false,I 0,I 0] (el (drop (i*5) L) 0 5)) (cIf (decide (day > fi)) (cIf (!(cI (el (drop (i*5) L) 0 5) 1 == wf && (cB (el (drop (i*5) L) 0 5) 2 == wb && true))) (True∧cIf ((List.take X83.bs [some (map es),some (cells [vs a n .none,vs c k .none,I id,I zo,vs b nb .none,mp 0] 185),some (cells [I wf,Bo wb] 29),some (cells [I (cI (el (drop (i*5) L) 0 5) 0),I (cI (el (drop (i*5) L) 0 5) 1),Bo (cB (el (drop (i*5) L) 0 5) 2),I (cI (el (drop (i*5) L) 0 5) 3),I (cI (el (drop (i*5) L) 0 5) 4)] 110)]).all (okBlk X83.bs)) (Q (ret (tup [I (IntKind.i64.wrap (IntKind.i64.wrap (IntKind.i64.wrap (day*1440)+cI (el (drop (i*5) L) 0 5) 0)-zo)),AV.bool (decide ((0:Int)≤IntKind.i64.wrap (IntKind.i64.wrap (IntKind.i64.wrap (day*1440)+cI (el (drop (i*5) L) 0 5) 0)-zo)) && decide (IntKind.i64.wrap (IntKind.i64.wrap (IntKind.i64.wrap (day*1440)+cI (el (drop (i*5) L) 0 5) 0)-zo)≤144001439))])) [some (z0n 0 (map es)),some (cells [vs (z0e 0 a) n .none,vs (z0e 0 c) k .none,I id,I zo,vs (z0e 0 b) nb .none,mp 0] 185)]) False) (cIf (noHL 3 ([ptr 1 0,X,X,X,X,X,ptr 2 0,I fi,I of,I day,X,X,X,X,X,X,X,X,X,X,X,X,X,X,X,X,X,X,X,X,X,X,X,X,X,vs L p .none,I p,I (IntKind.i64.wrap ((↑i:Int)+1))]++replicate 47 X)) (cIf ([some (map es),some (cells [vs a n .none,vs c k .none,I id,I zo,vs b nb .none,mp 0] 185),some (cells [I wf,Bo wb] 29)].all (okBlk 3)) (z0l X83 (cd PP 83 [1,1,1,0,1,0,0,1,0,0,1,0,0]) ([ptr 1 0,X,X,X,X,X,ptr 2 0,I fi,I of,I day,X,X,X,X,X,X,X,X,X,X,X,X,X,X,X,X,X,X,X,X,X,X,X,X,X,vs L p .none,I p,I (IntKind.i64.wrap ((↑i:Int)+1))]++replicate 47 X) (St.mk [some (map es),some (cells [vs a n .none,vs c k .none,I id,I zo,vs b nb .none,mp 0] 185),some (cells [I wf,Bo wb] 29)] [] []) (z0g 2 (z0k X83 (cd PP 83 [1,1,1,0,1,0,0,1,0,1]) (z0g 1 (z1i X83 (cd PP 83 [1,1,1,0,1,0,0]) (z0g 0 (z0k X83 (cd PP 83 [1,1,1,1]) (z05 X83 83 Q)))))))) False) False)) (cIf (decide (cI (el (drop (i*5) L) 0 5) 0 > of)) (cIf (!(cI (el (drop (i*5) L) 0 5) 1 == wf && (cB (el (drop (i*5) L) 0 5) 2 == wb && true))) (True∧cIf ((List.take X83.bs [some (map es),some (cells [vs a n .none,vs c k .none,I id,I zo,vs b nb .none,mp 0] 185),some (cells [I wf,Bo wb] 29),some (cells [I (cI (el (drop (i*5) L) 0 5) 0),I (cI (el (drop (i*5) L) 0 5) 1),Bo (cB (el (drop (i*5) L) 0 5) 2),I (cI (el (drop (i*5) L) 0 5) 3),I (cI (el (drop (i*5) L) 0 5) 4)] 110)]).all (okBlk X83.bs)) (Q (ret (tup [I (IntKind.i64.wrap (IntKind.i64.wrap (IntKind.i64.wrap (day*1440)+cI (el (drop (i*5) L) 0 5) 0)-zo)),AV.bool (decide ((0:Int)≤IntKind.i64.wrap (IntKind.i64.wrap (IntKind.i64.wrap (day*1440)+cI (el (drop (i*5) L) 0 5) 0)-zo)) && decide (IntKind.i64.wrap (IntKind.i64.wrap (IntKind.i64.wrap (day*1440)+cI (el (drop (i*5) L) 0 5) 0)-zo)≤144001439))])) [some (z0n 0 (map es)),some (cells [vs (z0e 0 a) n .none,vs (z0e 0 c) k .none,I id,I zo,vs (z0e 0 b) nb .none,mp 0] 185)]) False) (cIf (noHL 3 ([ptr 1 0,X,X,X,X,X,ptr 2 0,I fi,I of,I day,X,X,X,X,X,X,X,X,X,X,X,X,X,X,X,X,X,X,X,X,X,X,X,X,X,vs L p .none,I p,I (IntKind.i64.wrap ((↑i:Int)+1))]++replicate 47 X)) (cIf ([some (map es),some (cells [vs a n .none,vs c k .none,I id,I zo,vs b nb .none,mp 0] 185),some (cells [I wf,Bo wb] 29)].all (okBlk 3)) (z0l X83 (cd PP 83 [1,1,1,0,1,0,0,1,0,0,1,0,0]) ([ptr 1 0,X,X,X,X,X,ptr 2 0,I fi,I of,I day,X,X,X,X,X,X,X,X,X,X,X,X,X,X,X,X,X,X,X,X,X,X,X,X,X,vs L p .none,I p,I (IntKind.i64.wrap ((↑i:Int)+1))]++replicate 47 X) (St.mk [some (map es),some (cells [vs a n .none,vs c k .none,I id,I zo,vs b nb .none,mp 0] 185),some (cells [I wf,Bo wb] 29)] [] []) (z0g 2 (z0k X83 (cd PP 83 [1,1,1,0,1,0,0,1,0,1]) (z0g 1 (z1i X83 (cd PP 83 [1,1,1,0,1,0,0]) (z0g 0 (z0k X83 (cd PP 83 [1,1,1,1]) (z05 X83 83 Q)))))))) False) False)) (cIf (noHL 3 ([ptr 1 0,X,X,X,X,X,ptr 2 0,I fi,I of,I day,X,X,X,X,X,X,X,X,X,X,X,X,X,X,X,X,X,X,X,X,X,X,X,X,X,vs L p .none,I p,I (IntKind.i64.wrap ((↑i:Int)+1))]++replicate 47 X)) (cIf ([some (map es),some (cells [vs a n .none,vs c k .none,I id,I zo,vs b nb .none,mp 0] 185),some (cells [I wf,Bo wb] 29)].all (okBlk 3)) (z0l X83 (cd PP 83 [1,1,1,0,1,0,0,1,0,0,1,0,0]) ([ptr 1 0,X,X,X,X,X,ptr 2 0,I fi,I of,I day,X,X,X,X,X,X,X,X,X,X,X,X,X,X,X,X,X,X,X,X,X,X,X,X,X,vs L p .none,I p,I (IntKind.i64.wrap ((↑i:Int)+1))]++replicate 47 X) (St.mk [some (map es),some (cells [vs a n .none,vs c k .none,I id,I zo,vs b nb .none,mp 0] 185),some (cells [I wf,Bo wb] 29)] [] []) (z0g 2 (z0k X83 (cd PP 83 [1,1,1,0,1,0,0,1,0,1]) (z0g 1 (z1i X83 (cd PP 83 [1,1,1,0,1,0,0]) (z0g 0 (z0k X83 (cd PP 83 [1,1,1,1]) (z05 X83 83 Q)))))))) False) False))) False) False) False) False) (cIf (day == fi) (cIf ([some (map es),some (cells [vs a n .none,vs c k .none,I id,I zo,vs b nb .none,mp 0] 185),some (cells [I wf,Bo wb] 29)].all (okBlk 3)) (z0l X83 (cd PP 83 [1,1,1,0,1,0,0]) ([ptr 1 0,X,X,X,X,X,ptr 2 0,I fi,I of,I (IntKind.i64.wrap (day+1))]++replicate 75 X) (St.mk [some (map es),some (cells [vs a n .none,vs c k .none,I id,I zo,vs b nb .none,mp 0] 185),some (cells [I wf,Bo wb] 29)] [] []) (z0g 0 (z0k X83 (cd PP 83 [1,1,1,1]) (z05 X83 83 Q)))) False) ((∃ ms,∃ ds,ObjOk a c b n k nb id zo es ms ds)∧(185=(185:Nat)∧[vs a n .none,vs c k .none,I id,I zo,vs b nb .none,mp 0]=List.take 5 [vs a n .none,vs c k .none,I id,I zo,vs b nb .none,mp 0]++[mp (nat_lit 0)])∧cIf (!(z7a (z0j c) day).isSome) (cIf ((List.take X83.bs [some (map es),some (cells [vs a n .none,vs c k .none,I id,I zo,vs b nb .none,mp 0] 185),some (cells [I wf,Bo wb] 29)]).all (okBlk X83.bs)) (Q (ret (tup [I 0,Bo false])) [some (z0n 0 (map es)),some (cells [vs (z0e 0 a) n .none,vs (z0e 0 c) k .none,I id,I zo,vs (z0e 0 b) nb .none,mp 0] 185)]) False) (cIf ([some (map es),some (cells [vs a n .none,vs c k .none,I id,I zo,vs b nb .none,mp 0] 185),some (cells [I wf,Bo wb] 29)].all (okBlk 3)) (z0l X83 (cd PP 83 [1,1,1,0,1,0,0]) ([ptr 1 0,X,X,X,X,X,ptr 2 0,I fi,I of,I ((z7a (z0j c) day).getD 0)]++replicate 75 X) (St.mk [some (map es),some (cells [vs a n .none,vs c k .none,I id,I zo,vs b nb .none,mp 0] 185),some (cells [I wf,Bo wb] 29)] [] []) (z0g 0 (z0k X83 (cd PP 83 [1,1,1,1]) (z05 X83 83 Q)))) False)))):=by kernel_rfl
end Go.Proofs
namespace Go.Proofs
open Go Go.Ev
attribute [local irreducible] wpF wpC wpS cd
theorem y3o:Cts BM4 [(89,R89),(115,R115)]:=((Cts.nil BM4).cons (g:=115) x6e).cons (g:=89) x9r
theorem y57 {fr:Int}{was:Sho}{ps:List Prt}{i:Nat}{x:Prt}(hdr:ps.drop i=x::ps.drop (i+1))(h:(decide (fr < x.of) && decide (prS x≠was))=false):z5f fr was (ps.drop i)=z5f fr was (ps.drop (i+1)):=by
 unfold z5f
 rw[hdr,List.find?_cons,h]
theorem y56 {fr:Int}{was:Sho}{ps:List Prt}{i:Nat}{x:Prt}(hdr:ps.drop i=x::ps.drop (i+1))(h:(decide (fr < x.of) && decide (prS x≠was))=true):z5f fr was (ps.drop i)=some x:=by
 unfold z5f
 rw[hdr,List.find?_cons,h]
theorem x8a {x:Prt}{wf:Int}{wb:Bool}:(!(x.fl == wf && (x.ho == wb && true)))=decide (prS x≠⟨wf,wb⟩):=by
 unfold prS
 rw[Bool.eq_iff_iff]
 simp
section
variable {ms:List Mst}{ds:List Dcr}{id zo n:Int}(hd:∀ x∈ds,DecOk x)(hml:ms.length≤40)(hdl:ds.length≤100)(h0:0≤n)(h1:n≤144001439)(hz1:-720≤zo)(hz2:zo≤840)
theorem y8h {es:List (AV×AV)}(hd:∀ x∈ds,DecOk x)(hml:ms.length≤40)(hdl:ds.length≤100)(hz1:-720≤zo)(hz2:zo≤840)(hM:MapOk ds ⟨id,zo⟩ es):ObjOk (z0a z0d ms) (z0a z0b ds) (z0a z0s (brk ds)) ms.length ds.length (brk ds).length id zo es ms ds :=
 ⟨rfl,rfl,rfl,rfl,rfl,rfl,hd,hdl,hml,hz1,hz2,hM⟩
theorem y4m {es:List (AV×AV)}{q:List AV}{t:TypeId}(hM:MapOk ds ⟨id,zo⟩ es)(h1:noHL 3 q=true):([some (.map es),some (.cells [.vs (z0a z0d ms) ms.length .none,.vs (z0a z0b ds) ds.length .none,I id,I zo,.vs (z0a z0s (brk ds)) (brk ds).length .none,.mp 0] 185),some (.cells q t)]:List (Option HB)).all (okBlk 3)=true:=by
 rw[List.all_cons,List.all_cons,List.all_cons,List.all_nil,y5a hM,y0t ms ds id zo (by omega)]
 simp only[okBlk,noHB,h1,Bool.and_self]
noncomputable abbrev W83 (ms:List Mst) (ds:List Dcr) (id zo n day:Int) (es:List (AV×AV)) (Q:CR→List (Option HB)→Prop):Prop :=
 z0l X83 (cd PP 83 [1,1,1,0,1,0,0]) ([.ptr 1 0,X,X,X,X,X,.ptr 2 0,I ((n+zo) / 1440),I ((n+zo) % 1440),I day]++replicate 75 X) ⟨[some (.map es),some (.cells [.vs (z0a z0d ms) ms.length .none,.vs (z0a z0b ds) ds.length .none,I id,I zo,.vs (z0a z0s (brk ds)) (brk ds).length .none,.mp 0] 185),some (.cells [I (TV ds ⟨id,zo⟩ (n+zo)).fl,Bo (TV ds ⟨id,zo⟩ (n+zo)).ho] 29)],[],[]⟩ (z0g 0 (z0k X83 (cd PP 83 [1,1,1,1]) (z05 X83 83 Q)))
include hd hml hdl h0 h1 hz1 hz2
theorem x6x {day:Int}(hday:(n+zo) / 1440≤day)(hdb:day≤100001)(hI:z99 ds ⟨id,zo⟩ (n+zo) day)(Q:CR→List (Option HB)→Prop)(hQ:∀ es',MapOk ds ⟨id,zo⟩ es'→Q (.ret (.tup [I (z5y ds ⟨id,zo⟩ n).1,Bo (z5y ds ⟨id,zo⟩ n).2])) (z2c 185 (mV ms ds id zo) es'))
  (IH:∀ day' es',day < day'→z99 ds ⟨id,zo⟩ (n+zo) day'→MapOk ds ⟨id,zo⟩ es'→W83 ms ds id zo n day' es' Q) {es:List (AV×AV)} (hM:MapOk ds ⟨id,zo⟩ es) {fr:Int} (hfr:fr=if (n+zo) / 1440 < day then -1 else (n+zo) % 1440) :
  ∀ (d i:Nat),(z0o ds ⟨id,zo⟩ day).length-i=d→i≤(z0o ds ⟨id,zo⟩ day).length→z5f fr (TV ds ⟨id,zo⟩ (n+zo)) ((z0o ds ⟨id,zo⟩ day).drop i)=z5f fr (TV ds ⟨id,zo⟩ (n+zo)) (z0o ds ⟨id,zo⟩ day) →
  z0l X83 (cd PP 83 [1,1,1,0,1,0,0,1,0,0,1,0,0]) ([.ptr 1 0,X,X,X,X,X,.ptr 2 0,I ((n+zo) / 1440),I ((n+zo) % 1440),I day,X,X,X,X,X,X,X,X,X,X,X,X,X,X,X,X,X,X,X,X,X,X,X,X,X,.vs (z0a z04 (z0o ds ⟨id,zo⟩ day)) (z0o ds ⟨id,zo⟩ day).length .none,I (z0o ds ⟨id,zo⟩ day).length,I i]++replicate 47 X) ⟨[some (.map es),some (.cells [.vs (z0a z0d ms) ms.length .none,.vs (z0a z0b ds) ds.length .none,I id,I zo,.vs (z0a z0s (brk ds)) (brk ds).length .none,.mp 0] 185),some (.cells [I (TV ds ⟨id,zo⟩ (n+zo)).fl,Bo (TV ds ⟨id,zo⟩ (n+zo)).ho] 29)],[],[]⟩ (z0g 2 (z0k X83 (cd PP 83 [1,1,1,0,1,0,0,1,0,1]) (z0g 1 (z1i X83 (cd PP 83 [1,1,1,0,1,0,0]) (z0g 0 (z0k X83 (cd PP 83 [1,1,1,1]) (z05 X83 83 Q))))))):=by
 have hfr2:(fr=(n+zo) % 1440∧day=(n+zo) / 1440)∨(fr=-1∧(n+zo) / 1440 < day):=by
  by_cases q:(n+zo) / 1440 < day
  ·rw[if_pos q]at hfr;exact .inr ⟨hfr,q⟩
  ·rw[if_neg q]at hfr;exact .inl ⟨hfr,by omega⟩
 have hpl:=y08 ds ⟨id,zo⟩ day
 have hO:=y8h hd hml hdl hz1 hz2 hM
 intro d
 induction d with
 | zero =>
  intro i hdd hi hsc
  have hi':i=(z0o ds ⟨id,zo⟩ day).length:=by omega
  subst hi'
  have hno:¬ (((z0o ds ⟨id,zo⟩ day).length:Nat):Int) < ((z0o ds ⟨id,zo⟩ day).length:Nat):=by omega
  rw[List.drop_length]at hsc
  have hsc:z5f fr (TV ds ⟨id,zo⟩ (n+zo)) (z0o ds ⟨id,zo⟩ day)=none:=hsc.symm
  have hI2:=x7g hd hI hfr2 hsc
  have w1:IntKind.i64.wrap (day+1)=day+1:=z1c (by omega) (by omega)
  refine z1g bm4ok y3o ((x5b (z0a z0d ms) (z0a z0b ds) (z0a z0s (brk ds)) (z0a z04 (z0o ds ⟨id,zo⟩ day)) ms.length ds.length (brk ds).length (z0o ds ⟨id,zo⟩ day).length (z0o ds ⟨id,zo⟩ day).length id zo (TV ds ⟨id,zo⟩ (n+zo)).fl ((n+zo) / 1440) ((n+zo) % 1440) day (TV ds ⟨id,zo⟩ (n+zo)).ho es Q).mpr (z02 (df hno) (z0i (fun c=>z0h (y4m hM rfl) ?_) (fun c=>⟨⟨ms,ds,hO⟩,⟨rfl,rfl⟩,?_⟩))))
  ·rw[w1]
   exact IH _ _ (by omega) hI2 hM
  ·have c:¬ day=(n+zo) / 1440:=by simpa using c
   rw[z1m]
   cases hl:z7a ds day with
   | none =>
    refine z0h rfl (z0h (z3w hM) ?_)
    rw[z5q hM]
    have hI3:z99 ds ⟨id,zo⟩ (n+zo) 100002:=y9b hI2 (by omega) fun b hb hlt=>by have:=x06 hl b hb;omega
    have e:z5y ds ⟨id,zo⟩ n=(0,false):=by unfold z5y;rw[y6r hI3 (by omega)]
    have:=hQ es hM
    rw[e]at this
    exact this
   | some d =>
    obtain ⟨g1,g2,g3⟩:=x05 hl
    refine z02 rfl (z0h (y4m hM rfl) ?_)
    exact IH _ _ g1 (y9b hI2 (by omega) g3) hM
 | succ d ih =>
  intro i hdd hi hsc
  have hlt:i < (z0o ds ⟨id,zo⟩ day).length:=by omega
  have e1:(z0o ds ⟨id,zo⟩ day).length-(i+1)=d:=by omega
  have w1:IntKind.i64.wrap ((i:Int)+1)=((i+1:Nat):Int):=z1c (by omega) (by omega)
  have hl1:(i:Int) < (z0o ds ⟨id,zo⟩ day).length:=by omega
  obtain ⟨x,hx,hdr⟩:=z06 hlt
  have hxr:0≤x.of∧x.of < 1440:=by
   have hm:=List.mem_of_getElem? hx
   rw[z8c,List.mem_map]at hm
   obtain ⟨t,ht,rfl⟩:=hm
   exact y1l hd ht
  have w2:IntKind.i64.wrap (IntKind.i64.wrap (IntKind.i64.wrap (day*1440)+x.of)-zo)=1440*day+x.of-zo:=by
   rw[z1c (x:=day*1440) (by omega) (by omega),z1c (x:=day*1440+x.of) (by omega) (by omega),z1c (by omega) (by omega)]
   omega
  have hit:(decide (fr < x.of) && decide (prS x≠TV ds ⟨id,zo⟩ (n+zo)))=true→Q (.ret (.tup [I (1440*day+x.of-zo),.bool (decide (0≤1440*day+x.of-zo) && decide (1440*day+x.of-zo≤144001439))])) (z2c 185 (mV ms ds id zo) es):=fun q=>by
   have h5:=y56 hdr q
   rw[hsc]at h5
   have h6:=x3f hd hI hdb hfr2 h5
   have e:z5y ds ⟨id,zo⟩ n=(1440*day+x.of-zo,decide (0≤1440*day+x.of-zo) && decide (1440*day+x.of-zo≤144001439)):=by
    unfold z5y
    rw[h6]
   have:=hQ es hM
   rw[e]at this
   exact this
  have miss:(decide (fr < x.of) && decide (prS x≠TV ds ⟨id,zo⟩ (n+zo)))=false→_:=fun q=>ih (i+1) e1 hlt ((y57 hdr q).symm.trans hsc)
  refine z1g bm4ok y3o ((x5b (z0a z0d ms) (z0a z0b ds) (z0a z0s (brk ds)) (z0a z04 (z0o ds ⟨id,zo⟩ day)) ms.length ds.length (brk ds).length (z0o ds ⟨id,zo⟩ day).length i id zo (TV ds ⟨id,zo⟩ (n+zo)).fl ((n+zo) / 1440) ((n+zo) % 1440) day (TV ds ⟨id,zo⟩ (n+zo)).ho es Q).mpr ?_)
  simp only[dt hl1,dt hlt,ePr.gl,ePr.gd hlt,ePr.g0 hlt (by decide),ePr.el hx,ePr.ld0 hx (by decide),x0k,ePr.cI0 hx (by decide),x3p,x6l,ePr.gf hlt 1 (by decide),ePr.ld hx 1 (by decide),ePr.cI hx 1 (by decide),x3o,x6k,ePr.gf hlt 2 (by decide),ePr.ld hx 2 (by decide),ePr.cB hx 2 (by decide),x3n,x6j,ePr.gf hlt 3 (by decide),ePr.ld hx 3 (by decide),ePr.cI hx 3 (by decide),x3m,x6i,ePr.gf hlt 4 (by decide),ePr.ld hx 4 (by decide),ePr.cI hx 4 (by decide),x3l,x6h,z0x,w1,w2,x8a,true_and,eM.scL,eD.scL,eNum.scL,hM.scrub]
  have hblk:noHL 3 ([.ptr 1 0,X,X,X,X,X,.ptr 2 0,I ((n+zo) / 1440),I ((n+zo) % 1440),I day,X,X,X,X,X,X,X,X,X,X,X,X,X,X,X,X,X,X,X,X,X,X,X,X,X,.vs (z0a z04 (z0o ds ⟨id,zo⟩ day)) (z0o ds ⟨id,zo⟩ day).length .none,I (z0o ds ⟨id,zo⟩ day).length,I ((i+1:Nat):Int)]++replicate 47 X)=true:=by
   simp[z00,noHL,noH,ePr.noHL',z1r]
  refine z0i (fun c=>z0i (fun c2=>z0h (z3w hM) (hit ?_)) (fun c2=>z0h hblk (z0h (y4m hM rfl) (miss ?_)))) (fun c=>z0i (fun c2=>z0i (fun c3=>z0h (z3w hM) (hit ?_)) (fun c3=>z0h hblk (z0h (y4m hM rfl) (miss ?_)))) (fun c2=>z0h hblk (z0h (y4m hM rfl) (miss ?_))))
  ·have c:=of_decide_eq_true c
   rw[c2,Bool.and_true,hfr,if_pos c]
   exact dt (by omega)
  ·rw[c2,Bool.and_false]
  ·have c:=of_decide_eq_false c
   have c2:=of_decide_eq_true c2
   rw[c3,Bool.and_true,hfr,if_neg (fun q=>c q)]
   exact dt c2
  ·rw[c3,Bool.and_false]
  ·have c:=of_decide_eq_false c
   have c2:=of_decide_eq_false c2
   rw[hfr,if_neg (fun q=>c q),df (show ¬ (n+zo) % 1440 < x.of from fun q=>c2 q)]
   rfl
theorem x8l (Q:CR→List (Option HB)→Prop)(hQ:∀ es',MapOk ds ⟨id,zo⟩ es'→Q (.ret (.tup [I (z5y ds ⟨id,zo⟩ n).1,Bo (z5y ds ⟨id,zo⟩ n).2])) (z2c 185 (mV ms ds id zo) es')) :
  ∀ (d:Nat) (day:Int) (es:List (AV×AV)),(100002-day).toNat≤d→(n+zo) / 1440≤day→z99 ds ⟨id,zo⟩ (n+zo) day→MapOk ds ⟨id,zo⟩ es→W83 ms ds id zo n day es Q:=by
 intro d
 induction d with
 | zero =>
  intro day es hdd hday hI hM
  refine z1g bm4ok y3o ((x3v (z0a z0d ms) (z0a z0b ds) (z0a z0s (brk ds)) ms.length ds.length (brk ds).length id zo (TV ds ⟨id,zo⟩ (n+zo)).fl ((n+zo) / 1440) ((n+zo) % 1440) day (TV ds ⟨id,zo⟩ (n+zo)).ho es Q).mpr (z02 (df (by omega)) (z0h (z3w hM) ?_)))
  rw[z5q hM]
  have e:z5y ds ⟨id,zo⟩ n=(0,false):=by unfold z5y;rw[y6r hI (by omega)]
  have:=hQ es hM
  rw[e]at this
  exact this
 | succ d ih =>
  intro day es hdd hday hI hM
  by_cases hb:day≤100001
  ·have hO:=y8h hd hml hdl hz1 hz2 hM
   have hM2:=x2p (day:=day) hO
   have hpl:=y08 ds ⟨id,zo⟩ day
   refine z1g bm4ok y3o ((x3v (z0a z0d ms) (z0a z0b ds) (z0a z0s (brk ds)) ms.length ds.length (brk ds).length id zo (TV ds ⟨id,zo⟩ (n+zo)).fl ((n+zo) / 1440) ((n+zo) % 1440) day (TV ds ⟨id,zo⟩ (n+zo)).ho es Q).mpr (z0h (dt hb) ⟨⟨ms,ds,hO⟩,⟨rfl,rfl⟩,z0h ?_ (z0h (y4m hM2 rfl) ?_)⟩))
   ·rw[z1m]
    simp[z00,noHL,noH,ePr.noHL',z1r]
   ·rw[z1m]
    exact x6x hd hml hdl h0 h1 hz1 hz2 hday hb hI Q hQ (fun day' es' g1 g2 g3=>ih day' es' (by omega) (by omega) g2 g3) hM2 rfl _ 0 rfl (Nat.zero_le _) rfl
  ·refine z1g bm4ok y3o ((x3v (z0a z0d ms) (z0a z0b ds) (z0a z0s (brk ds)) ms.length ds.length (brk ds).length id zo (TV ds ⟨id,zo⟩ (n+zo)).fl ((n+zo) / 1440) ((n+zo) % 1440) day (TV ds ⟨id,zo⟩ (n+zo)).ho es Q).mpr (z02 (df hb) (z0h (z3w hM) ?_)))
   rw[z5q hM]
   have e:z5y ds ⟨id,zo⟩ n=(0,false):=by unfold z5y;rw[y6r hI (by omega)]
   have:=hQ es hM
   rw[e]at this
   exact this
end
theorem w1a:CtM qB.c0 185 5 83 R83∧∀ rest cs es (D:Prop) r es',R83 rest cs es=some (D,r,es')→D→z74 cs es' :=
 CtM.of_wpE (B:=BM4) (l:=[(89,R89),(115,R115)]) (lm:=x8s) (tp:=[]) (ct:=[]) (sm:=[(4,3),(6,3)]) bm4ok y3o ⟨_,_,Tryz.func83,rfl⟩ z98 fun rest cs es D r es' hR hD=>by
 unfold R83 at hR
 split at hR<;>cases hR
 rename_i m a n c k id zo b nb
 obtain ⟨⟨ms,ds,hO⟩,hm0,hm1⟩:=hD
 have hO2:=hO
 obtain ⟨rfl,rfl,rfl,rfl,rfl,rfl,hd,hdl,hml,hz1,hz2,hM⟩:=hO2
 refine ⟨rfl,z9e _,z6e ms ds id zo,hM.plain,fun _=>rfl,?_⟩
 show wpS X83 83 [.ptr 1 0,I m] (mBk ms ds id zo es) _
 have w1:IntKind.i64.wrap (m+zo)=m+zo:=z1c (by omega) (by omega)
 have hp:=(y8e hd ⟨id,zo⟩ m).1
 have hp1:(pAt ds ⟨id,zo⟩ m).fl=(TV ds ⟨id,zo⟩ (m+zo)).fl:=congrArg Sho.fl hp
 have hp2:(pAt ds ⟨id,zo⟩ m).ho=(TV ds ⟨id,zo⟩ (m+zo)).ho:=congrArg Sho.ho hp
 rw[v83,w1,z1m,hp1,hp2]
 have hM2:=x8c (m:=m) hO hm0 hm1
 refine ⟨⟨⟨ms,ds,hO⟩,hm0,hm1⟩,⟨rfl,rfl⟩,⟨by omega,by omega⟩,z0h (y4m hM2 rfl) ?_⟩
 exact x8l hd hml hdl hm0 hm1 hz1 hz2 _ (fun es' h=>⟨rfl,es',y49.2 h,rfl⟩) _ _ _ (Nat.le_refl _) (Int.le_refl _) (fun u g1 g2=>by omega) hM2
theorem cm83:CtM qB.c0 185 5 83 R83:=w1a.1
theorem w9k {ms:List Mst}{ds:List Dcr}{id zo m:Int}{es:List (AV×AV)}(h:ObjOk (z0a z0d ms) (z0a z0b ds) (z0a z0s (brk ds)) ms.length ds.length (brk ds).length id zo es ms ds)(h0:0≤m)(h1:m≤144001439):MapOk ds ⟨id,zo⟩ (E83 m (mV ms ds id zo) es) :=
 y49.1 (w1a.2 [I m] (mV ms ds id zo) es _ _ _ rfl ⟨⟨ms,ds,h⟩,h0,h1⟩)
def BM5:Base:=BM4.hk 83 (z8m 185 5 R83)
theorem bm5ok:BaseOk BM5:=bm4ok.hk (cm83.hook gtpB)
end Go.Proofs
