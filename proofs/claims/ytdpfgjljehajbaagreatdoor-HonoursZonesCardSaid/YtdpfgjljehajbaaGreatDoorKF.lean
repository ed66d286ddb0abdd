/- Contracts of functions of the program and of the reference. -/
import Derived.Test.YtdpfgjljehajbaaGreatDoorKE
set_option linter.unusedVariables false
set_option linter.unusedSimpArgs false
set_option maxRecDepth 100000
set_option linter.unusedVariables false
set_option linter.unusedSimpArgs false
namespace Go.Ev
def w3t:List AV→List AV
 | []=>[]
 | .vs l n t :: r=>.vs l n .none :: w3t r
 | a :: r=>a :: w3t r
def w4q:AV→AV
 | .vs l n t=>.vs l n .none
 | .agg l=>.agg (w3t l)
 | a=>a
theorem VR.unt0 {G:Gh} {w:World} {l:List AV} {n:Nat} {t:Tok} {v:Value} (h:VR G w (.vs l n t) v):VR G w (.vs l n .none) v:=by
 cases h with
 | vs _ _ _ A c f hc h hh ht=>exact .vs l n .none A c f hc h hh trivial
theorem w4d:∀ (l:List AV) (i:Nat) (a:AV),(w3t l)[i]? = some a→∃ b,l[i]? = some b∧(a = b ∨ ∃ m n t,b = .vs m n t∧a = .vs m n .none)
 | [],i,a,h=>by simp [w3t] at h
 | b :: r,0,a,h=>by
  refine ⟨b,rfl,?_⟩
  cases b <;> simp [w3t] at h <;> subst h <;> first | exact .inl rfl | exact .inr ⟨_,_,_,rfl,rfl⟩
 | b :: r,i + 1,a,h=>by
  have:(w3t r)[i]? = some a:=by cases b <;> simpa [w3t] using h
  simpa using w4d r i a this
theorem w4c:∀ l:List AV,(w3t l).length = l.length
 | []=>rfl
 | a :: r=>by cases a <;> simp [w3t,w4c r]
theorem VR.unt {G:Gh} {w:World} {a:AV} {v:Value} (h:VR G w a v):VR G w (w4q a) v:=by
 cases a with
 | vs l n t=>exact h.unt0
 | agg l =>
  cases h with
  | agg _ cs hs h =>
   refine .agg _ cs (by rw [w4c]; exact hs) fun i x hx=>?_
   obtain ⟨b,h1,rfl | ⟨m,n,t,rfl,rfl⟩⟩:=w4d l i x hx
   ·exact h i _ h1
   ·exact (h i _ h1).unt0
 | _=>exact h
def w3r (R:Spc) (args:List AV) (S:St) (k:CR→St→Prop):Prop:=match R (args.map w4q) with
 | some (D,r)=>D∧k r S
 | none=>False
theorem w4m (R:Spc):One (w3r R):=by
 intro args S
 unfold w3r
 cases h:R (args.map w4q) with
 | none=>exact ⟨(.ret .bad,S),False,fun k=>by simp⟩
 | some p=>exact ⟨(p.2,S),p.1,fun k=>Iff.rfl⟩
theorem Ct.hookU {C0:Cx} (hgt:z1v C0) {g:FuncId} {R:Spc} (h:Ct C0 g R):HookOk C0 g (w3r R) where
 one:=w4m R
 body:=h.body
 ok:=fun args S r S' hw=>by
  unfold w3r at hw
  split at hw
  ·rename_i D r' hR
   obtain ⟨hD,rfl,rfl⟩:=hw
   obtain ⟨h1,h2⟩:=h.ok _ D r' hR hD
   refine ⟨fun G w us hI hg has=>(h2.frame hgt h1 S) G w us hI hg ⟨by rw [List.length_map]; exact has.1,fun i x hx=>?_⟩,Wl.refl S⟩
   rw [List.getElem?_map,Option.map_eq_some_iff] at hx
   obtain ⟨y,hy,rfl⟩:=hx
   obtain ⟨v,q1,q2⟩:=has.2 i y hy
   exact ⟨v,q1,q2.unt⟩
  ·exact hw.elim
noncomputable def w29 (l:List AV):List Int:=z0c (z0a z0s) (fun x=>x) [] l
end Go.Ev
set_option maxRecDepth 100000
set_option linter.unusedVariables false
set_option linter.unusedSimpArgs false
namespace Go.Proofs
open Go Go.Ev
noncomputable def R94:Spc:=fun args=>match args with
 | [.vs l n .none,.int .i64 x,.int .i64 a,.int .i64 b]=>some (∃ xs:List Int,l = z0a z0s xs∧n = xs.length∧xs.length ≤ 1000000,.ret (.vs (z0a z0s (w26 (w29 l) x a b)) (w26 (w29 l) x a b).length .none))
 | _=>none
end Go.Proofs
set_option maxRecDepth 100000
set_option linter.unusedVariables false
set_option linter.unusedSectionVars false
set_option linter.unusedSimpArgs false
namespace Go.Ev
theorem w4r {α:Type} {T:List α} {j:Nat} {a b:α} (h:T[j]? = some a):(T++[b])[j]? = some a:=by
 rw [List.getElem?_append_left (List.getElem?_eq_some_iff.1 h).1]; exact h
theorem w4e {α:Type} {T:List α} {j:Nat} {a b c:α} (h:T[j]? = some a):((T++[b]).set j c)[j]? = some c:=by
 have:=(List.getElem?_eq_some_iff.1 h).1
 rw [List.getElem?_set_self (by simp; omega)]
end Go.Ev
namespace Go.Proofs
open Go Go.Ev
attribute [local irreducible] wpF wpC cd
section
variable {xs:List Int} (hl:xs.length ≤ 1000000) {x:Int}
include hl
end
noncomputable def Tryz.BR1:Base:=Tryz.B.hk 94 (w3r R94)
end Go.Proofs
--BASE Tryz.BR1
set_option maxRecDepth 100000
set_option linter.unusedVariables false
set_option linter.unusedSimpArgs false
namespace Go.Proofs
open Go Go.Ev
noncomputable def w7r:Spc:=fun args=>match args with
 | [.vs l n .none,.int .i64 x,.int .i64 a,.int .i64 b]=>some ((∃ xs:List Int,l = z0a z0s xs∧n = xs.length∧xs.length ≤ 900000)∧-10000000 ≤ x∧x ≤ 10000000,.ret (.vs (z0a z0s (w28 (w29 l) x a b)) (w28 (w29 l) x a b).length .none))
 | _=>none
end Go.Proofs
set_option maxRecDepth 100000
set_option linter.unusedVariables false
set_option linter.unusedSimpArgs false
namespace Go.Proofs
open Go Go.Ev
attribute [local irreducible] wpF wpC cd
noncomputable def Tryz.BR2:Base:=Tryz.BR1.hk 146 (w3r w7r)
end Go.Proofs
--BASE Tryz.BR2
set_option maxRecDepth 100000
set_option linter.unusedVariables false
set_option linter.unusedSimpArgs false
namespace Go.Proofs
open Go Go.Ev
def w3z (ds:List Dcr):Prop:=∀ x ∈ ds,(-1000000 ≤ x.fr∧x.fr ≤ 1000000)∧(-1000000 ≤ x.un∧x.un ≤ 1000000)∧(0 ≤ x.op∧x.op ≤ 1440)∧(0 ≤ x.cl∧x.cl ≤ 1440)
noncomputable def R85:Spc:=fun args=>match args with
 | [.vs c k .none,.int .i64 a,.int .i64 b]=>some ((∃ ds:List Dcr,c = z0a z0b ds∧k = ds.length∧ds.length ≤ 10000∧w3z ds)∧-1000000 ≤ a∧a ≤ 1000000∧-1000000 ≤ b∧b ≤ 1000000,.ret (.vs (z0a z0s (w3d (z0j c) a b)) (w3d (z0j c) a b).length .none))
 | _=>none
noncomputable def R86:Spc:=fun args=>match args with
 | [.agg [.vs l n .none,.vs c k .none],.agg [.int .i64 id,.int .i64 zo],.int .i64 day,.int .i64 a,.int .i64 b]=>some ((∃ ms ds,l = z0a z0d ms∧n = ms.length∧c = z0a z0b ds∧k = ds.length∧ds.length ≤ 10000∧w3z ds)∧-1000000 ≤ day∧day ≤ 1000000∧-10000 ≤ zo∧zo ≤ 10000,.ret (.vs (z0a z0s (w3b (z0j c) ⟨id,zo⟩ day a b)) (w3b (z0j c) ⟨id,zo⟩ day a b).length .none))
 | _=>none
end Go.Proofs
set_option maxRecDepth 100000
set_option linter.unusedVariables false
set_option linter.unusedSimpArgs false
namespace Go.Proofs
open Go Go.Ev
attribute [local irreducible] wpF wpC cd
section
variable {ds:List Dcr} {a b:Int} (hdl:ds.length ≤ 10000) (hB:w3z ds)
include hdl hB
end
section
variable {ms:List Mst} {ds:List Dcr} {id zo day a b:Int} (hdl:ds.length ≤ 10000) (hB:w3z ds) (h1:-1000000 ≤ day) (h2:day ≤ 1000000) (h3:-10000 ≤ zo) (h4:zo ≤ 10000)
include hdl hB h1 h2 h3 h4
end
noncomputable def Tryz.BR3:Base:=(Tryz.BR2.hk 85 (w3r R85)).hk 86 (w3r R86)
end Go.Proofs
--BASE Tryz.BR3
set_option maxRecDepth 100000
set_option linter.unusedVariables false
set_option linter.unusedSimpArgs false
namespace Go.Proofs
open Go Go.Ev
def w5p:List (Nat × List Nat):=[(8,[2,3,9,11,14,15]),(9,[2,3,9,11,14,15]),(12,[2,3,9,11,14,15,16,17]),(17,[])]
noncomputable def Tryz.X32:WCx:=Tryz.BR3.wcx [(80,R80),(81,R81),(84,R84)] w5p [] [] [(8,3),(12,3)]
theorem v32 (a c:List AV) (n k:Nat) (i m:Int) (Q:CR→Prop):wpF Tryz.X32 32 [.agg [.vs a n .none,.vs c k .none],I i,I m] Q =
 ((∃ (ms:List Mst),∃ (ds:List Dcr),a = z0a z0d ms∧n = ms.length∧c = z0a z0b ds∧k = ds.length∧ms.length ≤ 10000000∧ds.length ≤ 10000000)∧cIf (z0c (z0a z0d) (fun (ms:List Mst)=>z0c (z0a z0b) (fun (ds:List Dcr)=>(z0f ms ds i m).snd) (0:Int) c) (0:Int) a != (0:Int)) (Q (CR.ret (AV.tup [I 0,Bo false,I (z0c (z0a z0d) (fun (ms:List Mst)=>z0c (z0a z0b) (fun (ds:List Dcr)=>(z0f ms ds i m).snd) (0:Int) c) (0:Int) a)]))) (((∃ (ms:List Mst),∃ (ds:List Dcr),a = z0a z0d ms∧n = ms.length∧c = z0a z0b ds∧k = ds.length∧ms.length ≤ 10000000∧ds.length ≤ 10000000)∧(0:Int) ≤ m∧m ≤ (144001439:Int)∧(-720:Int) ≤ z0c (z0a z0d) (fun (ms:List Mst)=>z0c (z0a z0b) (fun (ds:List Dcr)=>(z0f ms ds i m).fst.zo) (0:Int) c) (0:Int) a∧z0c (z0a z0d) (fun (ms:List Mst)=>z0c (z0a z0b) (fun (ds:List Dcr)=>(z0f ms ds i m).fst.zo) (0:Int) c) (0:Int) a ≤ (840:Int))∧((0:Int) ≤ m∧m ≤ (1000000000:Int)∧(-1440:Int) ≤ z0c (z0a z0d) (fun (ms:List Mst)=>z0c (z0a z0b) (fun (ds:List Dcr)=>(z0f ms ds i m).fst.zo) (0:Int) c) (0:Int) a∧z0c (z0a z0d) (fun (ms:List Mst)=>z0c (z0a z0b) (fun (ds:List Dcr)=>(z0f ms ds i m).fst.zo) (0:Int) c) (0:Int) a ≤ (1440:Int))∧((∃ (ds:List Dcr),c = z0a z0b ds∧k = ds.length∧ds.length ≤ 10000∧w3z ds)∧(-1000000:Int) ≤ (m + z0c (z0a z0d) (fun (ms:List Mst)=>z0c (z0a z0b) (fun (ds:List Dcr)=>(z0f ms ds i m).fst.zo) (0:Int) c) (0:Int) a) / (1440:Int)∧(m + z0c (z0a z0d) (fun (ms:List Mst)=>z0c (z0a z0b) (fun (ds:List Dcr)=>(z0f ms ds i m).fst.zo) (0:Int) c) (0:Int) a) / (1440:Int) ≤ (1000000:Int)∧(-1000000:Int) ≤ (100001:Int)∧(100001:Int) ≤ (1000000:Int))∧cIf (noHL 3 ([X,X,I m,AV.ptr 0 0,X,X,X,X,X,AV.ptr 1 0,X,AV.ptr 2 0,X,X,AV.vs (z0a z0s (w3d (z0j c) ((m + z0c (z0a z0d) (fun (ms:List Mst)=>z0c (z0a z0b) (fun (ds:List Dcr)=>(z0f ms ds i m).fst.zo) (0:Int) c) (0:Int) a) / (1440:Int)) (100001:Int))) (w3d (z0j c) ((m + z0c (z0a z0d) (fun (ms:List Mst)=>z0c (z0a z0b) (fun (ds:List Dcr)=>(z0f ms ds i m).fst.zo) (0:Int) c) (0:Int) a) / (1440:Int)) (100001:Int)).length Tok.none,I 0]++List.replicate 63 X)) (cIf ([some (HB.cells [AV.vs a n Tok.none,AV.vs c k Tok.none] 25),some (HB.cells [I (z0c (z0a z0d) (fun (ms:List Mst)=>z0c (z0a z0b) (fun (ds:List Dcr)=>(z0f ms ds i m).fst.id) (0:Int) c) (0:Int) a),I (z0c (z0a z0d) (fun (ms:List Mst)=>z0c (z0a z0b) (fun (ds:List Dcr)=>(z0f ms ds i m).fst.zo) (0:Int) c) (0:Int) a)] 58),some (HB.cells [AV.int IntKind.i64 (z0c (z0a z0b) (fun (ds:List Dcr)=>(z96 ds (Mst.mk (z0c (z0a z0d) (fun (ms:List Mst)=>z0c (z0a z0b) (fun (ds:List Dcr)=>(z0f ms ds i m).fst.id) (0:Int) c) (0:Int) a) (z0c (z0a z0d) (fun (ms:List Mst)=>z0c (z0a z0b) (fun (ds:List Dcr)=>(z0f ms ds i m).fst.zo) (0:Int) c) (0:Int) a)) m).fl) (0:Int) c),AV.bool (z0c (z0a z0b) (fun (ds:List Dcr)=>(z96 ds (Mst.mk (z0c (z0a z0d) (fun (ms:List Mst)=>z0c (z0a z0b) (fun (ds:List Dcr)=>(z0f ms ds i m).fst.id) (0:Int) c) (0:Int) a) (z0c (z0a z0d) (fun (ms:List Mst)=>z0c (z0a z0b) (fun (ds:List Dcr)=>(z0f ms ds i m).fst.zo) (0:Int) c) (0:Int) a)) m).ho) false c)] 29)].all (okBlk 3)) (z0l Tryz.X32 (cd Tryz.X32.P 32 [1,1,1,1,1,1,0,1,0,0]) ([X,X,I m,AV.ptr 0 0,X,X,X,X,X,AV.ptr 1 0,X,AV.ptr 2 0,X,X,AV.vs (z0a z0s (w3d (z0j c) ((m + z0c (z0a z0d) (fun (ms:List Mst)=>z0c (z0a z0b) (fun (ds:List Dcr)=>(z0f ms ds i m).fst.zo) (0:Int) c) (0:Int) a) / (1440:Int)) (100001:Int))) (w3d (z0j c) ((m + z0c (z0a z0d) (fun (ms:List Mst)=>z0c (z0a z0b) (fun (ds:List Dcr)=>(z0f ms ds i m).fst.zo) (0:Int) c) (0:Int) a) / (1440:Int)) (100001:Int)).length Tok.none,I 0]++List.replicate 63 X) (St.mk [some (HB.cells [AV.vs a n Tok.none,AV.vs c k Tok.none] 25),some (HB.cells [I (z0c (z0a z0d) (fun (ms:List Mst)=>z0c (z0a z0b) (fun (ds:List Dcr)=>(z0f ms ds i m).fst.id) (0:Int) c) (0:Int) a),I (z0c (z0a z0d) (fun (ms:List Mst)=>z0c (z0a z0b) (fun (ds:List Dcr)=>(z0f ms ds i m).fst.zo) (0:Int) c) (0:Int) a)] 58),some (HB.cells [AV.int IntKind.i64 (z0c (z0a z0b) (fun (ds:List Dcr)=>(z96 ds (Mst.mk (z0c (z0a z0d) (fun (ms:List Mst)=>z0c (z0a z0b) (fun (ds:List Dcr)=>(z0f ms ds i m).fst.id) (0:Int) c) (0:Int) a) (z0c (z0a z0d) (fun (ms:List Mst)=>z0c (z0a z0b) (fun (ds:List Dcr)=>(z0f ms ds i m).fst.zo) (0:Int) c) (0:Int) a)) m).fl) (0:Int) c),AV.bool (z0c (z0a z0b) (fun (ds:List Dcr)=>(z96 ds (Mst.mk (z0c (z0a z0d) (fun (ms:List Mst)=>z0c (z0a z0b) (fun (ds:List Dcr)=>(z0f ms ds i m).fst.id) (0:Int) c) (0:Int) a) (z0c (z0a z0d) (fun (ms:List Mst)=>z0c (z0a z0b) (fun (ds:List Dcr)=>(z0f ms ds i m).fst.zo) (0:Int) c) (0:Int) a)) m).ho) false c)] 29)] [] []) (z0g 0 (z0k Tryz.X32 (cd Tryz.X32.P 32 [1,1,1,1,1,1,1]) (z0q Tryz.X32 32 Q)))) False) False)):=by kernel_rfl
end Go.Proofs
set_option maxRecDepth 100000
set_option linter.unusedVariables false
set_option linter.unusedSimpArgs false
namespace Go.Proofs
open Go Go.Ev
attribute [local irreducible] wpF wpC cd
section
variable {ms:List Mst} {ds:List Dcr} {id zo m wf:Int} {wb:Bool} (hm:ms.length ≤ 10000000) (hk:ds.length ≤ 10000000) (hz1:-720 ≤ zo) (hz2:zo ≤ 840)
include hm hk hz1 hz2
end
end Go.Proofs
set_option maxRecDepth 100000
set_option linter.unusedVariables false
set_option linter.unusedSimpArgs false
namespace Go.Proofs
open Go Go.Ev
def lm4:List (Nat × List Nat):=[]
noncomputable def Tryz.X4:WCx:=Tryz.B.wcx [(25,w7e),(26,R26),(27,R28),(31,R31),(32,R31)] lm4 [] [] []
theorem v4 (l c:List AV) (n k:Nat) (a m b:Int) (Q:CR→Prop):wpF Tryz.X4 4 [.agg [.vs l n .none,.vs c k .none],I a,I m,I b] Q =
 ((∃ (ms:List Mst),∃ (ds:List Dcr),l = z0a z0d ms∧n = ms.length∧c = z0a z0b ds∧k = ds.length)∧cIf (!(decide (n ≤ 4) && decide (k ≤ 8))) (True∧Q (CR.ret (Bo true))) ((∃ (ms:List Mst),∃ (ds:List Dcr),l = z0a z0d ms∧n = ms.length∧c = z0a z0b ds∧k = ds.length∧ms.length ≤ 10000000∧ds.length ≤ 10000000)∧(∃ (ms:List Mst),∃ (ds:List Dcr),l = z0a z0d ms∧n = ms.length∧c = z0a z0b ds∧k = ds.length∧ms.length ≤ 10000000∧ds.length ≤ 10000000)∧cIf ((w25 (z1f l) (z0j c) a m).fst != (w25 (z1f l) (z0j c) a m).fst) (Q (CR.ret (Bo false))) (cIf (!(w25 (z1f l) (z0j c) a m).snd.fst == (w25 (z1f l) (z0j c) a m).snd.fst) (Q (CR.ret (Bo false))) (cIf ((w25 (z1f l) (z0j c) a m).snd.snd != (w25 (z1f l) (z0j c) a m).snd.snd) (Q (CR.ret (Bo false))) ((∃ (ms:List Mst),∃ (ds:List Dcr),l = z0a z0d ms∧n = ms.length∧c = z0a z0b ds∧k = ds.length∧ms.length ≤ 10000000∧ds.length ≤ 10000000)∧cIf ((w25 (z1f l) (z0j c) a m).snd.snd != (0:Int)) (True∧Q (CR.ret (AV.bool (z0c (z0a z0d) (fun (ms:List Mst)=>z0c (z0a z0b) (fun (ds:List Dcr)=>(atV ms ds a m).snd) (0:Int) c) (0:Int) l == (w25 (z1f l) (z0j c) a m).snd.snd)))) (cIf (w25 (z1f l) (z0j c) a m).snd.fst ((∃ (ms:List Mst),∃ (ds:List Dcr),l = z0a z0d ms∧n = ms.length∧c = z0a z0b ds∧k = ds.length∧ms.length ≤ 10000000∧ds.length ≤ 10000000)∧cIf (z0c (z0a z0d) (fun (ms:List Mst)=>z0c (z0a z0b) (fun (ds:List Dcr)=>(atV ms ds a (w25 (z1f l) (z0j c) a m).fst).snd) (0:Int) c) (0:Int) l != (0:Int)) (Q (CR.ret (Bo false))) (cIf (z0c (z0a z0d) (fun (ms:List Mst)=>z0c (z0a z0b) (fun (ds:List Dcr)=>(atV ms ds a m).fst.fl) (0:Int) c) (0:Int) l == z0c (z0a z0d) (fun (ms:List Mst)=>z0c (z0a z0b) (fun (ds:List Dcr)=>(atV ms ds a (w25 (z1f l) (z0j c) a m).fst).fst.fl) (0:Int) c) (0:Int) l && (z0c (z0a z0d) (fun (ms:List Mst)=>z0c (z0a z0b) (fun (ds:List Dcr)=>(atV ms ds a m).fst.ho) false c) false l == z0c (z0a z0d) (fun (ms:List Mst)=>z0c (z0a z0b) (fun (ds:List Dcr)=>(atV ms ds a (w25 (z1f l) (z0j c) a m).fst).fst.ho) false c) false l && true)) (Q (CR.ret (Bo false))) (cIf (decide ((w25 (z1f l) (z0j c) a m).fst ≤ m)) (Q (CR.ret (Bo false))) (cIf (decide (b > m)) (cIf (decide (b ≤ (144001439:Int))) (cIf (!(w25 (z1f l) (z0j c) a m).snd.fst) ((∃ (ms:List Mst),∃ (ds:List Dcr),l = z0a z0d ms∧n = ms.length∧c = z0a z0b ds∧k = ds.length∧ms.length ≤ 10000000∧ds.length ≤ 10000000)∧cIf (z0c (z0a z0d) (fun (ms:List Mst)=>z0c (z0a z0b) (fun (ds:List Dcr)=>(atV ms ds a b).snd) (0:Int) c) (0:Int) l != (0:Int)) (Q (CR.ret (Bo false))) (cIf (!(z0c (z0a z0d) (fun (ms:List Mst)=>z0c (z0a z0b) (fun (ds:List Dcr)=>(atV ms ds a m).fst.fl) (0:Int) c) (0:Int) l == z0c (z0a z0d) (fun (ms:List Mst)=>z0c (z0a z0b) (fun (ds:List Dcr)=>(atV ms ds a b).fst.fl) (0:Int) c) (0:Int) l && (z0c (z0a z0d) (fun (ms:List Mst)=>z0c (z0a z0b) (fun (ds:List Dcr)=>(atV ms ds a m).fst.ho) false c) false l == z0c (z0a z0d) (fun (ms:List Mst)=>z0c (z0a z0b) (fun (ds:List Dcr)=>(atV ms ds a b).fst.ho) false c) false l && true))) (Q (CR.ret (Bo false))) (True∧Q (CR.ret (AV.bool (z0c (z0a z0d) (fun (ms:List Mst)=>z0c (z0a z0b) (fun (ds:List Dcr)=>(atV ms ds a m).snd) (0:Int) c) (0:Int) l == (0:Int))))))) (cIf (decide (b < (w25 (z1f l) (z0j c) a m).fst)) ((∃ (ms:List Mst),∃ (ds:List Dcr),l = z0a z0d ms∧n = ms.length∧c = z0a z0b ds∧k = ds.length∧ms.length ≤ 10000000∧ds.length ≤ 10000000)∧cIf (z0c (z0a z0d) (fun (ms:List Mst)=>z0c (z0a z0b) (fun (ds:List Dcr)=>(atV ms ds a b).snd) (0:Int) c) (0:Int) l != (0:Int)) (Q (CR.ret (Bo false))) (cIf (!(z0c (z0a z0d) (fun (ms:List Mst)=>z0c (z0a z0b) (fun (ds:List Dcr)=>(atV ms ds a m).fst.fl) (0:Int) c) (0:Int) l == z0c (z0a z0d) (fun (ms:List Mst)=>z0c (z0a z0b) (fun (ds:List Dcr)=>(atV ms ds a b).fst.fl) (0:Int) c) (0:Int) l && (z0c (z0a z0d) (fun (ms:List Mst)=>z0c (z0a z0b) (fun (ds:List Dcr)=>(atV ms ds a m).fst.ho) false c) false l == z0c (z0a z0d) (fun (ms:List Mst)=>z0c (z0a z0b) (fun (ds:List Dcr)=>(atV ms ds a b).fst.ho) false c) false l && true))) (Q (CR.ret (Bo false))) (True∧Q (CR.ret (AV.bool (z0c (z0a z0d) (fun (ms:List Mst)=>z0c (z0a z0b) (fun (ds:List Dcr)=>(atV ms ds a m).snd) (0:Int) c) (0:Int) l == (0:Int))))))) (True∧Q (CR.ret (Bo (z0c (z0a z0d) (fun (ms:List Mst)=>z0c (z0a z0b) (fun (ds:List Dcr)=>(atV ms ds a m).snd) (0:Int) c) (0:Int) l == (0:Int))))))) (True∧Q (CR.ret (Bo (z0c (z0a z0d) (fun (ms:List Mst)=>z0c (z0a z0b) (fun (ds:List Dcr)=>(atV ms ds a m).snd) (0:Int) c) (0:Int) l == (0:Int)))))) (True∧Q (CR.ret (Bo (z0c (z0a z0d) (fun (ms:List Mst)=>z0c (z0a z0b) (fun (ds:List Dcr)=>(atV ms ds a m).snd) (0:Int) c) (0:Int) l == (0:Int))))))))) (cIf (decide (b > m)) (cIf (decide (b ≤ (144001439:Int))) (cIf (!(w25 (z1f l) (z0j c) a m).snd.fst) ((∃ (ms:List Mst),∃ (ds:List Dcr),l = z0a z0d ms∧n = ms.length∧c = z0a z0b ds∧k = ds.length∧ms.length ≤ 10000000∧ds.length ≤ 10000000)∧cIf (z0c (z0a z0d) (fun (ms:List Mst)=>z0c (z0a z0b) (fun (ds:List Dcr)=>(atV ms ds a b).snd) (0:Int) c) (0:Int) l != (0:Int)) (Q (CR.ret (Bo false))) (cIf (!(z0c (z0a z0d) (fun (ms:List Mst)=>z0c (z0a z0b) (fun (ds:List Dcr)=>(atV ms ds a m).fst.fl) (0:Int) c) (0:Int) l == z0c (z0a z0d) (fun (ms:List Mst)=>z0c (z0a z0b) (fun (ds:List Dcr)=>(atV ms ds a b).fst.fl) (0:Int) c) (0:Int) l && (z0c (z0a z0d) (fun (ms:List Mst)=>z0c (z0a z0b) (fun (ds:List Dcr)=>(atV ms ds a m).fst.ho) false c) false l == z0c (z0a z0d) (fun (ms:List Mst)=>z0c (z0a z0b) (fun (ds:List Dcr)=>(atV ms ds a b).fst.ho) false c) false l && true))) (Q (CR.ret (Bo false))) (True∧Q (CR.ret (Bo (z0c (z0a z0d) (fun (ms:List Mst)=>z0c (z0a z0b) (fun (ds:List Dcr)=>(atV ms ds a m).snd) (0:Int) c) (0:Int) l == (0:Int))))))) (cIf (decide (b < (w25 (z1f l) (z0j c) a m).fst)) ((∃ (ms:List Mst),∃ (ds:List Dcr),l = z0a z0d ms∧n = ms.length∧c = z0a z0b ds∧k = ds.length∧ms.length ≤ 10000000∧ds.length ≤ 10000000)∧cIf (z0c (z0a z0d) (fun (ms:List Mst)=>z0c (z0a z0b) (fun (ds:List Dcr)=>(atV ms ds a b).snd) (0:Int) c) (0:Int) l != (0:Int)) (Q (CR.ret (Bo false))) (cIf (!(z0c (z0a z0d) (fun (ms:List Mst)=>z0c (z0a z0b) (fun (ds:List Dcr)=>(atV ms ds a m).fst.fl) (0:Int) c) (0:Int) l == z0c (z0a z0d) (fun (ms:List Mst)=>z0c (z0a z0b) (fun (ds:List Dcr)=>(atV ms ds a b).fst.fl) (0:Int) c) (0:Int) l && (z0c (z0a z0d) (fun (ms:List Mst)=>z0c (z0a z0b) (fun (ds:List Dcr)=>(atV ms ds a m).fst.ho) false c) false l == z0c (z0a z0d) (fun (ms:List Mst)=>z0c (z0a z0b) (fun (ds:List Dcr)=>(atV ms ds a b).fst.ho) false c) false l && true))) (Q (CR.ret (Bo false))) (True∧Q (CR.ret (Bo (z0c (z0a z0d) (fun (ms:List Mst)=>z0c (z0a z0b) (fun (ds:List Dcr)=>(atV ms ds a m).snd) (0:Int) c) (0:Int) l == (0:Int))))))) (True∧Q (CR.ret (Bo (z0c (z0a z0d) (fun (ms:List Mst)=>z0c (z0a z0b) (fun (ds:List Dcr)=>(atV ms ds a m).snd) (0:Int) c) (0:Int) l == (0:Int))))))) (True∧Q (CR.ret (Bo (z0c (z0a z0d) (fun (ms:List Mst)=>z0c (z0a z0b) (fun (ds:List Dcr)=>(atV ms ds a m).snd) (0:Int) c) (0:Int) l == (0:Int)))))) (True∧Q (CR.ret (Bo (z0c (z0a z0d) (fun (ms:List Mst)=>z0c (z0a z0b) (fun (ds:List Dcr)=>(atV ms ds a m).snd) (0:Int) c) (0:Int) l == (0:Int)))))))))))):=by kernel_rfl
end Go.Proofs
set_option maxRecDepth 100000
set_option linter.unusedVariables false
set_option linter.unusedSimpArgs false
namespace Go.Ev
open Go.Proofs
end Go.Ev
namespace Go.Proofs
open Go Go.Ev
attribute [local irreducible] wpF wpC cd
end Go.Proofs
--BASE Tryz.BZ
set_option maxRecDepth 100000
set_option linter.unusedVariables false
set_option linter.unusedSimpArgs false
namespace Go.Proofs
open Go Go.Ev
noncomputable def Tryz.BZ:Base:=Tryz.B.hk 27 (w3r R28)
theorem Tryz.bzok:BaseOk Tryz.BZ:=Tryz.bok.hk (w20.hookU Tryz.gtpB)
noncomputable def R9:Spc:=fun args=>match args with
 | [.vs c k .none,.int .i64 z,.int .i64 o]=>some (∃ ds,c = z0a z0b ds∧k = ds.length,.ret (Bo true))
 | _=>none
def lm9:List (Nat × List Nat):=[(5,[1,2,7,35,36,37]),(10,[1,2,7])]
noncomputable def Tryz.X9:WCx:=Tryz.BZ.wcx [(26,R26)] lm9 [] [] [(5,0)]
theorem v9o (c L:List AV) (k i p j:Nat) (z o:Int) (T:List (Nat × (Nat × Nat))) (Q:CR→Prop):wpC Tryz.X9 (cd PP 9 [1,1,1,0,1,0,0]) ([X,I z,I o,X,X,X,X,.vs L p (.own j),X,X,X,X,X,X,X,X,X,X,X,X,X,X,X,X,X,X,X,X,X,X,X,X,X,X,X,.vs c k .none,I k,I i]++List.replicate 41 X) ⟨[],T,[]⟩ (z1i Tryz.X9 (cd PP 9 [1,1,1,0,1,0,0]) (z0g 0 (z0k Tryz.X9 (cd PP 9 [1,1,1,1]) (z0q Tryz.X9 9 Q)))) =
 (cIf (decide ((↑i:Int) < (↑k:Int))) (cIf (decide (i < k)) (cIf (decide (k * 9 = c.length)) (cIf (decide (9 ≤ (List.drop (i * 9) c).length)) (cIf (like [I 0,U 0,I 0,I 0,I 0,I 0,I 0,I 0,I 0] (el (List.drop (i * 9) c) 0 9)) (cIf (decide ((p + 1) * 72 ≤ 140737488355328)) (cIf (decide (p + 1 ≤ 140737488355328)) (cIf (decide (L.length = p * 9)) (cIf (decide ((T++[(1,9,46)])[j]? = some (p,9,46))) (cIf (noHL 0 ([X,I z,I o,X,X,X,X,AV.vs (L++[I (cI (el (List.drop (i * 9) c) 0 9) 0),U (cI (el (List.drop (i * 9) c) 0 9) 1),I 0,I (cI (el (List.drop (i * 9) c) 0 9) 3),I (cI (el (List.drop (i * 9) c) 0 9) 4),I (cI (el (List.drop (i * 9) c) 0 9) 5),I (cI (el (List.drop (i * 9) c) 0 9) 6),I (cI (el (List.drop (i * 9) c) 0 9) 7),I (cI (el (List.drop (i * 9) c) 0 9) 8)]) (p + 1) (Tok.own j),X,X,X,X,X,X,X,X,X,X,X,X,X,X,X,X,X,X,X,X,X,X,X,X,X,X,X,AV.vs c k Tok.none,I k,I (IntKind.i64.wrap ((↑i:Int) + (1:Int)))]++List.replicate 41 X)) (z0l Tryz.X9 (cd PP 9 [1,1,1,0,1,0,0]) ([X,I z,I o,X,X,X,X,AV.vs (L++[I (cI (el (List.drop (i * 9) c) 0 9) 0),U (cI (el (List.drop (i * 9) c) 0 9) 1),I 0,I (cI (el (List.drop (i * 9) c) 0 9) 3),I (cI (el (List.drop (i * 9) c) 0 9) 4),I (cI (el (List.drop (i * 9) c) 0 9) 5),I (cI (el (List.drop (i * 9) c) 0 9) 6),I (cI (el (List.drop (i * 9) c) 0 9) 7),I (cI (el (List.drop (i * 9) c) 0 9) 8)]) (p + 1) (Tok.own j),X,X,X,X,X,X,X,X,X,X,X,X,X,X,X,X,X,X,X,X,X,X,X,X,X,X,X,AV.vs c k Tok.none,I k,I (IntKind.i64.wrap ((↑i:Int) + (1:Int)))]++List.replicate 41 X) (St.mk [] ((T++[(1,9,46)]).set j (p + 1,9,46)) []) (z0g 0 (z0k Tryz.X9 (cd PP 9 [1,1,1,1]) (z0q Tryz.X9 9 Q)))) False) False) False) False) False) False) False) False) False) ((∃ (ms:List Mst),∃ (ds:List Dcr),[I 1,I z,I 2,I (IntKind.i64.wrap (z + (60:Int)))] = z0a z0d ms∧2 = ms.length∧L = z0a z0b ds∧p = ds.length∧ms.length ≤ 10000000∧ds.length ≤ 10000000)∧(∃ (ms:List Mst),∃ (ds:List Dcr),[I 1,I z,I 2,I (IntKind.i64.wrap (z + (60:Int)))] = z0a z0d ms∧2 = ms.length∧L = z0a z0b ds∧p = ds.length∧ms.length ≤ 10000000∧ds.length ≤ 10000000)∧True∧cIf (z0c (z0a z0d) (fun (ms:List Mst)=>z0c (z0a z0b) (fun (ds:List Dcr)=>(atV ms ds (2:Int) o).fst.fl) (0:Int) L) (0:Int) [I 1,I z,I 2,I (IntKind.i64.wrap (z + (60:Int)))] == z0c (z0a z0d) (fun (ms:List Mst)=>z0c (z0a z0b) (fun (ds:List Dcr)=>(atV ms ds (1:Int) (IntKind.i64.wrap (o + (60:Int)))).fst.fl) (0:Int) L) (0:Int) [I 1,I z,I 2,I (IntKind.i64.wrap (z + (60:Int)))] && (z0c (z0a z0d) (fun (ms:List Mst)=>z0c (z0a z0b) (fun (ds:List Dcr)=>(atV ms ds (2:Int) o).fst.ho) false L) false [I 1,I z,I 2,I (IntKind.i64.wrap (z + (60:Int)))] == z0c (z0a z0d) (fun (ms:List Mst)=>z0c (z0a z0b) (fun (ds:List Dcr)=>(atV ms ds (1:Int) (IntKind.i64.wrap (o + (60:Int)))).fst.ho) false L) false [I 1,I z,I 2,I (IntKind.i64.wrap (z + (60:Int)))] && true)) (Q (CR.ret (AV.bool (z0c (z0a z0d) (fun (ms:List Mst)=>z0c (z0a z0b) (fun (ds:List Dcr)=>(atV ms ds (2:Int) o).snd) (0:Int) L) (0:Int) [I 1,I z,I 2,I (IntKind.i64.wrap (z + (60:Int)))] == z0c (z0a z0d) (fun (ms:List Mst)=>z0c (z0a z0b) (fun (ds:List Dcr)=>(atV ms ds (1:Int) (IntKind.i64.wrap (o + (60:Int)))).snd) (0:Int) L) (0:Int) [I 1,I z,I 2,I (IntKind.i64.wrap (z + (60:Int)))])))) (Q (CR.ret (Bo false))))):=by kernel_rfl
theorem v9 (c:List AV) (k:Nat) (z o:Int) (Q:CR→Prop):wpF Tryz.X9 9 [.vs c k .none,I z,I o] Q =
 (cIf (decide ((↑k:Int) > (120:Int))) (True∧Q (CR.ret (Bo true))) (cIf (decide (z < (-720:Int))) (True∧Q (CR.ret (Bo true))) (cIf (decide (z > (780:Int))) (True∧Q (CR.ret (Bo true))) (cIf (decide (o < (0:Int))) (True∧Q (CR.ret (Bo true))) (cIf (decide (o > (144001379:Int))) (True∧Q (CR.ret (Bo true))) (cIf (noHL 0 ([X,I z,I o,X,X,X,X,AV.vs [] 0 Tok.zero,X,X,X,X,X,X,X,X,X,X,X,X,X,X,X,X,X,X,X,X,X,X,X,X,X,X,X,AV.vs c k Tok.none,I k,I 0]++List.replicate 41 X)) (z0l Tryz.X9 (cd Tryz.X9.P 9 [1,1,1,0,1,0,0]) ([X,I z,I o,X,X,X,X,AV.vs [] 0 Tok.zero,X,X,X,X,X,X,X,X,X,X,X,X,X,X,X,X,X,X,X,X,X,X,X,X,X,X,X,AV.vs c k Tok.none,I k,I 0]++List.replicate 41 X) (St.mk [] [] []) (z0g 0 (z0k Tryz.X9 (cd Tryz.X9.P 9 [1,1,1,1]) (z0q Tryz.X9 9 Q)))) False)))))):=by kernel_rfl
theorem v9l (c:List AV) (k i:Nat) (z o:Int) (Q:CR→Prop):wpC Tryz.X9 (cd PP 9 [1,1,1,0,1,0,0]) ([X,I z,I o,X,X,X,X,.vs [] 0 .zero,X,X,X,X,X,X,X,X,X,X,X,X,X,X,X,X,X,X,X,X,X,X,X,X,X,X,X,.vs c k .none,I k,I i]++List.replicate 41 X) ⟨[],[],[]⟩ (z1i Tryz.X9 (cd PP 9 [1,1,1,0,1,0,0]) (z0g 0 (z0k Tryz.X9 (cd PP 9 [1,1,1,1]) (z0q Tryz.X9 9 Q)))) =
 (cIf (decide ((↑i:Int) < (↑k:Int))) (cIf (decide (i < k)) (cIf (decide (k * 9 = c.length)) (cIf (decide (9 ≤ (List.drop (i * 9) c).length)) (cIf (like [I 0,U 0,I 0,I 0,I 0,I 0,I 0,I 0,I 0] (el (List.drop (i * 9) c) 0 9)) (cIf (noHL 0 ([X,I z,I o,X,X,X,X,AV.vs [I (cI (el (List.drop (i * 9) c) 0 9) 0),U (cI (el (List.drop (i * 9) c) 0 9) 1),I 0,I (cI (el (List.drop (i * 9) c) 0 9) 3),I (cI (el (List.drop (i * 9) c) 0 9) 4),I (cI (el (List.drop (i * 9) c) 0 9) 5),I (cI (el (List.drop (i * 9) c) 0 9) 6),I (cI (el (List.drop (i * 9) c) 0 9) 7),I (cI (el (List.drop (i * 9) c) 0 9) 8)] 1 (Tok.own 1),X,X,X,X,X,X,X,X,X,X,X,X,X,X,X,X,X,X,X,X,X,X,X,X,X,X,X,AV.vs c k Tok.none,I k,I (IntKind.i64.wrap ((↑i:Int) + (1:Int)))]++List.replicate 41 X)) (z0l Tryz.X9 (cd PP 9 [1,1,1,0,1,0,0]) ([X,I z,I o,X,X,X,X,AV.vs [I (cI (el (List.drop (i * 9) c) 0 9) 0),U (cI (el (List.drop (i * 9) c) 0 9) 1),I 0,I (cI (el (List.drop (i * 9) c) 0 9) 3),I (cI (el (List.drop (i * 9) c) 0 9) 4),I (cI (el (List.drop (i * 9) c) 0 9) 5),I (cI (el (List.drop (i * 9) c) 0 9) 6),I (cI (el (List.drop (i * 9) c) 0 9) 7),I (cI (el (List.drop (i * 9) c) 0 9) 8)] 1 (Tok.own 1),X,X,X,X,X,X,X,X,X,X,X,X,X,X,X,X,X,X,X,X,X,X,X,X,X,X,X,AV.vs c k Tok.none,I k,I (IntKind.i64.wrap ((↑i:Int) + (1:Int)))]++List.replicate 41 X) (St.mk [] [(1,9,46),(1,9,46)] []) (z0g 0 (z0k Tryz.X9 (cd PP 9 [1,1,1,1]) (z0q Tryz.X9 9 Q)))) False) False) False) False) False) ((∃ (ms:List Mst),∃ (ds:List Dcr),[I 1,I z,I 2,I (IntKind.i64.wrap (z + (60:Int)))] = z0a z0d ms∧2 = ms.length∧[] = z0a z0b ds∧0 = ds.length∧ms.length ≤ 10000000∧ds.length ≤ 10000000)∧(∃ (ms:List Mst),∃ (ds:List Dcr),[I 1,I z,I 2,I (IntKind.i64.wrap (z + (60:Int)))] = z0a z0d ms∧2 = ms.length∧[] = z0a z0b ds∧0 = ds.length∧ms.length ≤ 10000000∧ds.length ≤ 10000000)∧True∧cIf (z0c (z0a z0d) (fun (ms:List Mst)=>z0c (z0a z0b) (fun (ds:List Dcr)=>(atV ms ds (2:Int) o).fst.fl) (0:Int) []) (0:Int) [I 1,I z,I 2,I (IntKind.i64.wrap (z + (60:Int)))] == z0c (z0a z0d) (fun (ms:List Mst)=>z0c (z0a z0b) (fun (ds:List Dcr)=>(atV ms ds (1:Int) (IntKind.i64.wrap (o + (60:Int)))).fst.fl) (0:Int) []) (0:Int) [I 1,I z,I 2,I (IntKind.i64.wrap (z + (60:Int)))] && (z0c (z0a z0d) (fun (ms:List Mst)=>z0c (z0a z0b) (fun (ds:List Dcr)=>(atV ms ds (2:Int) o).fst.ho) false []) false [I 1,I z,I 2,I (IntKind.i64.wrap (z + (60:Int)))] == z0c (z0a z0d) (fun (ms:List Mst)=>z0c (z0a z0b) (fun (ds:List Dcr)=>(atV ms ds (1:Int) (IntKind.i64.wrap (o + (60:Int)))).fst.ho) false []) false [I 1,I z,I 2,I (IntKind.i64.wrap (z + (60:Int)))] && true)) (Q (CR.ret (AV.bool (z0c (z0a z0d) (fun (ms:List Mst)=>z0c (z0a z0b) (fun (ds:List Dcr)=>(atV ms ds (2:Int) o).snd) (0:Int) []) (0:Int) [I 1,I z,I 2,I (IntKind.i64.wrap (z + (60:Int)))] == z0c (z0a z0d) (fun (ms:List Mst)=>z0c (z0a z0b) (fun (ds:List Dcr)=>(atV ms ds (1:Int) (IntKind.i64.wrap (o + (60:Int)))).snd) (0:Int) []) (0:Int) [I 1,I z,I 2,I (IntKind.i64.wrap (z + (60:Int)))])))) (Q (CR.ret (Bo false))))):=by kernel_rfl
end Go.Proofs
set_option maxRecDepth 100000
set_option linter.unusedVariables false
set_option linter.unusedSimpArgs false
namespace Go.Ev
open Go.Proofs
def zm (x:Dcr):Dcr:={ x with ma:=0 }
theorem w7f {ds:List Dcr} {x:Dcr} (h:x ∈ ds.map zm):x.ma = 0:=by
 obtain ⟨y,_,rfl⟩:=List.mem_map.1 h
 rfl
theorem w6o (ds:List Dcr) (m n:Mst) (day of k1 k2:Int):z0m (ds.map zm) m day of k1 k2 = z0m (ds.map zm) n day of k1 k2 :=
 z71 _ _ _ _ fun x hx=>by unfold z2a; rw [w7f hx]; simp
theorem w7d (ds:List Dcr) {z o:Int} (h0:0 ≤ o) (h1:o ≤ 144001379):atV [⟨1,z⟩,⟨2,z + 60⟩] (ds.map zm) 2 o = atV [⟨1,z⟩,⟨2,z + 60⟩] (ds.map zm) 1 (o + 60):=by
 have e2:z0w 2 [⟨1,z⟩,⟨2,z + 60⟩] = (⟨2,z + 60⟩,true):=rfl
 have e1:z0w 1 [⟨1,z⟩,⟨2,z + 60⟩] = (⟨1,z⟩,true):=rfl
 have r1:(decide (0 ≤ o) && decide (o ≤ 144001439)) = true:=by rw [dt h0,dt (show o ≤ 144001439 by omega)]; rfl
 have r2:(decide (0 ≤ o + 60) && decide (o + 60 ≤ 144001439)) = true:=by rw [dt (show 0 ≤ o + 60 by omega),dt (show o + 60 ≤ 144001439 by omega)]; rfl
 have a2:z0f [⟨1,z⟩,⟨2,z + 60⟩] (ds.map zm) 2 o = if z1x [⟨1,z⟩,⟨2,z + 60⟩] (ds.map zm) ≠ 0 then (⟨0,0⟩,z1x [⟨1,z⟩,⟨2,z + 60⟩] (ds.map zm)) else (⟨2,z + 60⟩,0):=by
  unfold z0f
  rw [e2,r1]
  rfl
 have a1:z0f [⟨1,z⟩,⟨2,z + 60⟩] (ds.map zm) 1 (o + 60) = if z1x [⟨1,z⟩,⟨2,z + 60⟩] (ds.map zm) ≠ 0 then (⟨0,0⟩,z1x [⟨1,z⟩,⟨2,z + 60⟩] (ds.map zm)) else (⟨1,z⟩,0):=by
  unfold z0f
  rw [e1,r2]
  rfl
 by_cases c:z1x [⟨1,z⟩,⟨2,z + 60⟩] (ds.map zm) = 0
 ·rw [if_neg (fun q=>q c)] at a1 a2
  unfold atV
  rw [a1,a2]
  rw [if_neg (fun q=>q rfl),if_neg (fun q=>q rfl)]
  refine congrArg (fun s=>(s,(0:Int))) ?_
  unfold z96
  have ea:o + 60 + z = o + (z + 60):=by omega
  simp only [ea]
  rw [w6o ds ⟨2,z + 60⟩ ⟨1,z⟩,w6o ds ⟨2,z + 60⟩ ⟨1,z⟩]
 ·rw [if_pos c] at a1 a2
  unfold atV
  rw [a1,a2]
  exact (if_pos c).trans (if_pos c).symm
end Go.Ev
namespace Go.Proofs
open Go Go.Ev
attribute [local irreducible] wpF wpC cd
theorem w6m:Cts Tryz.BZ [(26,R26)]:=(Cts.nil Tryz.BZ).cons w21
theorem w7q (os:List Dcr) (x:Dcr):z0a z0b os++[I x.id,U x.ki,I 0,I x.st,I x.ra,I x.fr,I x.un,I x.op,I x.cl] = z0a z0b (os++[zm x]):=by rw [y86]; rfl
section
variable {ds:List Dcr} {z o:Int} (hl:ds.length ≤ 120) (hz1:-720 ≤ z) (hz2:z ≤ 780) (h0:0 ≤ o) (h1:o ≤ 144001379)
include hl hz1 hz2 h0 h1
theorem w6v (Q:CR→Prop) (hQ:Q (.ret (Bo true))):((∃ (ms:List Mst),∃ (es:List Dcr),[I 1,I z,I 2,I (IntKind.i64.wrap (z + (60:Int)))] = z0a z0d ms∧2 = ms.length∧z0a z0b (ds.map zm) = z0a z0b es∧ds.length = es.length∧ms.length ≤ 10000000∧es.length ≤ 10000000)∧(∃ (ms:List Mst),∃ (es:List Dcr),[I 1,I z,I 2,I (IntKind.i64.wrap (z + (60:Int)))] = z0a z0d ms∧2 = ms.length∧z0a z0b (ds.map zm) = z0a z0b es∧ds.length = es.length∧ms.length ≤ 10000000∧es.length ≤ 10000000)∧True∧cIf (z0c (z0a z0d) (fun (ms:List Mst)=>z0c (z0a z0b) (fun (ds:List Dcr)=>(atV ms ds (2:Int) o).fst.fl) 0 (z0a z0b (ds.map zm))) 0 [I 1,I z,I 2,I (IntKind.i64.wrap (z + (60:Int)))] == z0c (z0a z0d) (fun (ms:List Mst)=>z0c (z0a z0b) (fun (ds:List Dcr)=>(atV ms ds 1 (IntKind.i64.wrap (o + (60:Int)))).fst.fl) 0 (z0a z0b (ds.map zm))) 0 [I 1,I z,I 2,I (IntKind.i64.wrap (z + (60:Int)))] && (z0c (z0a z0d) (fun (ms:List Mst)=>z0c (z0a z0b) (fun (ds:List Dcr)=>(atV ms ds (2:Int) o).fst.ho) false (z0a z0b (ds.map zm))) false [I 1,I z,I 2,I (IntKind.i64.wrap (z + (60:Int)))] == z0c (z0a z0d) (fun (ms:List Mst)=>z0c (z0a z0b) (fun (ds:List Dcr)=>(atV ms ds 1 (IntKind.i64.wrap (o + (60:Int)))).fst.ho) false (z0a z0b (ds.map zm))) false [I 1,I z,I 2,I (IntKind.i64.wrap (z + (60:Int)))] && true)) (Q (CR.ret (.bool (z0c (z0a z0d) (fun (ms:List Mst)=>z0c (z0a z0b) (fun (ds:List Dcr)=>(atV ms ds (2:Int) o).snd) 0 (z0a z0b (ds.map zm))) 0 [I 1,I z,I 2,I (IntKind.i64.wrap (z + (60:Int)))] == z0c (z0a z0d) (fun (ms:List Mst)=>z0c (z0a z0b) (fun (ds:List Dcr)=>(atV ms ds 1 (IntKind.i64.wrap (o + (60:Int)))).snd) 0 (z0a z0b (ds.map zm))) 0 [I 1,I z,I 2,I (IntKind.i64.wrap (z + (60:Int)))])))) (Q (CR.ret (Bo false)))):=by
 rw [z1c (x:=z + 60) (by omega) (by omega),z1c (x:=o + 60) (by omega) (by omega)]
 have e:[I 1,I z,I 2,I (z + 60)] = z0a z0d [⟨1,z⟩,⟨2,z + 60⟩]:=rfl
 rw [e]
 simp only [eM.on (show 0 < 2 by decide),eD.on (show 0 < 9 by decide),w7d ds h0 h1,beq_self_eq_true,Bool.and_self,z0x]
 have hp:∃ (ms:List Mst),∃ (es:List Dcr),z0a z0d [⟨1,z⟩,⟨2,z + 60⟩] = z0a z0d ms∧2 = ms.length∧z0a z0b (ds.map zm) = z0a z0b es∧ds.length = es.length∧ms.length ≤ 10000000∧es.length ≤ 10000000:=⟨_,_,rfl,rfl,rfl,by simp,by simp,by simp; omega⟩
 exact ⟨hp,hp,trivial,hQ⟩
theorem w6s (Q:CR→Prop) (hQ:Q (.ret (Bo true))):∀ (d i:Nat) (os:List Dcr) (p j:Nat) (T:List (Nat × (Nat × Nat))),ds.length - i = d→i ≤ ds.length→os.length = p→i = p→T[j]? = some (p,(9,46))→os++(ds.drop i).map zm = ds.map zm →
  z0l Tryz.X9 (cd PP 9 [1,1,1,0,1,0,0]) ([X,I z,I o,X,X,X,X,.vs (z0a z0b os) p (.own j),X,X,X,X,X,X,X,X,X,X,X,X,X,X,X,X,X,X,X,X,X,X,X,X,X,X,X,.vs (z0a z0b ds) ds.length .none,I ds.length,I i]++List.replicate 41 X) ⟨[],T,[]⟩ (z0g 0 (z0k Tryz.X9 (cd PP 9 [1,1,1,1]) (z0q Tryz.X9 9 Q))):=by
 intro d
 induction d with
 | zero =>
  intro i os p j T hd hi hos hp hT he
  have hi':i = ds.length:=by omega
  subst hi'
  subst hp
  have hno:¬ ((ds.length:Nat):Int) < (ds.length:Nat):=by omega
  rw [List.drop_length,List.map_nil,List.append_nil] at he
  subst he
  refine z0y Tryz.bzok w6m ((v9o _ _ _ _ _ j z o T Q).mpr (z02 (df hno) ?_))
  exact w6v hl hz1 hz2 h0 h1 Q hQ
 | succ d ih =>
  intro i os p j T hd hi hos hp hT he
  have hlt:i < ds.length:=by omega
  have e1:ds.length - (i + 1) = d:=by omega
  have w1:IntKind.i64.wrap ((i:Int) + 1) = ((i + 1:Nat):Int):=z1c (by omega) (by omega)
  have hl1:(i:Int) < ds.length:=by omega
  obtain ⟨x,hx,hdr⟩:=z06 hlt
  have t1:decide ((T++[(1,9,46)])[j]? = some (p,9,46)) = true:=dt (w4r hT)
  have b1:decide ((p + 1) * 72 ≤ 140737488355328) = true:=dt (by omega)
  have b2:decide (p + 1 ≤ 140737488355328) = true:=dt (by omega)
  have b3:decide ((z0a z0b os).length = p * 9) = true:=dt (by rw [eD.lenL,hos])
  refine z0y Tryz.bzok w6m ((v9o _ _ _ _ _ j z o T Q).mpr ?_)
  simp only [dt hl1,dt hlt,eD.gl,eD.gd hlt,eD.g0 hlt (by decide),eD.el hx,eD.ld0 hx (by decide),z16,eD.cI0 hx (by decide),z2t,z4j,eD.gf hlt 1 (by decide),eD.ld hx 1 (by decide),eD.cI hx 1 (by decide),z2s,z4i,eD.gf hlt 2 (by decide),eD.ld hx 2 (by decide),eD.cI hx 2 (by decide),z2r,z4h,eD.gf hlt 3 (by decide),eD.ld hx 3 (by decide),eD.cI hx 3 (by decide),z2q,z4g,eD.gf hlt 4 (by decide),eD.ld hx 4 (by decide),eD.cI hx 4 (by decide),z2p,z4f,eD.gf hlt 5 (by decide),eD.ld hx 5 (by decide),eD.cI hx 5 (by decide),z2o,z4e,eD.gf hlt 6 (by decide),eD.ld hx 6 (by decide),eD.cI hx 6 (by decide),z2n,z4d,eD.gf hlt 7 (by decide),eD.ld hx 7 (by decide),eD.cI hx 7 (by decide),z2m,z4c,eD.gf hlt 8 (by decide),eD.ld hx 8 (by decide),eD.cI hx 8 (by decide),z2l,z4b,z0x,w1,t1,b1,b2,b3,w7q]
  refine z0h (by simp [z00,noHL,noH,eD.noHL',z1r]) (ih (i + 1) (os++[zm x]) (p + 1) j _ e1 hlt (by simp [hos]) (by omega) (w4e hT) ?_)
  rw [hdr,List.map_cons] at he
  rw [List.append_assoc]
  exact he
theorem w7h (Q:CR→Prop) (hQ:Q (.ret (Bo true))) :
  z0l Tryz.X9 (cd PP 9 [1,1,1,0,1,0,0]) ([X,I z,I o,X,X,X,X,.vs [] 0 .zero,X,X,X,X,X,X,X,X,X,X,X,X,X,X,X,X,X,X,X,X,X,X,X,X,X,X,X,.vs (z0a z0b ds) ds.length .none,I ds.length,I (0:Nat)]++List.replicate 41 X) ⟨[],[],[]⟩ (z0g 0 (z0k Tryz.X9 (cd PP 9 [1,1,1,1]) (z0q Tryz.X9 9 Q))):=by
 cases ds with
 | nil =>
  refine z0y Tryz.bzok w6m ((v9l _ _ 0 z o Q).mpr (z02 rfl ?_))
  exact w6v (ds:=[]) hl hz1 hz2 h0 h1 Q hQ
 | cons y l =>
  have hlt:0 < (y :: l).length:=by simp
  have w1:IntKind.i64.wrap (((0:Nat):Int) + 1) = ((1:Nat):Int):=z1c (by omega) (by omega)
  have hl1:((0:Nat):Int) < (y :: l).length:=by omega
  have hy:(y :: l)[0]? = some y:=rfl
  refine z0y Tryz.bzok w6m ((v9l (z0a z0b (y :: l)) (y :: l).length 0 z o Q).mpr ?_)
  simp only [dt hl1,dt hlt,eD.gl,eD.gd hlt,eD.g0 hlt (by decide),eD.el hy,eD.ld0 hy (by decide),z16,eD.cI0 hy (by decide),z2t,z4j,eD.gf hlt 1 (by decide),eD.ld hy 1 (by decide),eD.cI hy 1 (by decide),z2s,z4i,eD.gf hlt 2 (by decide),eD.ld hy 2 (by decide),eD.cI hy 2 (by decide),z2r,z4h,eD.gf hlt 3 (by decide),eD.ld hy 3 (by decide),eD.cI hy 3 (by decide),z2q,z4g,eD.gf hlt 4 (by decide),eD.ld hy 4 (by decide),eD.cI hy 4 (by decide),z2p,z4f,eD.gf hlt 5 (by decide),eD.ld hy 5 (by decide),eD.cI hy 5 (by decide),z2o,z4e,eD.gf hlt 6 (by decide),eD.ld hy 6 (by decide),eD.cI hy 6 (by decide),z2n,z4d,eD.gf hlt 7 (by decide),eD.ld hy 7 (by decide),eD.cI hy 7 (by decide),z2m,z4c,eD.gf hlt 8 (by decide),eD.ld hy 8 (by decide),eD.cI hy 8 (by decide),z2l,z4b,z0x,w1]
  refine z0h (by simp [z00,noHL,noH,eD.noHL',z1r]) ?_
  exact w6s hl hz1 hz2 h0 h1 Q hQ _ 1 [zm y] 1 1 _ rfl hlt rfl rfl rfl rfl
end
theorem ct9:Ct Tryz.B.c0 9 R9:=Ct.of_wp (B:=Tryz.BZ) (l:=[(26,R26)]) (lm:=lm9) (tp:=[]) (ct:=[]) (sm:=[(5,0)]) Tryz.bzok w6m ⟨_,_,Tryz.func9,rfl⟩ fun args D r hR hD=>by
 unfold R9 at hR
 split at hR <;> cases hR
 rename_i c k z o
 obtain ⟨ds,rfl,rfl⟩:=hD
 refine ⟨by simp [noHL,noH,eD.noHL'],?_⟩
 rw [show z0e 0 [AV.vs (z0a z0b ds) ds.length .none,I z,I o] = [AV.vs (z0a z0b ds) ds.length .none,I z,I o] by simp [z0e,scrub,eD.scL,Tok.scrub]]
 have key:∀ Q:CR→Prop,Q (.ret (Bo true))→wpF Tryz.X9 9 [.vs (z0a z0b ds) ds.length .none,I z,I o] Q:=?_
 ·exact key _ rfl
 intro Q hQ
 rw [v9]
 refine z0i (fun _=>⟨trivial,hQ⟩) (fun c1=>z0i (fun _=>⟨trivial,hQ⟩) (fun c2=>z0i (fun _=>⟨trivial,hQ⟩) (fun c3=>z0i (fun _=>⟨trivial,hQ⟩) (fun c4=>z0i (fun _=>⟨trivial,hQ⟩) (fun c5=>z0h ?_ ?_)))))
 ·simp [z00,noHL,noH,eD.noHL',z1r]
 ·have c1:=of_decide_eq_false c1
  have c2:=of_decide_eq_false c2
  have c3:=of_decide_eq_false c3
  have c4:=of_decide_eq_false c4
  have c5:=of_decide_eq_false c5
  exact w7h (by omega) (by omega) (by omega) (by omega) (by omega) Q hQ
end Go.Proofs
