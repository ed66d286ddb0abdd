/- Contracts of functions of the program and of the reference. -/
import Derived.Test.YtdpfgjljehajbaaGreatDoorKE
set_option linter.unusedVariables false
set_option linter.unusedSimpArgs false
set_option maxRecDepth 100000
set_option linter.unusedVariables false
set_option linter.unusedSimpArgs false
namespace Go.Ev
def w3t:List AV→List AV
 | []=>[]
 | .vs l n t :: r=>.vs l n .none :: w3t r
 | a :: r=>a :: w3t r
def w4q:AV→AV
 | .vs l n t=>.vs l n .none
 | .agg l=>.agg (w3t l)
 | a=>a
theorem VR.unt0 {G:Gh} {w:World} {l:List AV} {n:Nat} {t:Tok} {v:Value} (h:VR G w (.vs l n t) v):VR G w (.vs l n .none) v:=by
 cases h with
 | vs _ _ _ A c f hc h hh ht=>exact .vs l n .none A c f hc h hh trivial
theorem w4d:∀ (l:List AV) (i:Nat) (a:AV),(w3t l)[i]? = some a→∃ b,l[i]? = some b∧(a = b ∨ ∃ m n t,b = .vs m n t∧a = .vs m n .none)
 | [],i,a,h=>by simp [w3t] at h
 | b :: r,0,a,h=>by
  refine ⟨b,rfl,?_⟩
  cases b <;> simp [w3t] at h <;> subst h <;> first | exact .inl rfl | exact .inr ⟨_,_,_,rfl,rfl⟩
 | b :: r,i + 1,a,h=>by
  have:(w3t r)[i]? = some a:=by cases b <;> simpa [w3t] using h
  simpa using w4d r i a this
theorem w4c:∀ l:List AV,(w3t l).length = l.length
 | []=>rfl
 | a :: r=>by cases a <;> simp [w3t,w4c r]
theorem VR.unt {G:Gh} {w:World} {a:AV} {v:Value} (h:VR G w a v):VR G w (w4q a) v:=by
 cases a with
 | vs l n t=>exact h.unt0
 | agg l =>
  cases h with
  | agg _ cs hs h =>
   refine .agg _ cs (by rw [w4c]; exact hs) fun i x hx=>?_
   obtain ⟨b,h1,rfl | ⟨m,n,t,rfl,rfl⟩⟩:=w4d l i x hx
   ·exact h i _ h1
   ·exact (h i _ h1).unt0
 | _=>exact h
def w3r (R:Spc) (args:List AV) (S:St) (k:CR→St→Prop):Prop:=match R (args.map w4q) with
 | some (D,r)=>D∧k r S
 | none=>False
theorem w4m (R:Spc):One (w3r R):=by
 intro args S
 unfold w3r
 cases h:R (args.map w4q) with
 | none=>exact ⟨(.ret .bad,S),False,fun k=>by simp⟩
 | some p=>exact ⟨(p.2,S),p.1,fun k=>Iff.rfl⟩
theorem Ct.hookU {C0:Cx} (hgt:z1v C0) {g:FuncId} {R:Spc} (h:Ct C0 g R):HookOk C0 g (w3r R) where
 one:=w4m R
 body:=h.body
 ok:=fun args S r S' hw=>by
  unfold w3r at hw
  split at hw
  ·rename_i D r' hR
   obtain ⟨hD,rfl,rfl⟩:=hw
   obtain ⟨h1,h2⟩:=h.ok _ D r' hR hD
   refine ⟨fun G w us hI hg has=>(h2.frame hgt h1 S) G w us hI hg ⟨by rw [List.length_map]; exact has.1,fun i x hx=>?_⟩,Wl.refl S⟩
   rw [List.getElem?_map,Option.map_eq_some_iff] at hx
   obtain ⟨y,hy,rfl⟩:=hx
   obtain ⟨v,q1,q2⟩:=has.2 i y hy
   exact ⟨v,q1,q2.unt⟩
  ·exact hw.elim
noncomputable def w29 (l:List AV):List Int:=z0c (z0a z0s) (fun x=>x) [] l
theorem w3m (x:List Int):w29 (z0a z0s x) = x:=eNum.on (by decide) _ _ _
theorem w3u:∀ l:List Int,z5d (z0a z0s l) = z0a z0s l
 | []=>rfl
 | x :: l=>by rw [z0a,x3q,w3u l]; rfl
theorem w3o {C:WCx} {g:FuncId} {fn:Func} {Q:CR→Prop} {env:Env} {s:St} {l:List AV} {n:Nat} {t:Tok} (hfn:C.P.funcs[g]? = some fn) (hres:z0v C.pc fn env s = some (.vs l n t)) (hn:noHL 0 l = true) (hs:z0e 0 l = l) (hq:∀ t',Q (.ret (.vs l n t'))):z0q C g Q EX.ret env s:=by
 unfold z0q
 rw [hfn]
 simp only
 rw [hres]
 show z2b (pub C.pc s.hs 0 (.vs l n t)) _
 have e1:pub C.pc s.hs 0 (.vs l n t) = some (.vs l n t):=by simp [pub,noH,hn]
 rw [e1]
 show Q _
 have e2:scrub 0 (.vs l n t) = .vs l n (t.scrub 0):=by simp [scrub,hs]
 rw [e2]
 exact hq _
end Go.Ev
set_option maxRecDepth 100000
set_option linter.unusedVariables false
set_option linter.unusedSimpArgs false
namespace Go.Proofs
open Go Go.Ev
noncomputable def R94:Spc:=fun args=>match args with
 | [.vs l n .none,.int .i64 x,.int .i64 a,.int .i64 b]=>some (∃ xs:List Int,l = z0a z0s xs∧n = xs.length∧xs.length ≤ 1000000,.ret (.vs (z0a z0s (w26 (w29 l) x a b)) (w26 (w29 l) x a b).length .none))
 | _=>none
def w5m:List (Nat × List Nat):=[(7,[0,1,10,11,12]),(14,[1,10,11])]
noncomputable def Tryz.X94:WCx:=Tryz.B.wcx [(118,R118)] w5m [] [] []
theorem w5a (l L:List AV) (n i p j:Nat) (x:Int) (d:Bool) (T:List (Nat × (Nat × Nat))) (Q:CR→Prop):wpC Tryz.X94 (cd PP 94 [1,1,1,1,1,0,1,0,0]) ([.vs l n .none,I x,X,X,X,X,X,X,X,X,.vs L p (.own j),Bo d,I i]++List.replicate 47 X) ⟨[],T,[]⟩ (z1i Tryz.X94 (cd PP 94 [1,1,1,1,1,0,1,0,0]) (z0g 0 (z0k Tryz.X94 (cd PP 94 [1,1,1,1,1,1]) (z0q Tryz.X94 94 Q)))) =
 (cIf (decide ((↑i:Int) < (↑n:Int))) (cIf (!d) (cIf (decide (i < n)) (cIf (decide (n * 1 = l.length)) (cIf (decide (0 < (List.drop (i * 1) l).length)) (cIf (z0t (AV.ofVal (Value.int IntKind.i64 (0:Int))) ((List.drop (i * 1) l).getD 0 X)) (cIf (decide (x ≤ cI (List.drop (i * 1) l) 0)) (cIf (decide ((p + 1) * 8 ≤ 140737488355328)) (cIf (decide (p + 1 ≤ 140737488355328)) (cIf (decide (L.length = p * 1)) (cIf (decide ((T++[(1,1,3)])[j]? = some (p,1,3))) (cIf (decide (i < n)) (cIf (decide (n * 1 = l.length)) (cIf (decide (0 < (List.drop (i * 1) l).length)) (cIf (z0t (AV.ofVal (Value.int IntKind.i64 (0:Int))) ((List.drop (i * 1) l).getD 0 X)) (cIf (cI (List.drop (i * 1) l) 0 != x) (cIf (decide (i < n)) (cIf (decide (n * 1 = l.length)) (cIf (decide (0 < (List.drop (i * 1) l).length)) (cIf (z0t (AV.ofVal (Value.int IntKind.i64 (0:Int))) ((List.drop (i * 1) l).getD 0 X)) (cIf (decide ((p + 1 + 1) * 8 ≤ 140737488355328)) (cIf (decide (p + 1 + 1 ≤ 140737488355328)) (cIf (decide ((L++[I x]).length = (p + 1) * 1)) (cIf (decide (((T++[(1,1,3)]).set j (p + 1,1,3)++[(1,1,3)])[j]? = some (p + 1,1,3))) (z0l Tryz.X94 (cd PP 94 [1,1,1,1,1,0,1,0,0]) ([AV.vs l n Tok.none,I x,X,X,X,X,X,X,X,X,AV.vs (L++[I x]++[I (cI (List.drop (i * 1) l) 0)]) (p + 1 + 1) (Tok.own j),Bo true,I (IntKind.i64.wrap ((↑i:Int) + (1:Int)))]++List.replicate 47 X) (St.mk [] (((T++[(1,1,3)]).set j (p + 1,1,3)++[(1,1,3)]).set j (p + 1 + 1,1,3)) []) (z0g 0 (z0k Tryz.X94 (cd PP 94 [1,1,1,1,1,1]) (z0q Tryz.X94 94 Q)))) False) False) False) False) False) False) False) False) (z0l Tryz.X94 (cd PP 94 [1,1,1,1,1,0,1,0,0]) ([AV.vs l n Tok.none,I x,X,X,X,X,X,X,X,X,AV.vs (L++[I x]) (p + 1) (Tok.own j),Bo true,I (IntKind.i64.wrap ((↑i:Int) + (1:Int)))]++List.replicate 47 X) (St.mk [] ((T++[(1,1,3)]).set j (p + 1,1,3)) []) (z0g 0 (z0k Tryz.X94 (cd PP 94 [1,1,1,1,1,1]) (z0q Tryz.X94 94 Q))))) False) False) False) False) False) False) False) False) (cIf (decide (i < n)) (cIf (decide (n * 1 = l.length)) (cIf (decide (0 < (List.drop (i * 1) l).length)) (cIf (z0t (AV.ofVal (Value.int IntKind.i64 (0:Int))) ((List.drop (i * 1) l).getD 0 X)) (cIf (cI (List.drop (i * 1) l) 0 != x) (cIf (decide (i < n)) (cIf (decide (n * 1 = l.length)) (cIf (decide (0 < (List.drop (i * 1) l).length)) (cIf (z0t (AV.ofVal (Value.int IntKind.i64 (0:Int))) ((List.drop (i * 1) l).getD 0 X)) (cIf (decide ((p + 1) * 8 ≤ 140737488355328)) (cIf (decide (p + 1 ≤ 140737488355328)) (cIf (decide (L.length = p * 1)) (cIf (decide ((T++[(1,1,3)])[j]? = some (p,1,3))) (z0l Tryz.X94 (cd PP 94 [1,1,1,1,1,0,1,0,0]) ([AV.vs l n Tok.none,I x,X,X,X,X,X,X,X,X,AV.vs (L++[I (cI (List.drop (i * 1) l) 0)]) (p + 1) (Tok.own j),Bo d,I (IntKind.i64.wrap ((↑i:Int) + (1:Int)))]++List.replicate 47 X) (St.mk [] ((T++[(1,1,3)]).set j (p + 1,1,3)) []) (z0g 0 (z0k Tryz.X94 (cd PP 94 [1,1,1,1,1,1]) (z0q Tryz.X94 94 Q)))) False) False) False) False) False) False) False) False) (z0l Tryz.X94 (cd PP 94 [1,1,1,1,1,0,1,0,0]) ([AV.vs l n Tok.none,I x,X,X,X,X,X,X,X,X,AV.vs L p (Tok.own j),Bo d,I (IntKind.i64.wrap ((↑i:Int) + (1:Int)))]++List.replicate 47 X) (St.mk [] T []) (z0g 0 (z0k Tryz.X94 (cd PP 94 [1,1,1,1,1,1]) (z0q Tryz.X94 94 Q))))) False) False) False) False)) False) False) False) False) (cIf (decide (i < n)) (cIf (decide (n * 1 = l.length)) (cIf (decide (0 < (List.drop (i * 1) l).length)) (cIf (z0t (AV.ofVal (Value.int IntKind.i64 (0:Int))) ((List.drop (i * 1) l).getD 0 X)) (cIf (cI (List.drop (i * 1) l) 0 != x) (cIf (decide (i < n)) (cIf (decide (n * 1 = l.length)) (cIf (decide (0 < (List.drop (i * 1) l).length)) (cIf (z0t (AV.ofVal (Value.int IntKind.i64 (0:Int))) ((List.drop (i * 1) l).getD 0 X)) (cIf (decide ((p + 1) * 8 ≤ 140737488355328)) (cIf (decide (p + 1 ≤ 140737488355328)) (cIf (decide (L.length = p * 1)) (cIf (decide ((T++[(1,1,3)])[j]? = some (p,1,3))) (z0l Tryz.X94 (cd PP 94 [1,1,1,1,1,0,1,0,0]) ([AV.vs l n Tok.none,I x,X,X,X,X,X,X,X,X,AV.vs (L++[I (cI (List.drop (i * 1) l) 0)]) (p + 1) (Tok.own j),Bo d,I (IntKind.i64.wrap ((↑i:Int) + (1:Int)))]++List.replicate 47 X) (St.mk [] ((T++[(1,1,3)]).set j (p + 1,1,3)) []) (z0g 0 (z0k Tryz.X94 (cd PP 94 [1,1,1,1,1,1]) (z0q Tryz.X94 94 Q)))) False) False) False) False) False) False) False) False) (z0l Tryz.X94 (cd PP 94 [1,1,1,1,1,0,1,0,0]) ([AV.vs l n Tok.none,I x,X,X,X,X,X,X,X,X,AV.vs L p (Tok.own j),Bo d,I (IntKind.i64.wrap ((↑i:Int) + (1:Int)))]++List.replicate 47 X) (St.mk [] T []) (z0g 0 (z0k Tryz.X94 (cd PP 94 [1,1,1,1,1,1]) (z0q Tryz.X94 94 Q))))) False) False) False) False)) (cIf (!d) (cIf (decide ((p + 1) * 8 ≤ 140737488355328)) (cIf (decide (p + 1 ≤ 140737488355328)) (cIf (decide (L.length = p * 1)) (cIf (decide ((T++[(1,1,3)])[j]? = some (p,1,3))) (z0q Tryz.X94 94 Q EX.ret [X,I x,X,X,X,X,X,X,AV.vs (L++[I x]) (p + 1) (Tok.own j),X,AV.vs (L++[I x]) (p + 1) (Tok.own j),Bo d,X,X,X,X,X,X,X,X,X,X,X,X,X,X,X,X,X,X,X,X,X,X,X,X,X,X,X,X,X,X,X,X,X,X,X,X,X,X,X,X,X,Bo d,Bo !d,AV.vs L p (Tok.own j),I x,AV.vs [I x] 1 (Tok.own T.length),AV.vs (L++[I x]) (p + 1) (Tok.own j),AV.vs (L++[I x]) (p + 1) (Tok.own j)] (St.mk [] ((T++[(1,1,3)]).set j (p + 1,1,3)) [])) False) False) False) False) (z0q Tryz.X94 94 Q EX.ret [X,I x,X,X,X,X,X,X,AV.vs L p (Tok.own j),X,AV.vs L p (Tok.own j),Bo d,X,X,X,X,X,X,X,X,X,X,X,X,X,X,X,X,X,X,X,X,X,X,X,X,X,X,X,X,X,X,X,X,X,X,X,X,X,X,X,X,X,Bo d,Bo !d,X,X,X,X,AV.vs L p (Tok.own j)] (St.mk [] T [])))):=by kernel_rfl
theorem v94 (l:List AV) (n:Nat) (x a b:Int) (Q:CR→Prop):wpF Tryz.X94 94 [.vs l n .none,I x,I a,I b] Q =
 (True∧cIf (!(decide (a ≤ x) && decide (x ≤ b))) (z0q Tryz.X94 94 Q EX.ret ([AV.vs l n Tok.none,I x,I a,I b,X,X,X,X,AV.vs l n Tok.none,Bo (decide (a ≤ x) && decide (x ≤ b)),X,X,X,I x,I a,I b,Bo (decide (a ≤ x) && decide (x ≤ b)),Bo (decide (a ≤ x) && decide (x ≤ b)),Bo !(decide (a ≤ x) && decide (x ≤ b)),AV.vs l n Tok.none]++List.replicate 40 X) (St.mk [] [] [])) (z0l Tryz.X94 (cd Tryz.X94.P 94 [1,1,1,1,1,0,1,0,0]) ([AV.vs l n Tok.none,I x,X,X,X,X,X,X,X,X,AV.vs [] 0 Tok.zero,Bo false,I 0]++List.replicate 47 X) (St.mk [] [] []) (z0g 0 (z0k Tryz.X94 (cd Tryz.X94.P 94 [1,1,1,1,1,1]) (z0q Tryz.X94 94 Q))))):=by kernel_rfl
theorem w5b (l:List AV) (n i:Nat) (x:Int) (Q:CR→Prop):wpC Tryz.X94 (cd PP 94 [1,1,1,1,1,0,1,0,0]) ([.vs l n .none,I x,X,X,X,X,X,X,X,X,.vs [] 0 .zero,Bo false,I i]++List.replicate 47 X) ⟨[],[],[]⟩ (z1i Tryz.X94 (cd PP 94 [1,1,1,1,1,0,1,0,0]) (z0g 0 (z0k Tryz.X94 (cd PP 94 [1,1,1,1,1,1]) (z0q Tryz.X94 94 Q)))) =
 (cIf (decide ((↑i:Int) < (↑n:Int))) (cIf (decide (i < n)) (cIf (decide (n * 1 = l.length)) (cIf (decide (0 < (List.drop (i * 1) l).length)) (cIf (z0t (AV.ofVal (Value.int IntKind.i64 (0:Int))) ((List.drop (i * 1) l).getD 0 X)) (cIf (decide (x ≤ cI (List.drop (i * 1) l) 0)) (cIf (decide (i < n)) (cIf (decide (n * 1 = l.length)) (cIf (decide (0 < (List.drop (i * 1) l).length)) (cIf (z0t (AV.ofVal (Value.int IntKind.i64 (0:Int))) ((List.drop (i * 1) l).getD 0 X)) (cIf (cI (List.drop (i * 1) l) 0 != x) (cIf (decide (i < n)) (cIf (decide (n * 1 = l.length)) (cIf (decide (0 < (List.drop (i * 1) l).length)) (cIf (z0t (AV.ofVal (Value.int IntKind.i64 (0:Int))) ((List.drop (i * 1) l).getD 0 X)) (z0l Tryz.X94 (cd PP 94 [1,1,1,1,1,0,1,0,0]) ([AV.vs l n Tok.none,I x,X,X,X,X,X,X,X,X,AV.vs [I x,I (cI (List.drop (i * 1) l) 0)] 2 (Tok.own 1),Bo true,I (IntKind.i64.wrap ((↑i:Int) + (1:Int)))]++List.replicate 47 X) (St.mk [] [(1,1,3),(2,1,3),(1,1,3)] []) (z0g 0 (z0k Tryz.X94 (cd PP 94 [1,1,1,1,1,1]) (z0q Tryz.X94 94 Q)))) False) False) False) False) (z0l Tryz.X94 (cd PP 94 [1,1,1,1,1,0,1,0,0]) ([AV.vs l n Tok.none,I x,X,X,X,X,X,X,X,X,AV.vs [I x] 1 (Tok.own 1),Bo true,I (IntKind.i64.wrap ((↑i:Int) + (1:Int)))]++List.replicate 47 X) (St.mk [] [(1,1,3),(1,1,3)] []) (z0g 0 (z0k Tryz.X94 (cd PP 94 [1,1,1,1,1,1]) (z0q Tryz.X94 94 Q))))) False) False) False) False) (cIf (decide (i < n)) (cIf (decide (n * 1 = l.length)) (cIf (decide (0 < (List.drop (i * 1) l).length)) (cIf (z0t (AV.ofVal (Value.int IntKind.i64 (0:Int))) ((List.drop (i * 1) l).getD 0 X)) (cIf (cI (List.drop (i * 1) l) 0 != x) (cIf (decide (i < n)) (cIf (decide (n * 1 = l.length)) (cIf (decide (0 < (List.drop (i * 1) l).length)) (cIf (z0t (AV.ofVal (Value.int IntKind.i64 (0:Int))) ((List.drop (i * 1) l).getD 0 X)) (z0l Tryz.X94 (cd PP 94 [1,1,1,1,1,0,1,0,0]) ([AV.vs l n Tok.none,I x,X,X,X,X,X,X,X,X,AV.vs [I (cI (List.drop (i * 1) l) 0)] 1 (Tok.own 1),Bo false,I (IntKind.i64.wrap ((↑i:Int) + (1:Int)))]++List.replicate 47 X) (St.mk [] [(1,1,3),(1,1,3)] []) (z0g 0 (z0k Tryz.X94 (cd PP 94 [1,1,1,1,1,1]) (z0q Tryz.X94 94 Q)))) False) False) False) False) (z0l Tryz.X94 (cd PP 94 [1,1,1,1,1,0,1,0,0]) ([AV.vs l n Tok.none,I x,X,X,X,X,X,X,X,X,AV.vs [] 0 Tok.zero,Bo false,I (IntKind.i64.wrap ((↑i:Int) + (1:Int)))]++List.replicate 47 X) (St.mk [] [] []) (z0g 0 (z0k Tryz.X94 (cd PP 94 [1,1,1,1,1,1]) (z0q Tryz.X94 94 Q))))) False) False) False) False)) False) False) False) False) (Q (CR.ret (AV.vs [I x] 1 Tok.none)))):=by kernel_rfl
end Go.Proofs
set_option maxRecDepth 100000
set_option linter.unusedVariables false
set_option linter.unusedSectionVars false
set_option linter.unusedSimpArgs false
namespace Go.Ev
theorem w4r {α:Type} {T:List α} {j:Nat} {a b:α} (h:T[j]? = some a):(T++[b])[j]? = some a:=by
 rw [List.getElem?_append_left (List.getElem?_eq_some_iff.1 h).1]; exact h
theorem w4e {α:Type} {T:List α} {j:Nat} {a b c:α} (h:T[j]? = some a):((T++[b]).set j c)[j]? = some c:=by
 have:=(List.getElem?_eq_some_iff.1 h).1
 rw [List.getElem?_set_self (by simp; omega)]
theorem w5h (os:List Int) (x:Int):z0a z0s os++[I x] = z0a z0s (os++[x]):=by rw [y86]; rfl
end Go.Ev
namespace Go.Proofs
open Go Go.Ev
attribute [local irreducible] wpF wpC cd
theorem w34:Cts Tryz.B [(118,R118)]:=(Cts.nil _).cons y7s
section
variable {xs:List Int} (hl:xs.length ≤ 1000000) {x:Int}
include hl
theorem w37 (Q:CR→Prop):∀ (d i:Nat) (os:List Int) (dn:Bool) (j:Nat) (T:List (Nat × (Nat × Nat))),xs.length - i = d→i ≤ xs.length→os.length ≤ 2 * i→T[j]? = some (os.length,(1,3))→(∀ t,Q (.ret (.vs (z0a z0s (os++w27 x dn (xs.drop i))) (os++w27 x dn (xs.drop i)).length t))) →
  z0l Tryz.X94 (cd PP 94 [1,1,1,1,1,0,1,0,0]) ([.vs (z0a z0s xs) xs.length .none,I x,X,X,X,X,X,X,X,X,.vs (z0a z0s os) os.length (.own j),Bo dn,I i]++List.replicate 47 X) ⟨[],T,[]⟩ (z0g 0 (z0k Tryz.X94 (cd PP 94 [1,1,1,1,1,1]) (z0q Tryz.X94 94 Q))):=by
 intro d
 induction d with
 | zero =>
  intro i os dn j T hd hi hos hT hQ
  have hi':i = xs.length:=by omega
  subst hi'
  have hno:¬ ((xs.length:Nat):Int) < (xs.length:Nat):=by omega
  rw [List.drop_length] at hQ
  refine z0y Tryz.bok w34 ((w5a _ _ _ _ _ j x dn T Q).mpr (z02 (df hno) ?_))
  cases dn with
  | false =>
   refine z0h rfl (z0h (dt (by omega)) (z0h (dt (by omega)) (z0h (dt (eNum.lenL os)) (z0h (dt (w4r hT)) ?_))))
   have hQ2:∀ t,Q (.ret (.vs (z0a z0s (os++[x])) (os++[x]).length t)):=hQ
   rw [w5h,show os.length + 1 = (os++[x]).length by simp]
   exact w3o (C:=Tryz.X94) (fn:=Tryz.f94) Tryz.func94 rfl (eNum.noHL' 0 _) (eNum.scL 0 _) hQ2
  | true =>
   refine z02 rfl ?_
   have hQ2:∀ t,Q (.ret (.vs (z0a z0s os) os.length t)):=by simpa [w27] using hQ
   exact w3o (C:=Tryz.X94) (fn:=Tryz.f94) Tryz.func94 rfl (eNum.noHL' 0 _) (eNum.scL 0 _) hQ2
 | succ d ih =>
  intro i os dn j T hd hi hos hT hQ
  have hlt:i < xs.length:=by omega
  have e1:xs.length - (i + 1) = d:=by omega
  have w1:IntKind.i64.wrap ((i:Int) + 1) = ((i + 1:Nat):Int):=z1c (by omega) (by omega)
  have h1:(i:Int) < xs.length:=by omega
  obtain ⟨y,hy,hdr⟩:=z06 hlt
  rw [hdr] at hQ
  have t1:decide ((T++[(1,1,3)])[j]? = some (os.length,1,3)) = true:=dt (w4r hT)
  have t2:decide (((T++[(1,1,3)]).set j (os.length + 1,1,3)++[(1,1,3)])[j]? = some (os.length + 1,1,3)) = true:=dt (w4r (w4e hT))
  have b1:decide ((os.length + 1) * 8 ≤ 140737488355328) = true:=dt (by omega)
  have b2:decide (os.length + 1 ≤ 140737488355328) = true:=dt (by omega)
  have b3:decide ((os.length + 1 + 1) * 8 ≤ 140737488355328) = true:=dt (by omega)
  have b4:decide (os.length + 1 + 1 ≤ 140737488355328) = true:=dt (by omega)
  have b5:decide ((z0a z0s os).length = os.length * 1) = true:=dt (eNum.lenL os)
  have b6:decide ((z0a z0s (os++[x])).length = (os.length + 1) * 1) = true:=dt (by rw [eNum.lenL]; simp)
  refine z0y Tryz.bok w34 ((w5a _ _ _ _ _ j x dn T Q).mpr ?_)
  simp only [dt h1,dt hlt,eNum.gl,eNum.gd hlt,eNum.g0 hlt (by decide),eNum.el hy,eNum.ld0 hy (by decide),y1s,eNum.cI0 hy (by decide),y3s,y50,z0x,w1,w5h,t1,t2,b1,b2,b3,b4,b5,b6]
  have L1:∀ z,(os++[z]).length = os.length + 1:=fun z=>by simp
  have L2:∀ z w,(os++[z]++[w]).length = os.length + 1 + 1:=fun z w=>by simp
  have keepd:∀ dn',(∀ t,Q (.ret (.vs (z0a z0s (os++[y]++w27 x dn' (xs.drop (i + 1)))) (os++[y]++w27 x dn' (xs.drop (i + 1))).length t)))→z0l Tryz.X94 (cd PP 94 [1,1,1,1,1,0,1,0,0]) ([.vs (z0a z0s xs) xs.length .none,I x,X,X,X,X,X,X,X,X,.vs (z0a z0s (os++[y])) (os.length + 1) (.own j),Bo dn',I ((i + 1:Nat):Int)]++List.replicate 47 X) ⟨[],(T++[(1,1,3)]).set j (os.length + 1,1,3),[]⟩ (z0g 0 (z0k Tryz.X94 (cd PP 94 [1,1,1,1,1,1]) (z0q Tryz.X94 94 Q))):=fun dn' h=>by
   have:=ih (i + 1) (os++[y]) dn' j ((T++[(1,1,3)]).set j (os.length + 1,1,3)) e1 hlt (by rw [L1]; omega) (by rw [L1]; exact w4e hT) h
   rw [L1] at this
   exact this
  have skipd:∀ dn',(∀ t,Q (.ret (.vs (z0a z0s (os++w27 x dn' (xs.drop (i + 1)))) (os++w27 x dn' (xs.drop (i + 1))).length t)))→z0l Tryz.X94 (cd PP 94 [1,1,1,1,1,0,1,0,0]) ([.vs (z0a z0s xs) xs.length .none,I x,X,X,X,X,X,X,X,X,.vs (z0a z0s os) os.length (.own j),Bo dn',I ((i + 1:Nat):Int)]++List.replicate 47 X) ⟨[],T,[]⟩ (z0g 0 (z0k Tryz.X94 (cd PP 94 [1,1,1,1,1,1]) (z0q Tryz.X94 94 Q))):=fun dn' h =>
   ih (i + 1) os dn' j T e1 hlt (by omega) hT h
  refine z0i (fun c=>?_) (fun c=>?_)
  ·have c:dn = false:=by simpa using c
   subst c
   refine z0i (fun c2=>z0i (fun c3=>?_) (fun c3=>?_)) (fun c2=>z0i (fun c3=>?_) (fun c3=>?_))
   ·have c2:x ≤ y:=of_decide_eq_true c2
    have c3:y ≠ x:=by simpa using c3
    have:=ih (i + 1) (os++[x]++[y]) true j (((T++[(1,1,3)]).set j (os.length + 1,1,3)++[(1,1,3)]).set j (os.length + 1 + 1,1,3)) e1 hlt (by rw [L2]; omega) (by rw [L2]; exact w4e (w4e hT)) (fun t=>by
     have:=hQ t
     simp only [w27,Bool.not_false,Bool.true_and,dt c2,if_true,if_pos c3,Bool.or_true] at this
     simpa using this)
    rw [L2] at this
    exact this
   ·have c2:x ≤ y:=of_decide_eq_true c2
    have c3:¬ y ≠ x:=by simpa using c3
    have:=ih (i + 1) (os++[x]) true j ((T++[(1,1,3)]).set j (os.length + 1,1,3)) e1 hlt (by rw [L1]; omega) (by rw [L1]; exact w4e hT) (fun t=>by
     have:=hQ t
     simp only [w27,Bool.not_false,Bool.true_and,dt c2,if_true,if_neg c3,Bool.or_true] at this
     simpa using this)
    rw [L1] at this
    exact this
   ·have c2:¬ x ≤ y:=of_decide_eq_false c2
    have c3:y ≠ x:=by simpa using c3
    refine keepd false fun t=>?_
    have:=hQ t
    simp only [w27,Bool.not_false,Bool.true_and,df c2,if_pos c3,Bool.or_false] at this
    simpa using this
   ·have c2:¬ x ≤ y:=of_decide_eq_false c2
    have c3:¬ y ≠ x:=by simpa using c3
    omega
  ·have c:dn = true:=by simpa using c
   subst c
   refine z0i (fun c3=>keepd true fun t=>?_) (fun c3=>skipd true fun t=>?_)
   ·have c3:y ≠ x:=by simpa using c3
    have:=hQ t
    simp only [w27,Bool.not_true,Bool.false_and,if_pos c3,Bool.true_or] at this
    simpa using this
   ·have c3:¬ y ≠ x:=by simpa using c3
    have:=hQ t
    simp only [w27,Bool.not_true,Bool.false_and,if_neg c3,Bool.true_or] at this
    simpa using this
theorem w5i (Q:CR→Prop) (hQ:∀ t,Q (.ret (.vs (z0a z0s (w27 x false xs)) (w27 x false xs).length t))) :
  z0l Tryz.X94 (cd PP 94 [1,1,1,1,1,0,1,0,0]) ([.vs (z0a z0s xs) xs.length .none,I x,X,X,X,X,X,X,X,X,.vs [] 0 .zero,Bo false,I (0:Nat)]++List.replicate 47 X) ⟨[],[],[]⟩ (z0g 0 (z0k Tryz.X94 (cd PP 94 [1,1,1,1,1,1]) (z0q Tryz.X94 94 Q))):=by
 cases xs with
 | nil =>
  refine z0y Tryz.bok w34 ((w5b _ _ 0 x Q).mpr (z02 rfl ?_))
  exact hQ .none
 | cons y l =>
  have hlt:0 < (y :: l).length:=by simp
  have w1:IntKind.i64.wrap (((0:Nat):Int) + 1) = ((1:Nat):Int):=z1c (by omega) (by omega)
  have h1:((0:Nat):Int) < (y :: l).length:=by omega
  have hy:(y :: l)[0]? = some y:=rfl
  refine z0y Tryz.bok w34 ((w5b (z0a z0s (y :: l)) (y :: l).length 0 x Q).mpr ?_)
  simp only [dt h1,dt hlt,eNum.gl,eNum.gd hlt,eNum.g0 hlt (by decide),eNum.el hy,eNum.ld0 hy (by decide),y1s,eNum.cI0 hy (by decide),y3s,y50,z0x,w1]
  refine z0i (fun c2=>z0i (fun c3=>?_) (fun c3=>?_)) (fun c2=>z0i (fun c3=>?_) (fun c3=>?_))
  ·have c2:x ≤ y:=of_decide_eq_true c2
   have c3:y ≠ x:=by simpa using c3
   exact w37 hl Q _ 1 [x,y] true 1 [(1,1,3),(2,1,3),(1,1,3)] rfl hlt (by simp) rfl (fun t=>by
    have:=hQ t
    simp only [w27,Bool.not_false,Bool.true_and,dt c2,if_true,if_pos c3,Bool.or_true] at this
    simpa using this)
  ·have c2:x ≤ y:=of_decide_eq_true c2
   have c3:¬ y ≠ x:=by simpa using c3
   exact w37 hl Q _ 1 [x] true 1 [(1,1,3),(1,1,3)] rfl hlt (by simp) rfl (fun t=>by
    have:=hQ t
    simp only [w27,Bool.not_false,Bool.true_and,dt c2,if_true,if_neg c3,Bool.or_true] at this
    simpa using this)
  ·have c2:¬ x ≤ y:=of_decide_eq_false c2
   have c3:y ≠ x:=by simpa using c3
   exact w37 hl Q _ 1 [y] false 1 [(1,1,3),(1,1,3)] rfl hlt (by simp) rfl (fun t=>by
    have:=hQ t
    simp only [w27,Bool.not_false,Bool.true_and,df c2,if_pos c3,Bool.or_false] at this
    simpa using this)
  ·have c2:¬ x ≤ y:=of_decide_eq_false c2
   have c3:¬ y ≠ x:=by simpa using c3
   omega
end
theorem ct94:Ct Tryz.B.c0 94 R94:=Ct.of_wpZ (l:=[(118,R118)]) (lm:=w5m) (tp:=[]) (ct:=[]) (sm:=[]) Tryz.bok w34 ⟨_,_,Tryz.func94,rfl⟩ fun args D r hR hD=>by
 unfold R94 at hR
 split at hR <;> cases hR
 rename_i l n x a b
 obtain ⟨xs,rfl,rfl,hx⟩:=hD
 refine ⟨by simp [noHL,noH,eNum.noHL'],?_⟩
 rw [show z0e 0 [AV.vs (z0a z0s xs) xs.length .none,I x,I a,I b] = [AV.vs (z0a z0s xs) xs.length .none,I x,I a,I b] by simp [z0e,scrub,eNum.scL,Tok.scrub],w3m]
 show wpF Tryz.X94 94 _ _
 rw [v94]
 refine ⟨trivial,z0i (fun c=>?_) (fun c=>?_)⟩
 ·have c:(decide (a ≤ x) && decide (x ≤ b)) = false:=by rw [Bool.not_eq_true'] at c; exact c
  have e:w26 xs x a b = xs:=by
   unfold w26
   rw [if_neg]
   rintro ⟨q1,q2⟩
   rw [dt q1,dt q2] at c
   cases c
  rw [e]
  refine w3o (C:=Tryz.X94) (fn:=Tryz.f94) Tryz.func94 rfl (eNum.noHL' 0 _) (eNum.scL 0 _) fun t=>?_
  show CR.ret (.vs (z5d (z0a z0s xs)) xs.length .none) = _
  rw [w3u]
 ·have c:(decide (a ≤ x) && decide (x ≤ b)) = true:=by rw [Bool.not_eq_false'] at c; exact c
  have e:w26 xs x a b = w27 x false xs:=by
   unfold w26
   rw [if_pos]
   simpa using c
  rw [e]
  refine w5i hx _ fun t=>?_
  show CR.ret (.vs (z5d (z0a z0s (w27 x false xs))) (w27 x false xs).length .none) = _
  rw [w3u]
noncomputable def Tryz.BR1:Base:=Tryz.B.hk 94 (w3r R94)
theorem Tryz.br1ok:BaseOk Tryz.BR1:=Tryz.bok.hk (ct94.hookU Tryz.gtpB)
end Go.Proofs
--BASE Tryz.BR1
set_option maxRecDepth 100000
set_option linter.unusedVariables false
set_option linter.unusedSimpArgs false
namespace Go.Proofs
open Go Go.Ev
noncomputable def w7r:Spc:=fun args=>match args with
 | [.vs l n .none,.int .i64 x,.int .i64 a,.int .i64 b]=>some ((∃ xs:List Int,l = z0a z0s xs∧n = xs.length∧xs.length ≤ 900000)∧-10000000 ≤ x∧x ≤ 10000000,.ret (.vs (z0a z0s (w28 (w29 l) x a b)) (w28 (w29 l) x a b).length .none))
 | _=>none
def w41:List (Nat × List Nat):=[(3,[1,2,3,9,10]),(6,[9])]
noncomputable def Tryz.X146:WCx:=Tryz.BR1.wcx [] w41 [] [] []
theorem v146 (l:List AV) (n:Nat) (x a b:Int) (Q:CR→Prop):wpF Tryz.X146 146 [.vs l n .none,I x,I a,I b] Q =
 (z0l Tryz.X146 (cd Tryz.X146.P 146 [1,1,0,1,0,0]) ([X,I x,I a,I b,X,X,X,X,X,AV.vs l n Tok.none,I (-2)]++List.replicate 13 X) (St.mk [] [] []) (z0g 0 (z0k Tryz.X146 (cd Tryz.X146.P 146 [1,1,1]) (z0q Tryz.X146 146 Q)))):=by kernel_rfl
theorem w40 (l:List AV) (n:Nat) (x a b k:Int) (Q:CR→Prop):wpC Tryz.X146 (cd PP 146 [1,1,0,1,0,0]) ([X,I x,I a,I b,X,X,X,X,X,.vs l n .none,I k]++List.replicate 13 X) ⟨[],[],[]⟩ (z1i Tryz.X146 (cd PP 146 [1,1,0,1,0,0]) (z0g 0 (z0k Tryz.X146 (cd PP 146 [1,1,1]) (z0q Tryz.X146 146 Q)))) =
 (cIf (decide (k ≤ (2:Int))) ((∃ (xs:List Int),l = z0a z0s xs∧n = xs.length∧xs.length ≤ 1000000)∧z0l Tryz.X146 (cd PP 146 [1,1,0,1,0,0]) ([X,I x,I a,I b,X,X,X,X,X,AV.vs (z0a z0s (w26 (w29 l) (IntKind.i64.wrap (x + k)) a b)) (w26 (w29 l) (IntKind.i64.wrap (x + k)) a b).length Tok.none,I (IntKind.i64.wrap (k + (1:Int)))]++List.replicate 13 X) (St.mk [] [] []) (z0g 0 (z0k Tryz.X146 (cd PP 146 [1,1,1]) (z0q Tryz.X146 146 Q)))) (z0q Tryz.X146 146 Q EX.ret [X,X,X,X,X,X,X,X,AV.vs l n Tok.none,AV.vs l n Tok.none,X,X,X,X,X,X,X,X,X,X,X,X,X,AV.vs l n Tok.none] (St.mk [] [] []))):=by kernel_rfl
end Go.Proofs
set_option maxRecDepth 100000
set_option linter.unusedVariables false
set_option linter.unusedSimpArgs false
namespace Go.Proofs
open Go Go.Ev
attribute [local irreducible] wpF wpC cd
theorem w3v {xs:List Int} {x a b k:Int} (hl:xs.length ≤ 999999) (hx1:-10000000 ≤ x) (hx2:x ≤ 10000000) (hk1:-2 ≤ k) (hk2:k ≤ 2) (Q:CR→Prop)
  (h:z0l Tryz.X146 (cd PP 146 [1,1,0,1,0,0]) ([X,I x,I a,I b,X,X,X,X,X,.vs (z0a z0s (w26 xs (x + k) a b)) (w26 xs (x + k) a b).length .none,I (k + 1)]++List.replicate 13 X) ⟨[],[],[]⟩ (z0g 0 (z0k Tryz.X146 (cd PP 146 [1,1,1]) (z0q Tryz.X146 146 Q)))) :
  z0l Tryz.X146 (cd PP 146 [1,1,0,1,0,0]) ([X,I x,I a,I b,X,X,X,X,X,.vs (z0a z0s xs) xs.length .none,I k]++List.replicate 13 X) ⟨[],[],[]⟩ (z0g 0 (z0k Tryz.X146 (cd PP 146 [1,1,1]) (z0q Tryz.X146 146 Q))):=by
 refine z0y Tryz.br1ok (Cts.nil _) ((w40 _ _ x a b k Q).mpr (z0h (dt hk2) ⟨⟨xs,rfl,rfl,by omega⟩,?_⟩))
 rw [w3m,z1c (x:=x + k) (by omega) (by omega),z1c (x:=k + 1) (by omega) (by omega)]
 exact h
theorem ct146:Ct Tryz.B.c0 146 w7r:=Ct.of_wpZ (B:=Tryz.BR1) (l:=[]) (lm:=w41) (tp:=[]) (ct:=[]) (sm:=[]) Tryz.br1ok (Cts.nil _) ⟨_,_,Tryz.func146,rfl⟩ fun args D r hR hD=>by
 unfold w7r at hR
 split at hR <;> cases hR
 rename_i l n x a b
 obtain ⟨⟨xs,rfl,rfl,hl⟩,h1,h2⟩:=hD
 refine ⟨by simp [noHL,noH,eNum.noHL'],?_⟩
 rw [show z0e 0 [AV.vs (z0a z0s xs) xs.length .none,I x,I a,I b] = [AV.vs (z0a z0s xs) xs.length .none,I x,I a,I b] by simp [z0e,scrub,eNum.scL,Tok.scrub],w3m]
 show wpF Tryz.X146 146 _ _
 rw [v146]
 have l1:=w3a xs (x + -2) a b
 have l2:=w3a (w26 xs (x + -2) a b) (x + -1) a b
 have l3:=w3a (w26 (w26 xs (x + -2) a b) (x + -1) a b) (x + 0) a b
 have l4:=w3a (w26 (w26 (w26 xs (x + -2) a b) (x + -1) a b) (x + 0) a b) (x + 1) a b
 refine w3v (by omega) h1 h2 (by omega) (by omega) _ (w3v (k:=-1) (by omega) h1 h2 (by omega) (by omega) _ (w3v (k:=0) (by omega) h1 h2 (by omega) (by omega) _ (w3v (k:=1) (by omega) h1 h2 (by omega) (by omega) _ (w3v (k:=2) (by omega) h1 h2 (by omega) (by omega) _ ?_))))
 refine z0y Tryz.br1ok (Cts.nil _) ((w40 _ _ x a b 3 _).mpr (z02 rfl ?_))
 refine w3o (C:=Tryz.X146) (fn:=Tryz.f146) Tryz.func146 rfl (eNum.noHL' 0 _) (eNum.scL 0 _) fun t=>?_
 show CR.ret (.vs (z5d (z0a z0s (w28 xs x a b))) (w28 xs x a b).length .none) = _
 rw [w3u]
noncomputable def Tryz.BR2:Base:=Tryz.BR1.hk 146 (w3r w7r)
theorem Tryz.br2ok:BaseOk Tryz.BR2:=Tryz.br1ok.hk (ct146.hookU Tryz.gtpB)
end Go.Proofs
--BASE Tryz.BR2
set_option maxRecDepth 100000
set_option linter.unusedVariables false
set_option linter.unusedSimpArgs false
namespace Go.Proofs
open Go Go.Ev
def w3z (ds:List Dcr):Prop:=∀ x ∈ ds,(-1000000 ≤ x.fr∧x.fr ≤ 1000000)∧(-1000000 ≤ x.un∧x.un ≤ 1000000)∧(0 ≤ x.op∧x.op ≤ 1440)∧(0 ≤ x.cl∧x.cl ≤ 1440)
noncomputable def R85:Spc:=fun args=>match args with
 | [.vs c k .none,.int .i64 a,.int .i64 b]=>some ((∃ ds:List Dcr,c = z0a z0b ds∧k = ds.length∧ds.length ≤ 10000∧w3z ds)∧-1000000 ≤ a∧a ≤ 1000000∧-1000000 ≤ b∧b ≤ 1000000,.ret (.vs (z0a z0s (w3d (z0j c) a b)) (w3d (z0j c) a b).length .none))
 | _=>none
noncomputable def R86:Spc:=fun args=>match args with
 | [.agg [.vs l n .none,.vs c k .none],.agg [.int .i64 id,.int .i64 zo],.int .i64 day,.int .i64 a,.int .i64 b]=>some ((∃ ms ds,l = z0a z0d ms∧n = ms.length∧c = z0a z0b ds∧k = ds.length∧ds.length ≤ 10000∧w3z ds)∧-1000000 ≤ day∧day ≤ 1000000∧-10000 ≤ zo∧zo ≤ 10000,.ret (.vs (z0a z0s (w3b (z0j c) ⟨id,zo⟩ day a b)) (w3b (z0j c) ⟨id,zo⟩ day a b).length .none))
 | _=>none
def w5o:List (Nat × List Nat):=[(4,[0,1,2,7,8]),(8,[7])]
noncomputable def Tryz.X85:WCx:=Tryz.BR2.wcx [] w5o [] [] []
def w5n:List (Nat × List Nat):=[(3,[2,3,4,5,6,11,12]),(7,[2,3,4,6,11])]
noncomputable def Tryz.X86:WCx:=Tryz.BR2.wcx [] w5n [] [] []
theorem v85 (c:List AV) (k:Nat) (a b:Int) (Q:CR→Prop):wpF Tryz.X85 85 [.vs c k .none,I a,I b] Q =
 (((∃ (xs:List Int),[] = z0a z0s xs∧0 = xs.length∧xs.length ≤ 900000)∧(-10000000:Int) ≤ a∧a ≤ (10000000:Int))∧((∃ (xs:List Int),z0a z0s (w28 (w29 []) a a b) = z0a z0s xs∧(w28 (w29 []) a a b).length = xs.length∧xs.length ≤ 900000)∧(-10000000:Int) ≤ b∧b ≤ (10000000:Int))∧z0l Tryz.X85 (cd Tryz.X85.P 85 [1,1,1,0,1,0,0]) ([AV.vs c k Tok.none,I a,I b,X,X,X,X,AV.vs (z0a z0s (w28 (w29 (z0a z0s (w28 (w29 []) a a b))) b a b)) (w28 (w29 (z0a z0s (w28 (w29 []) a a b))) b a b).length Tok.none,I 0]++List.replicate 34 X) (St.mk [] [] []) (z0g 0 (z0k Tryz.X85 (cd Tryz.X85.P 85 [1,1,1,1]) (z0q Tryz.X85 85 Q)))):=by kernel_rfl
theorem w5d (c l:List AV) (k n i:Nat) (a b:Int) (Q:CR→Prop):wpC Tryz.X85 (cd PP 85 [1,1,1,0,1,0,0]) ([.vs c k .none,I a,I b,X,X,X,X,.vs l n .none,I i]++List.replicate 34 X) ⟨[],[],[]⟩ (z1i Tryz.X85 (cd PP 85 [1,1,1,0,1,0,0]) (z0g 0 (z0k Tryz.X85 (cd PP 85 [1,1,1,1]) (z0q Tryz.X85 85 Q)))) =
 (cIf (decide ((↑i:Int) < (↑k:Int))) (cIf (decide (i < k)) (cIf (decide (k * 9 = c.length)) (cIf (decide (0 < (List.drop 5 (List.drop (i * 9) c)).length)) (cIf (z0t (AV.ofVal (Value.int IntKind.i64 (0:Int))) ((List.drop 5 (List.drop (i * 9) c)).getD 0 X)) (((∃ (xs:List Int),l = z0a z0s xs∧n = xs.length∧xs.length ≤ 900000)∧(-10000000:Int) ≤ cI (List.drop 5 (List.drop (i * 9) c)) 0∧cI (List.drop 5 (List.drop (i * 9) c)) 0 ≤ (10000000:Int))∧cIf (decide (i < k)) (cIf (decide (k * 9 = c.length)) (cIf (decide (0 < (List.drop 6 (List.drop (i * 9) c)).length)) (cIf (z0t (AV.ofVal (Value.int IntKind.i64 (0:Int))) ((List.drop 6 (List.drop (i * 9) c)).getD 0 X)) (((∃ (xs:List Int),z0a z0s (w28 (w29 l) (cI (List.drop 5 (List.drop (i * 9) c)) 0) a b) = z0a z0s xs∧(w28 (w29 l) (cI (List.drop 5 (List.drop (i * 9) c)) 0) a b).length = xs.length∧xs.length ≤ 900000)∧(-10000000:Int) ≤ cI (List.drop 6 (List.drop (i * 9) c)) 0∧cI (List.drop 6 (List.drop (i * 9) c)) 0 ≤ (10000000:Int))∧z0l Tryz.X85 (cd PP 85 [1,1,1,0,1,0,0]) ([AV.vs c k Tok.none,I a,I b,X,X,X,X,AV.vs (z0a z0s (w28 (w29 (z0a z0s (w28 (w29 l) (cI (List.drop 5 (List.drop (i * 9) c)) 0) a b))) (cI (List.drop 6 (List.drop (i * 9) c)) 0) a b)) (w28 (w29 (z0a z0s (w28 (w29 l) (cI (List.drop 5 (List.drop (i * 9) c)) 0) a b))) (cI (List.drop 6 (List.drop (i * 9) c)) 0) a b).length Tok.none,I (IntKind.i64.wrap ((↑i:Int) + (1:Int)))]++List.replicate 34 X) (St.mk [] [] []) (z0g 0 (z0k Tryz.X85 (cd PP 85 [1,1,1,1]) (z0q Tryz.X85 85 Q)))) False) False) False) False) False) False) False) False) (z0q Tryz.X85 85 Q EX.ret [X,X,X,X,X,X,AV.vs l n Tok.none,AV.vs l n Tok.none,X,X,X,X,X,X,X,X,X,X,X,X,X,X,X,X,X,X,X,X,X,X,X,X,X,X,X,X,X,X,X,X,X,X,AV.vs l n Tok.none] (St.mk [] [] []))):=by kernel_rfl
theorem v86 (l c:List AV) (n k:Nat) (id zo day a b:Int) (Q:CR→Prop):wpF Tryz.X86 86 [.agg [.vs l n .none,.vs c k .none],.agg [I id,I zo],I day,I a,I b] Q =
 (z0l Tryz.X86 (cd Tryz.X86.P 86 [1,1,0,1,0,0]) ([X,X,I day,I a,I b,AV.ptr 0 0,AV.ptr 1 0,X,X,X,X,AV.vs [] 0 Tok.zero,I 0]++List.replicate 48 X) (St.mk [some (HB.cells [AV.vs l n Tok.none,AV.vs c k Tok.none] 25),some (HB.cells [I id,I zo] 58)] [] []) (z0g 0 (z0k Tryz.X86 (cd Tryz.X86.P 86 [1,1,1]) (z0q Tryz.X86 86 Q)))):=by kernel_rfl
theorem w5c (l c o:List AV) (n k p i:Nat) (t:Tok) (id zo day a b:Int) (Q:CR→Prop):wpC Tryz.X86 (cd PP 86 [1,1,0,1,0,0]) ([X,X,I day,I a,I b,.ptr 0 0,.ptr 1 0,X,X,X,X,.vs o p t,I i]++List.replicate 48 X) ⟨[some (.cells [.vs l n .none,.vs c k .none] 25),some (.cells [I id,I zo] 58)],[],[]⟩ (z1i Tryz.X86 (cd PP 86 [1,1,0,1,0,0]) (z0g 0 (z0k Tryz.X86 (cd PP 86 [1,1,1]) (z0q Tryz.X86 86 Q)))) =
 (cIf (decide ((↑i:Int) < (↑k:Int))) (cIf (decide (i < k)) (cIf (decide (k * 9 = c.length)) (cIf (decide (0 < (List.drop 7 (List.drop (i * 9) c)).length)) (cIf (z0t (AV.ofVal (Value.int IntKind.i64 (0:Int))) ((List.drop 7 (List.drop (i * 9) c)).getD 0 X)) (cIf (noHL [some (HB.cells [AV.vs l n Tok.none,AV.vs c k Tok.none] 25),some (HB.cells [I id,I zo] 58)].length ([]++[AV.vs o p t,I (IntKind.i64.wrap (IntKind.i64.wrap (IntKind.i64.wrap ((1440:Int) * day) + cI (List.drop 7 (List.drop (i * 9) c)) 0) - zo)),I a,I b]++[])) ((∃ (xs:List Int),o = z0a z0s xs∧p = xs.length∧xs.length ≤ 1000000)∧St.mk [some (HB.cells [AV.vs l n Tok.none,AV.vs c k Tok.none] 25),some (HB.cells [I id,I zo] 58)] [] [] = St.mk [some (HB.cells [AV.vs l n Tok.none,AV.vs c k Tok.none] 25),some (HB.cells [I id,I zo] 58)] [] []∧cIf (decide (i < k)) (cIf (decide (k * 9 = c.length)) (cIf (decide (0 < (List.drop 8 (List.drop (i * 9) c)).length)) (cIf (z0t (AV.ofVal (Value.int IntKind.i64 (0:Int))) ((List.drop 8 (List.drop (i * 9) c)).getD 0 X)) (cIf (noHL [some (HB.cells [AV.vs l n Tok.none,AV.vs c k Tok.none] 25),some (HB.cells [I id,I zo] 58)].length ([]++[AV.vs (z0a z0s (w26 (w29 o) (IntKind.i64.wrap (IntKind.i64.wrap (IntKind.i64.wrap ((1440:Int) * day) + cI (List.drop 7 (List.drop (i * 9) c)) 0) - zo)) a b)) (w26 (w29 o) (IntKind.i64.wrap (IntKind.i64.wrap (IntKind.i64.wrap ((1440:Int) * day) + cI (List.drop 7 (List.drop (i * 9) c)) 0) - zo)) a b).length Tok.none,AV.int IntKind.i64 (IntKind.i64.wrap (IntKind.i64.wrap (IntKind.i64.wrap ((1440:Int) * day) + cI (List.drop 8 (List.drop (i * 9) c)) 0) - zo)),I a,I b]++[])) ((∃ (xs:List Int),z0a z0s (w26 (w29 o) (IntKind.i64.wrap (IntKind.i64.wrap (IntKind.i64.wrap ((1440:Int) * day) + cI (List.drop 7 (List.drop (i * 9) c)) 0) - zo)) a b) = z0a z0s xs∧(w26 (w29 o) (IntKind.i64.wrap (IntKind.i64.wrap (IntKind.i64.wrap ((1440:Int) * day) + cI (List.drop 7 (List.drop (i * 9) c)) 0) - zo)) a b).length = xs.length∧xs.length ≤ 1000000)∧St.mk [some (HB.cells [AV.vs l n Tok.none,AV.vs c k Tok.none] 25),some (HB.cells [I id,I zo] 58)] [] [] = St.mk [some (HB.cells [AV.vs l n Tok.none,AV.vs c k Tok.none] 25),some (HB.cells [I id,I zo] 58)] [] []∧z0l Tryz.X86 (cd PP 86 [1,1,0,1,0,0]) ([X,X,I day,I a,I b,AV.ptr 0 0,AV.ptr 1 0,X,X,X,X,AV.vs (z0a z0s (w26 (w29 (z0a z0s (w26 (w29 o) (IntKind.i64.wrap (IntKind.i64.wrap (IntKind.i64.wrap ((1440:Int) * day) + cI (List.drop 7 (List.drop (i * 9) c)) 0) - zo)) a b))) (IntKind.i64.wrap (IntKind.i64.wrap (IntKind.i64.wrap ((1440:Int) * day) + cI (List.drop 8 (List.drop (i * 9) c)) 0) - zo)) a b)) (w26 (w29 (z0a z0s (w26 (w29 o) (IntKind.i64.wrap (IntKind.i64.wrap (IntKind.i64.wrap ((1440:Int) * day) + cI (List.drop 7 (List.drop (i * 9) c)) 0) - zo)) a b))) (IntKind.i64.wrap (IntKind.i64.wrap (IntKind.i64.wrap ((1440:Int) * day) + cI (List.drop 8 (List.drop (i * 9) c)) 0) - zo)) a b).length Tok.none,I (IntKind.i64.wrap ((↑i:Int) + (1:Int)))]++List.replicate 48 X) (St.mk [some (HB.cells [AV.vs l n Tok.none,AV.vs c k Tok.none] 25),some (HB.cells [I id,I zo] 58)] [] []) (z0g 0 (z0k Tryz.X86 (cd PP 86 [1,1,1]) (z0q Tryz.X86 86 Q)))) False) False) False) False) False) False) False) False) False) False) ((∃ (xs:List Int),o = z0a z0s xs∧p = xs.length∧xs.length ≤ 1000000)∧z0q Tryz.X86 86 Q EX.ret [X,X,I day,I a,I b,X,AV.ptr 1 0,X,X,X,AV.vs (z0a z0s (w26 (w29 o) (IntKind.i64.wrap (IntKind.i64.wrap ((1440:Int) * day) - zo)) a b)) (w26 (w29 o) (IntKind.i64.wrap (IntKind.i64.wrap ((1440:Int) * day) - zo)) a b).length Tok.none,AV.vs o p t,X,X,X,X,X,X,X,X,X,X,X,X,X,X,X,X,X,X,X,X,X,X,X,X,X,X,X,X,X,X,X,X,X,X,X,X,X,X,X,X,AV.vs o p t,I day,I (IntKind.i64.wrap ((1440:Int) * day)),AV.ptr 1 1,I zo,I (IntKind.i64.wrap (IntKind.i64.wrap ((1440:Int) * day) - zo)),I a,I b,AV.vs (z0a z0s (w26 (w29 o) (IntKind.i64.wrap (IntKind.i64.wrap ((1440:Int) * day) - zo)) a b)) (w26 (w29 o) (IntKind.i64.wrap (IntKind.i64.wrap ((1440:Int) * day) - zo)) a b).length Tok.none] (St.mk [some (HB.cells [AV.vs l n Tok.none,AV.vs c k Tok.none] 25),some (HB.cells [I id,I zo] 58)] [] []))):=by kernel_rfl
end Go.Proofs
set_option maxRecDepth 100000
set_option linter.unusedVariables false
set_option linter.unusedSimpArgs false
namespace Go.Proofs
open Go Go.Ev
attribute [local irreducible] wpF wpC cd
theorem w49 {ds:List Dcr} (h:∀ x ∈ ds,DecOk x):w3z ds:=fun x hx=>by
 have h1:=(h x hx).f1
 have h2:=(h x hx).f2
 have h3:=(h x hx).un
 have h4:=(h x hx).o1
 have h5:=(h x hx).o2
 have h6:=(h x hx).o3
 omega
section
variable {ds:List Dcr} {a b:Int} (hdl:ds.length ≤ 10000) (hB:w3z ds)
include hdl hB
theorem w5k (Q:CR→Prop):∀ (d i:Nat) (o:List Int),ds.length - i = d→i ≤ ds.length→o.length ≤ 10 + 10 * i→(∀ t,Q (.ret (.vs (z0a z0s (w3l a b (ds.drop i) o)) (w3l a b (ds.drop i) o).length t))) →
  z0l Tryz.X85 (cd PP 85 [1,1,1,0,1,0,0]) ([.vs (z0a z0b ds) ds.length .none,I a,I b,X,X,X,X,.vs (z0a z0s o) o.length .none,I i]++List.replicate 34 X) ⟨[],[],[]⟩ (z0g 0 (z0k Tryz.X85 (cd PP 85 [1,1,1,1]) (z0q Tryz.X85 85 Q))):=by
 intro d
 induction d with
 | zero =>
  intro i o hd hi ho hQ
  have hi':i = ds.length:=by omega
  subst hi'
  have hno:¬ ((ds.length:Nat):Int) < (ds.length:Nat):=by omega
  rw [List.drop_length] at hQ
  refine z0y Tryz.br2ok (Cts.nil _) ((w5d _ _ _ _ _ a b Q).mpr (z02 (df hno) ?_))
  exact w3o (C:=Tryz.X85) (fn:=Tryz.f85) Tryz.func85 rfl (eNum.noHL' 0 _) (eNum.scL 0 _) hQ
 | succ d ih =>
  intro i o hd hi ho hQ
  have hlt:i < ds.length:=by omega
  have e1:ds.length - (i + 1) = d:=by omega
  have w1:IntKind.i64.wrap ((i:Int) + 1) = ((i + 1:Nat):Int):=z1c (by omega) (by omega)
  have h1:(i:Int) < ds.length:=by omega
  obtain ⟨x,hx,hdr⟩:=z06 hlt
  rw [hdr] at hQ
  have hxb:=hB x (List.mem_of_getElem? hx)
  have l1:=w3g o x.fr a b
  have l2:=w3g (w28 o x.fr a b) x.un a b
  refine z0y Tryz.br2ok (Cts.nil _) ((w5d _ _ _ _ _ a b Q).mpr ?_)
  simp only [dt h1,dt hlt,eD.gl,eD.gd hlt,eD.g0 hlt (by decide),eD.el hx,eD.ld0 hx (by decide),z16,eD.cI0 hx (by decide),z2t,z4j,eD.gf hlt 1 (by decide),eD.ld hx 1 (by decide),eD.cI hx 1 (by decide),z2s,z4i,eD.gf hlt 2 (by decide),eD.ld hx 2 (by decide),eD.cI hx 2 (by decide),z2r,z4h,eD.gf hlt 3 (by decide),eD.ld hx 3 (by decide),eD.cI hx 3 (by decide),z2q,z4g,eD.gf hlt 4 (by decide),eD.ld hx 4 (by decide),eD.cI hx 4 (by decide),z2p,z4f,eD.gf hlt 5 (by decide),eD.ld hx 5 (by decide),eD.cI hx 5 (by decide),z2o,z4e,eD.gf hlt 6 (by decide),eD.ld hx 6 (by decide),eD.cI hx 6 (by decide),z2n,z4d,eD.gf hlt 7 (by decide),eD.ld hx 7 (by decide),eD.cI hx 7 (by decide),z2m,z4c,eD.gf hlt 8 (by decide),eD.ld hx 8 (by decide),eD.cI hx 8 (by decide),z2l,z4b,z0x,w1,w3m]
  exact ⟨⟨⟨o,rfl,rfl,by omega⟩,by omega,by omega⟩,⟨⟨_,rfl,rfl,by omega⟩,by omega,by omega⟩,ih (i + 1) _ e1 hlt (by omega) hQ⟩
end
theorem ct85:Ct Tryz.B.c0 85 R85:=Ct.of_wpZ (B:=Tryz.BR2) (l:=[]) (lm:=w5o) (tp:=[]) (ct:=[]) (sm:=[]) Tryz.br2ok (Cts.nil _) ⟨_,_,Tryz.func85,rfl⟩ fun args D r hR hD=>by
 unfold R85 at hR
 split at hR <;> cases hR
 rename_i c k a b
 obtain ⟨⟨ds,rfl,rfl,hdl,hB⟩,h1,h2,h3,h4⟩:=hD
 refine ⟨by simp [noHL,noH,eD.noHL'],?_⟩
 rw [show z0e 0 [AV.vs (z0a z0b ds) ds.length .none,I a,I b] = [AV.vs (z0a z0b ds) ds.length .none,I a,I b] by simp [z0e,scrub,eD.scL,Tok.scrub],z1m]
 show wpF Tryz.X85 85 _ _
 have e0:w29 [] = []:=w3m []
 rw [v85,e0,w3m]
 have l1:=w3g [] a a b
 have l2:=w3g (w28 [] a a b) b a b
 simp only [List.length_nil] at l1
 refine ⟨⟨⟨[],rfl,rfl,by simp⟩,by omega,by omega⟩,⟨⟨_,rfl,rfl,by omega⟩,by omega,by omega⟩,?_⟩
 refine w5k hdl hB _ _ 0 _ rfl (Nat.zero_le _) (by omega) fun t=>?_
 show CR.ret (.vs (z5d (z0a z0s (w3d ds a b))) (w3d ds a b).length .none) = _
 rw [w3u]
section
variable {ms:List Mst} {ds:List Dcr} {id zo day a b:Int} (hdl:ds.length ≤ 10000) (hB:w3z ds) (h1:-1000000 ≤ day) (h2:day ≤ 1000000) (h3:-10000 ≤ zo) (h4:zo ≤ 10000)
include hdl hB h1 h2 h3 h4
theorem w5j (Q:CR→Prop):∀ (d i:Nat) (o:List Int) (t:Tok),ds.length - i = d→i ≤ ds.length→o.length ≤ 2 * i→(∀ t,Q (.ret (.vs (z0a z0s (w26 (w3f zo day a b (ds.drop i) o) (1440 * day - zo) a b)) (w26 (w3f zo day a b (ds.drop i) o) (1440 * day - zo) a b).length t))) →
  z0l Tryz.X86 (cd PP 86 [1,1,0,1,0,0]) ([X,X,I day,I a,I b,.ptr 0 0,.ptr 1 0,X,X,X,X,.vs (z0a z0s o) o.length t,I i]++List.replicate 48 X) ⟨[some (.cells [.vs (z0a z0d ms) ms.length .none,.vs (z0a z0b ds) ds.length .none] 25),some (.cells [I id,I zo] 58)],[],[]⟩ (z0g 0 (z0k Tryz.X86 (cd PP 86 [1,1,1]) (z0q Tryz.X86 86 Q))):=by
 have w2:IntKind.i64.wrap (1440 * day) = 1440 * day:=z1c (by omega) (by omega)
 intro d
 induction d with
 | zero =>
  intro i o t hd hi ho hQ
  have hi':i = ds.length:=by omega
  subst hi'
  have hno:¬ ((ds.length:Nat):Int) < (ds.length:Nat):=by omega
  rw [List.drop_length] at hQ
  refine z0y Tryz.br2ok (Cts.nil _) ((w5c _ _ _ _ _ _ _ t id zo day a b Q).mpr (z02 (df hno) ⟨⟨o,rfl,rfl,by omega⟩,?_⟩))
  rw [w3m,w2,z1c (x:=1440 * day - zo) (by omega) (by omega)]
  exact w3o (C:=Tryz.X86) (fn:=Tryz.f86) Tryz.func86 rfl (eNum.noHL' 0 _) (eNum.scL 0 _) hQ
 | succ d ih =>
  intro i o t hd hi ho hQ
  have hlt:i < ds.length:=by omega
  have e1:ds.length - (i + 1) = d:=by omega
  have w1:IntKind.i64.wrap ((i:Int) + 1) = ((i + 1:Nat):Int):=z1c (by omega) (by omega)
  have hl1:(i:Int) < ds.length:=by omega
  obtain ⟨x,hx,hdr⟩:=z06 hlt
  rw [hdr] at hQ
  have hxb:=hB x (List.mem_of_getElem? hx)
  have l1:=w3a o (1440 * day + x.op - zo) a b
  have l2:=w3a (w26 o (1440 * day + x.op - zo) a b) (1440 * day + x.cl - zo) a b
  have w3:IntKind.i64.wrap (1440 * day + x.op) = 1440 * day + x.op:=z1c (by omega) (by omega)
  have w4:IntKind.i64.wrap (1440 * day + x.op - zo) = 1440 * day + x.op - zo:=z1c (by omega) (by omega)
  have w5:IntKind.i64.wrap (1440 * day + x.cl) = 1440 * day + x.cl:=z1c (by omega) (by omega)
  have w6:IntKind.i64.wrap (1440 * day + x.cl - zo) = 1440 * day + x.cl - zo:=z1c (by omega) (by omega)
  refine z0y Tryz.br2ok (Cts.nil _) ((w5c _ _ _ _ _ _ _ t id zo day a b Q).mpr ?_)
  simp only [dt hl1,dt hlt,eD.gl,eD.gd hlt,eD.g0 hlt (by decide),eD.el hx,eD.ld0 hx (by decide),z16,eD.cI0 hx (by decide),z2t,z4j,eD.gf hlt 1 (by decide),eD.ld hx 1 (by decide),eD.cI hx 1 (by decide),z2s,z4i,eD.gf hlt 2 (by decide),eD.ld hx 2 (by decide),eD.cI hx 2 (by decide),z2r,z4h,eD.gf hlt 3 (by decide),eD.ld hx 3 (by decide),eD.cI hx 3 (by decide),z2q,z4g,eD.gf hlt 4 (by decide),eD.ld hx 4 (by decide),eD.cI hx 4 (by decide),z2p,z4f,eD.gf hlt 5 (by decide),eD.ld hx 5 (by decide),eD.cI hx 5 (by decide),z2o,z4e,eD.gf hlt 6 (by decide),eD.ld hx 6 (by decide),eD.cI hx 6 (by decide),z2n,z4d,eD.gf hlt 7 (by decide),eD.ld hx 7 (by decide),eD.cI hx 7 (by decide),z2m,z4c,eD.gf hlt 8 (by decide),eD.ld hx 8 (by decide),eD.cI hx 8 (by decide),z2l,z4b,z0x,w1,w2,w3,w4,w5,w6,w3m,true_and]
  exact z0h (by simp [noHL,noH,eNum.noHL']) ⟨⟨o,rfl,rfl,by omega⟩,z0h (by simp [noHL,noH,eNum.noHL']) ⟨⟨_,rfl,rfl,by omega⟩,ih (i + 1) _ .none e1 hlt (by omega) hQ⟩⟩
end
theorem ct86:Ct Tryz.B.c0 86 R86:=Ct.of_wpZ (B:=Tryz.BR2) (l:=[]) (lm:=w5n) (tp:=[]) (ct:=[]) (sm:=[]) Tryz.br2ok (Cts.nil _) ⟨_,_,Tryz.func86,rfl⟩ fun args D r hR hD=>by
 unfold R86 at hR
 split at hR <;> cases hR
 rename_i l n c k id zo day a b
 obtain ⟨⟨ms,ds,rfl,rfl,rfl,rfl,hdl,hB⟩,h1,h2,h3,h4⟩:=hD
 refine ⟨by simp [noHL,noH,eM.noHL',eD.noHL'],?_⟩
 rw [show z0e 0 [AV.agg [AV.vs (z0a z0d ms) ms.length .none,AV.vs (z0a z0b ds) ds.length .none],AV.agg [I id,I zo],I day,I a,I b] = [AV.agg [AV.vs (z0a z0d ms) ms.length .none,AV.vs (z0a z0b ds) ds.length .none],AV.agg [I id,I zo],I day,I a,I b] by simp [z0e,scrub,eM.scL,eD.scL,Tok.scrub],z1m]
 show wpF Tryz.X86 86 _ _
 rw [v86]
 refine w5j hdl hB h1 h2 h3 h4 _ _ 0 [] .zero rfl (Nat.zero_le _) (by simp) fun t=>?_
 show CR.ret (.vs (z5d (z0a z0s (w3b ds ⟨id,zo⟩ day a b))) (w3b ds ⟨id,zo⟩ day a b).length .none) = _
 rw [w3u]
noncomputable def Tryz.BR3:Base:=(Tryz.BR2.hk 85 (w3r R85)).hk 86 (w3r R86)
theorem Tryz.br3ok:BaseOk Tryz.BR3:=(Tryz.br2ok.hk (ct85.hookU Tryz.gtpB)).hk (ct86.hookU Tryz.gtpB)
end Go.Proofs
--BASE Tryz.BR3
set_option maxRecDepth 100000
set_option linter.unusedVariables false
set_option linter.unusedSimpArgs false
namespace Go.Proofs
open Go Go.Ev
def w5p:List (Nat × List Nat):=[(8,[2,3,9,11,14,15]),(9,[2,3,9,11,14,15]),(12,[2,3,9,11,14,15,16,17]),(17,[])]
noncomputable def Tryz.X32:WCx:=Tryz.BR3.wcx [(80,R80),(81,R81),(84,R84)] w5p [] [] [(8,3),(12,3)]
theorem v32 (a c:List AV) (n k:Nat) (i m:Int) (Q:CR→Prop):wpF Tryz.X32 32 [.agg [.vs a n .none,.vs c k .none],I i,I m] Q =
 ((∃ (ms:List Mst),∃ (ds:List Dcr),a = z0a z0d ms∧n = ms.length∧c = z0a z0b ds∧k = ds.length∧ms.length ≤ 10000000∧ds.length ≤ 10000000)∧cIf (z0c (z0a z0d) (fun (ms:List Mst)=>z0c (z0a z0b) (fun (ds:List Dcr)=>(z0f ms ds i m).snd) (0:Int) c) (0:Int) a != (0:Int)) (Q (CR.ret (AV.tup [I 0,Bo false,I (z0c (z0a z0d) (fun (ms:List Mst)=>z0c (z0a z0b) (fun (ds:List Dcr)=>(z0f ms ds i m).snd) (0:Int) c) (0:Int) a)]))) (((∃ (ms:List Mst),∃ (ds:List Dcr),a = z0a z0d ms∧n = ms.length∧c = z0a z0b ds∧k = ds.length∧ms.length ≤ 10000000∧ds.length ≤ 10000000)∧(0:Int) ≤ m∧m ≤ (144001439:Int)∧(-720:Int) ≤ z0c (z0a z0d) (fun (ms:List Mst)=>z0c (z0a z0b) (fun (ds:List Dcr)=>(z0f ms ds i m).fst.zo) (0:Int) c) (0:Int) a∧z0c (z0a z0d) (fun (ms:List Mst)=>z0c (z0a z0b) (fun (ds:List Dcr)=>(z0f ms ds i m).fst.zo) (0:Int) c) (0:Int) a ≤ (840:Int))∧((0:Int) ≤ m∧m ≤ (1000000000:Int)∧(-1440:Int) ≤ z0c (z0a z0d) (fun (ms:List Mst)=>z0c (z0a z0b) (fun (ds:List Dcr)=>(z0f ms ds i m).fst.zo) (0:Int) c) (0:Int) a∧z0c (z0a z0d) (fun (ms:List Mst)=>z0c (z0a z0b) (fun (ds:List Dcr)=>(z0f ms ds i m).fst.zo) (0:Int) c) (0:Int) a ≤ (1440:Int))∧((∃ (ds:List Dcr),c = z0a z0b ds∧k = ds.length∧ds.length ≤ 10000∧w3z ds)∧(-1000000:Int) ≤ (m + z0c (z0a z0d) (fun (ms:List Mst)=>z0c (z0a z0b) (fun (ds:List Dcr)=>(z0f ms ds i m).fst.zo) (0:Int) c) (0:Int) a) / (1440:Int)∧(m + z0c (z0a z0d) (fun (ms:List Mst)=>z0c (z0a z0b) (fun (ds:List Dcr)=>(z0f ms ds i m).fst.zo) (0:Int) c) (0:Int) a) / (1440:Int) ≤ (1000000:Int)∧(-1000000:Int) ≤ (100001:Int)∧(100001:Int) ≤ (1000000:Int))∧cIf (noHL 3 ([X,X,I m,AV.ptr 0 0,X,X,X,X,X,AV.ptr 1 0,X,AV.ptr 2 0,X,X,AV.vs (z0a z0s (w3d (z0j c) ((m + z0c (z0a z0d) (fun (ms:List Mst)=>z0c (z0a z0b) (fun (ds:List Dcr)=>(z0f ms ds i m).fst.zo) (0:Int) c) (0:Int) a) / (1440:Int)) (100001:Int))) (w3d (z0j c) ((m + z0c (z0a z0d) (fun (ms:List Mst)=>z0c (z0a z0b) (fun (ds:List Dcr)=>(z0f ms ds i m).fst.zo) (0:Int) c) (0:Int) a) / (1440:Int)) (100001:Int)).length Tok.none,I 0]++List.replicate 63 X)) (cIf ([some (HB.cells [AV.vs a n Tok.none,AV.vs c k Tok.none] 25),some (HB.cells [I (z0c (z0a z0d) (fun (ms:List Mst)=>z0c (z0a z0b) (fun (ds:List Dcr)=>(z0f ms ds i m).fst.id) (0:Int) c) (0:Int) a),I (z0c (z0a z0d) (fun (ms:List Mst)=>z0c (z0a z0b) (fun (ds:List Dcr)=>(z0f ms ds i m).fst.zo) (0:Int) c) (0:Int) a)] 58),some (HB.cells [AV.int IntKind.i64 (z0c (z0a z0b) (fun (ds:List Dcr)=>(z96 ds (Mst.mk (z0c (z0a z0d) (fun (ms:List Mst)=>z0c (z0a z0b) (fun (ds:List Dcr)=>(z0f ms ds i m).fst.id) (0:Int) c) (0:Int) a) (z0c (z0a z0d) (fun (ms:List Mst)=>z0c (z0a z0b) (fun (ds:List Dcr)=>(z0f ms ds i m).fst.zo) (0:Int) c) (0:Int) a)) m).fl) (0:Int) c),AV.bool (z0c (z0a z0b) (fun (ds:List Dcr)=>(z96 ds (Mst.mk (z0c (z0a z0d) (fun (ms:List Mst)=>z0c (z0a z0b) (fun (ds:List Dcr)=>(z0f ms ds i m).fst.id) (0:Int) c) (0:Int) a) (z0c (z0a z0d) (fun (ms:List Mst)=>z0c (z0a z0b) (fun (ds:List Dcr)=>(z0f ms ds i m).fst.zo) (0:Int) c) (0:Int) a)) m).ho) false c)] 29)].all (okBlk 3)) (z0l Tryz.X32 (cd Tryz.X32.P 32 [1,1,1,1,1,1,0,1,0,0]) ([X,X,I m,AV.ptr 0 0,X,X,X,X,X,AV.ptr 1 0,X,AV.ptr 2 0,X,X,AV.vs (z0a z0s (w3d (z0j c) ((m + z0c (z0a z0d) (fun (ms:List Mst)=>z0c (z0a z0b) (fun (ds:List Dcr)=>(z0f ms ds i m).fst.zo) (0:Int) c) (0:Int) a) / (1440:Int)) (100001:Int))) (w3d (z0j c) ((m + z0c (z0a z0d) (fun (ms:List Mst)=>z0c (z0a z0b) (fun (ds:List Dcr)=>(z0f ms ds i m).fst.zo) (0:Int) c) (0:Int) a) / (1440:Int)) (100001:Int)).length Tok.none,I 0]++List.replicate 63 X) (St.mk [some (HB.cells [AV.vs a n Tok.none,AV.vs c k Tok.none] 25),some (HB.cells [I (z0c (z0a z0d) (fun (ms:List Mst)=>z0c (z0a z0b) (fun (ds:List Dcr)=>(z0f ms ds i m).fst.id) (0:Int) c) (0:Int) a),I (z0c (z0a z0d) (fun (ms:List Mst)=>z0c (z0a z0b) (fun (ds:List Dcr)=>(z0f ms ds i m).fst.zo) (0:Int) c) (0:Int) a)] 58),some (HB.cells [AV.int IntKind.i64 (z0c (z0a z0b) (fun (ds:List Dcr)=>(z96 ds (Mst.mk (z0c (z0a z0d) (fun (ms:List Mst)=>z0c (z0a z0b) (fun (ds:List Dcr)=>(z0f ms ds i m).fst.id) (0:Int) c) (0:Int) a) (z0c (z0a z0d) (fun (ms:List Mst)=>z0c (z0a z0b) (fun (ds:List Dcr)=>(z0f ms ds i m).fst.zo) (0:Int) c) (0:Int) a)) m).fl) (0:Int) c),AV.bool (z0c (z0a z0b) (fun (ds:List Dcr)=>(z96 ds (Mst.mk (z0c (z0a z0d) (fun (ms:List Mst)=>z0c (z0a z0b) (fun (ds:List Dcr)=>(z0f ms ds i m).fst.id) (0:Int) c) (0:Int) a) (z0c (z0a z0d) (fun (ms:List Mst)=>z0c (z0a z0b) (fun (ds:List Dcr)=>(z0f ms ds i m).fst.zo) (0:Int) c) (0:Int) a)) m).ho) false c)] 29)] [] []) (z0g 0 (z0k Tryz.X32 (cd Tryz.X32.P 32 [1,1,1,1,1,1,1]) (z0q Tryz.X32 32 Q)))) False) False)):=by kernel_rfl
theorem w5e (a c L:List AV) (n k p i:Nat) (id zo m wf:Int) (wb:Bool) (Q:CR→Prop):wpC Tryz.X32 (cd PP 32 [1,1,1,1,1,1,0,1,0,0]) ([X,X,I m,.ptr 0 0,X,X,X,X,X,.ptr 1 0,X,.ptr 2 0,X,X,.vs L p .none,I i]++List.replicate 63 X) ⟨[some (.cells [.vs a n .none,.vs c k .none] 25),some (.cells [I id,I zo] 58),some (.cells [I wf,Bo wb] 29)],[],[]⟩ (z1i Tryz.X32 (cd PP 32 [1,1,1,1,1,1,0,1,0,0]) (z0g 0 (z0k Tryz.X32 (cd PP 32 [1,1,1,1,1,1,1]) (z0q Tryz.X32 32 Q)))) =
 (cIf (decide ((↑i:Int) < (↑p:Int))) (cIf (decide (i < p)) (cIf (decide (p * 1 = L.length)) (cIf (decide (0 < (List.drop (i * 1) L).length)) (cIf (z0t (AV.ofVal (Value.int IntKind.i64 (0:Int))) ((List.drop (i * 1) L).getD 0 X)) (cIf (noHL [some (HB.cells [AV.vs a n Tok.none,AV.vs c k Tok.none] 25),some (HB.cells [I id,I zo] 58),some (HB.cells [I wf,Bo wb] 29)].length ([]++[AV.agg [AV.vs a n Tok.none,AV.vs c k Tok.none],AV.agg [I id,I zo],I (cI (List.drop (i * 1) L) 0),I (IntKind.i64.wrap (m + (1:Int))),I 144001439]++[])) (((∃ (ms:List Mst),∃ (ds:List Dcr),a = z0a z0d ms∧n = ms.length∧c = z0a z0b ds∧k = ds.length∧ds.length ≤ 10000∧w3z ds)∧(-1000000:Int) ≤ cI (List.drop (i * 1) L) 0∧cI (List.drop (i * 1) L) 0 ≤ (1000000:Int)∧(-10000:Int) ≤ zo∧zo ≤ (10000:Int))∧St.mk [some (HB.cells [AV.vs a n Tok.none,AV.vs c k Tok.none] 25),some (HB.cells [I id,I zo] 58),some (HB.cells [I wf,Bo wb] 29)] [] [] = St.mk [some (HB.cells [AV.vs a n Tok.none,AV.vs c k Tok.none] 25),some (HB.cells [I id,I zo] 58),some (HB.cells [I wf,Bo wb] 29)] [] []∧cIf (noHL 3 ([X,X,I m,AV.ptr 0 0,X,X,X,X,X,AV.ptr 1 0,X,AV.ptr 2 0,X,X,AV.vs L p Tok.none,I i,AV.vs (z0a z0s (w3b (z0j c) (Mst.mk id zo) (cI (List.drop (i * 1) L) 0) (IntKind.i64.wrap (m + (1:Int))) (144001439:Int))) (w3b (z0j c) (Mst.mk id zo) (cI (List.drop (i * 1) L) 0) (IntKind.i64.wrap (m + (1:Int))) (144001439:Int)).length Tok.none,I 0]++List.replicate 61 X)) (cIf ([some (HB.cells [AV.vs a n Tok.none,AV.vs c k Tok.none] 25),some (HB.cells [I id,I zo] 58),some (HB.cells [I wf,Bo wb] 29)].all (okBlk 3)) (z0l Tryz.X32 (cd PP 32 [1,1,1,1,1,1,0,1,0,0,1,0,0,1,1,0,0]) ([X,X,I m,AV.ptr 0 0,X,X,X,X,X,AV.ptr 1 0,X,AV.ptr 2 0,X,X,AV.vs L p Tok.none,I i,AV.vs (z0a z0s (w3b (z0j c) (Mst.mk id zo) (cI (List.drop (i * 1) L) 0) (IntKind.i64.wrap (m + (1:Int))) (144001439:Int))) (w3b (z0j c) (Mst.mk id zo) (cI (List.drop (i * 1) L) 0) (IntKind.i64.wrap (m + (1:Int))) (144001439:Int)).length Tok.none,I 0]++List.replicate 61 X) (St.mk [some (HB.cells [AV.vs a n Tok.none,AV.vs c k Tok.none] 25),some (HB.cells [I id,I zo] 58),some (HB.cells [I wf,Bo wb] 29)] [] []) (z0g 2 (z0g 1 (z0k Tryz.X32 (cd PP 32 [1,1,1,1,1,1,0,1,0,0,1,1]) (z1i Tryz.X32 (cd PP 32 [1,1,1,1,1,1,0,1,0,0]) (z0g 0 (z0k Tryz.X32 (cd PP 32 [1,1,1,1,1,1,1]) (z0q Tryz.X32 32 Q)))))))) False) False) False) False) False) False) False) (Q (CR.ret (AV.tup [I 0,Bo false,I 0])))):=by kernel_rfl
theorem w4z (a c L K:List AV) (n k p q i j:Nat) (id zo m wf:Int) (wb:Bool) (Q:CR→Prop):wpC Tryz.X32 (cd PP 32 [1,1,1,1,1,1,0,1,0,0,1,0,0,1,1,0,0]) ([X,X,I m,.ptr 0 0,X,X,X,X,X,.ptr 1 0,X,.ptr 2 0,X,X,.vs L p .none,I i,.vs K q .none,I j]++List.replicate 61 X) ⟨[some (.cells [.vs a n .none,.vs c k .none] 25),some (.cells [I id,I zo] 58),some (.cells [I wf,Bo wb] 29)],[],[]⟩ (z1i Tryz.X32 (cd PP 32 [1,1,1,1,1,1,0,1,0,0,1,0,0,1,1,0,0]) (z0g 2 (z0g 1 (z0k Tryz.X32 (cd PP 32 [1,1,1,1,1,1,0,1,0,0,1,1]) (z1i Tryz.X32 (cd PP 32 [1,1,1,1,1,1,0,1,0,0]) (z0g 0 (z0k Tryz.X32 (cd PP 32 [1,1,1,1,1,1,1]) (z0q Tryz.X32 32 Q)))))))) =
 (cIf (decide ((↑j:Int) < (↑q:Int))) (cIf (decide (j < q)) (cIf (decide (q * 1 = K.length)) (cIf (decide (0 < (List.drop (j * 1) K).length)) (cIf (z0t (AV.ofVal (Value.int IntKind.i64 (0:Int))) ((List.drop (j * 1) K).getD 0 X)) (cIf (noHL [some (HB.cells [AV.vs a n Tok.none,AV.vs c k Tok.none] 25),some (HB.cells [I id,I zo] 58),some (HB.cells [I wf,Bo wb] 29)].length ([]++[AV.agg [AV.vs a n Tok.none,AV.vs c k Tok.none],AV.agg [I id,I zo],I (cI (List.drop (j * 1) K) 0)]++[])) (((∃ (ms:List Mst),∃ (ds:List Dcr),a = z0a z0d ms∧n = ms.length∧c = z0a z0b ds∧k = ds.length∧ms.length ≤ 10000000∧ds.length ≤ 10000000)∧(0:Int) ≤ cI (List.drop (j * 1) K) 0∧cI (List.drop (j * 1) K) 0 ≤ (144001439:Int)∧(-720:Int) ≤ zo∧zo ≤ (840:Int))∧St.mk [some (HB.cells [AV.vs a n Tok.none,AV.vs c k Tok.none] 25),some (HB.cells [I id,I zo] 58),some (HB.cells [I wf,Bo wb] 29)] [] [] = St.mk [some (HB.cells [AV.vs a n Tok.none,AV.vs c k Tok.none] 25),some (HB.cells [I id,I zo] 58),some (HB.cells [I wf,Bo wb] 29)] [] []∧cIf (!(z0c (z0a z0b) (fun (ds:List Dcr)=>(z96 ds (Mst.mk id zo) (cI (List.drop (j * 1) K) 0)).fl) (0:Int) c == wf && (z0c (z0a z0b) (fun (ds:List Dcr)=>(z96 ds (Mst.mk id zo) (cI (List.drop (j * 1) K) 0)).ho) false c == wb && true))) (cIf (decide (j < q)) (cIf (decide (q * 1 = K.length)) (cIf (decide (0 < (List.drop (j * 1) K).length)) (cIf (z0t (AV.ofVal (Value.int IntKind.i64 (0:Int))) ((List.drop (j * 1) K).getD 0 X)) (Q (CR.ret (AV.tup [I (cI (List.drop (j * 1) K) 0),Bo true,I 0]))) False) False) False) False) (cIf (noHL 3 ([X,X,I m,AV.ptr 0 0,X,X,X,X,X,AV.ptr 1 0,X,AV.ptr 2 0,X,X,AV.vs L p Tok.none,I i,AV.vs K q Tok.none,I (IntKind.i64.wrap ((↑j:Int) + (1:Int)))]++List.replicate 61 X)) (cIf ([some (HB.cells [AV.vs a n Tok.none,AV.vs c k Tok.none] 25),some (HB.cells [I id,I zo] 58),some (HB.cells [I wf,Bo wb] 29)].all (okBlk 3)) (z0l Tryz.X32 (cd PP 32 [1,1,1,1,1,1,0,1,0,0,1,0,0,1,1,0,0]) ([X,X,I m,AV.ptr 0 0,X,X,X,X,X,AV.ptr 1 0,X,AV.ptr 2 0,X,X,AV.vs L p Tok.none,I i,AV.vs K q Tok.none,I (IntKind.i64.wrap ((↑j:Int) + (1:Int)))]++List.replicate 61 X) (St.mk [some (HB.cells [AV.vs a n Tok.none,AV.vs c k Tok.none] 25),some (HB.cells [I id,I zo] 58),some (HB.cells [I wf,Bo wb] 29)] [] []) (z0g 2 (z0g 1 (z0k Tryz.X32 (cd PP 32 [1,1,1,1,1,1,0,1,0,0,1,1]) (z1i Tryz.X32 (cd PP 32 [1,1,1,1,1,1,0,1,0,0]) (z0g 0 (z0k Tryz.X32 (cd PP 32 [1,1,1,1,1,1,1]) (z0q Tryz.X32 32 Q)))))))) False) False)) False) False) False) False) False) (cIf (noHL 3 ([X,X,I m,AV.ptr 0 0,X,X,X,X,X,AV.ptr 1 0,X,AV.ptr 2 0,X,X,AV.vs L p Tok.none,I (IntKind.i64.wrap ((↑i:Int) + (1:Int)))]++List.replicate 63 X)) (cIf ([some (HB.cells [AV.vs a n Tok.none,AV.vs c k Tok.none] 25),some (HB.cells [I id,I zo] 58),some (HB.cells [I wf,Bo wb] 29)].all (okBlk 3)) (z0l Tryz.X32 (cd PP 32 [1,1,1,1,1,1,0,1,0,0]) ([X,X,I m,AV.ptr 0 0,X,X,X,X,X,AV.ptr 1 0,X,AV.ptr 2 0,X,X,AV.vs L p Tok.none,I (IntKind.i64.wrap ((↑i:Int) + (1:Int)))]++List.replicate 63 X) (St.mk [some (HB.cells [AV.vs a n Tok.none,AV.vs c k Tok.none] 25),some (HB.cells [I id,I zo] 58),some (HB.cells [I wf,Bo wb] 29)] [] []) (z0g 0 (z0k Tryz.X32 (cd PP 32 [1,1,1,1,1,1,1]) (z0q Tryz.X32 32 Q)))) False) False)):=by kernel_rfl
end Go.Proofs
set_option maxRecDepth 100000
set_option linter.unusedVariables false
set_option linter.unusedSimpArgs false
namespace Go.Proofs
open Go Go.Ev
attribute [local irreducible] wpF wpC cd
theorem w35:Cts Tryz.BR3 [(80,R80),(81,R81),(84,R84)]:=(((Cts.nil Tryz.BR3).cons w2t).cons w2u).cons x9t
theorem w5f {x:Sho} {wf:Int} {wb:Bool}:(!(x.fl == wf && (x.ho == wb && true))) = decide (x ≠ ⟨wf,wb⟩):=by
 cases x
 rw [Bool.eq_iff_iff]
 simp
def nR:Option Int→CR
 | some t=>.ret (.tup [I t,.bool true,I 0])
 | none=>.ret (.tup [I 0,.bool false,I 0])
theorem w45 {ms:List Mst} {ds:List Dcr} {i m:Int} (h:(z0f ms ds i m).2 = 0):nR (w3q ds (z0f ms ds i m).1 m) = .ret (.tup [I (w25 ms ds i m).1,Bo (w25 ms ds i m).2.1,I (w25 ms ds i m).2.2]):=by
 unfold w25
 rw [if_neg (fun q=>q h)]
 cases w3q ds (z0f ms ds i m).1 m <;> rfl
section
variable {ms:List Mst} {ds:List Dcr} {id zo m wf:Int} {wb:Bool} (hm:ms.length ≤ 10000000) (hk:ds.length ≤ 10000000) (hz1:-720 ≤ zo) (hz2:zo ≤ 840)
include hm hk hz1 hz2
theorem w4j (ms:List Mst) (ds:List Dcr) (id zo wf:Int) (wb:Bool):([some (HB.cells [.vs (z0a z0d ms) ms.length .none,.vs (z0a z0b ds) ds.length .none] 25),some (HB.cells [I id,I zo] 58),some (HB.cells [I wf,Bo wb] 29)]:List (Option HB)).all (okBlk 3) = true:=by
 simp [okBlk,noHB,noHL,noH,eM.noHL',eD.noHL']
theorem w46 {D E:List Int} {i:Nat} (hE:∀ x ∈ E,0 ≤ x∧x ≤ 144001439) (hEl:E.length ≤ 1000000) (hi:i < D.length) (hDl:D.length ≤ 1000000) (Q:CR→Prop)
  (hs:∀ t,E.find? (fun t=>decide (z96 ds ⟨id,zo⟩ t ≠ ⟨wf,wb⟩)) = some t→Q (nR (some t)))
  (hn:E.find? (fun t=>decide (z96 ds ⟨id,zo⟩ t ≠ ⟨wf,wb⟩)) = none→z0l Tryz.X32 (cd PP 32 [1,1,1,1,1,1,0,1,0,0]) ([X,X,I m,.ptr 0 0,X,X,X,X,X,.ptr 1 0,X,.ptr 2 0,X,X,.vs (z0a z0s D) D.length .none,I ((i + 1:Nat):Int)]++List.replicate 63 X) ⟨[some (.cells [.vs (z0a z0d ms) ms.length .none,.vs (z0a z0b ds) ds.length .none] 25),some (.cells [I id,I zo] 58),some (.cells [I wf,Bo wb] 29)],[],[]⟩ (z0g 0 (z0k Tryz.X32 (cd PP 32 [1,1,1,1,1,1,1]) (z0q Tryz.X32 32 Q)))) :
  ∀ (d j:Nat),E.length - j = d→j ≤ E.length→(E.drop j).find? (fun t=>decide (z96 ds ⟨id,zo⟩ t ≠ ⟨wf,wb⟩)) = E.find? (fun t=>decide (z96 ds ⟨id,zo⟩ t ≠ ⟨wf,wb⟩)) →
  z0l Tryz.X32 (cd PP 32 [1,1,1,1,1,1,0,1,0,0,1,0,0,1,1,0,0]) ([X,X,I m,.ptr 0 0,X,X,X,X,X,.ptr 1 0,X,.ptr 2 0,X,X,.vs (z0a z0s D) D.length .none,I i,.vs (z0a z0s E) E.length .none,I j]++List.replicate 61 X) ⟨[some (.cells [.vs (z0a z0d ms) ms.length .none,.vs (z0a z0b ds) ds.length .none] 25),some (.cells [I id,I zo] 58),some (.cells [I wf,Bo wb] 29)],[],[]⟩ (z0g 2 (z0g 1 (z0k Tryz.X32 (cd PP 32 [1,1,1,1,1,1,0,1,0,0,1,1]) (z1i Tryz.X32 (cd PP 32 [1,1,1,1,1,1,0,1,0,0]) (z0g 0 (z0k Tryz.X32 (cd PP 32 [1,1,1,1,1,1,1]) (z0q Tryz.X32 32 Q))))))):=by
 intro d
 induction d with
 | zero =>
  intro j hd hj hf
  have hj':j = E.length:=by omega
  subst hj'
  rw [List.drop_length] at hf
  have w1:IntKind.i64.wrap ((i:Int) + 1) = ((i + 1:Nat):Int):=z1c (by omega) (by omega)
  have hno:¬ ((E.length:Nat):Int) < (E.length:Nat):=by omega
  refine z0y Tryz.br3ok w35 ((w4z _ _ _ _ _ _ _ _ _ _ _ _ _ _ _ Q).mpr (z02 (df hno) (z0h ?_ (z0h (w4j hm hk hz1 hz2 ms ds id zo wf wb) ?_))))
  ·simp [z00,noHL,noH,eNum.noHL',z1r]
  ·rw [w1]
   exact hn hf.symm
 | succ d ih =>
  intro j hd hj hf
  have hlt:j < E.length:=by omega
  have e1:E.length - (j + 1) = d:=by omega
  have w1:IntKind.i64.wrap ((j:Int) + 1) = ((j + 1:Nat):Int):=z1c (by omega) (by omega)
  have h1:(j:Int) < E.length:=by omega
  obtain ⟨y,hy,hdr⟩:=z06 hlt
  obtain ⟨y1,y2⟩:=hE y (List.mem_of_getElem? hy)
  rw [hdr,List.find?_cons] at hf
  refine z0y Tryz.br3ok w35 ((w4z _ _ _ _ _ _ _ _ _ _ _ _ _ _ _ Q).mpr ?_)
  simp only [dt h1,dt hlt,eNum.gl,eNum.gd hlt,eNum.g0 hlt (by decide),eNum.el hy,eNum.ld0 hy (by decide),y1s,eNum.cI0 hy (by decide),y3s,y50,z0x,w1,eD.on (show 0 < 9 by decide),w5f,true_and]
  refine z0h (by simp [z00,noHL,noH,eM.noHL',eD.noHL',z1r]) ⟨⟨⟨ms,ds,rfl,rfl,rfl,rfl,hm,hk⟩,y1,y2,hz1,hz2⟩,z0i (fun c=>?_) (fun c=>z0h ?_ (z0h (w4j hm hk hz1 hz2 ms ds id zo wf wb) ?_))⟩
  ·rw [c] at hf
   exact hs y hf.symm
  ·simp [z00,noHL,noH,eNum.noHL',z1r]
  ·rw [c] at hf
   exact ih (j + 1) e1 hlt hf
theorem w5l {D:List Int} (hB:w3z ds) (hdl:ds.length ≤ 10000) (h0:0 ≤ m) (h1:m ≤ 144001439) (hD:∀ x ∈ D,-1000000 ≤ x∧x ≤ 1000000) (hDl:D.length ≤ 1000000) (Q:CR→Prop)
  (hQ:Q (nR ((D.flatMap fun d=>w3b ds ⟨id,zo⟩ d (m + 1) 144001439).find? (fun t=>decide (z96 ds ⟨id,zo⟩ t ≠ ⟨wf,wb⟩))))) :
  ∀ (d i:Nat),D.length - i = d→i ≤ D.length→((D.drop i).flatMap fun d=>w3b ds ⟨id,zo⟩ d (m + 1) 144001439).find? (fun t=>decide (z96 ds ⟨id,zo⟩ t ≠ ⟨wf,wb⟩)) = (D.flatMap fun d=>w3b ds ⟨id,zo⟩ d (m + 1) 144001439).find? (fun t=>decide (z96 ds ⟨id,zo⟩ t ≠ ⟨wf,wb⟩)) →
  z0l Tryz.X32 (cd PP 32 [1,1,1,1,1,1,0,1,0,0]) ([X,X,I m,.ptr 0 0,X,X,X,X,X,.ptr 1 0,X,.ptr 2 0,X,X,.vs (z0a z0s D) D.length .none,I i]++List.replicate 63 X) ⟨[some (.cells [.vs (z0a z0d ms) ms.length .none,.vs (z0a z0b ds) ds.length .none] 25),some (.cells [I id,I zo] 58),some (.cells [I wf,Bo wb] 29)],[],[]⟩ (z0g 0 (z0k Tryz.X32 (cd PP 32 [1,1,1,1,1,1,1]) (z0q Tryz.X32 32 Q))):=by
 have w2:IntKind.i64.wrap (m + 1) = m + 1:=z1c (by omega) (by omega)
 intro d
 induction d with
 | zero =>
  intro i hd hi hf
  have hi':i = D.length:=by omega
  subst hi'
  rw [List.drop_length] at hf
  have hno:¬ ((D.length:Nat):Int) < (D.length:Nat):=by omega
  refine z0y Tryz.br3ok w35 ((w5e _ _ _ _ _ _ _ _ _ _ _ _ Q).mpr (z02 (df hno) ?_))
  rw [← hf] at hQ
  exact hQ
 | succ d ih =>
  intro i hd hi hf
  have hlt:i < D.length:=by omega
  have e1:D.length - (i + 1) = d:=by omega
  have hl1:(i:Int) < D.length:=by omega
  obtain ⟨y,hy,hdr⟩:=z06 hlt
  obtain ⟨y1,y2⟩:=hD y (List.mem_of_getElem? hy)
  rw [hdr,List.flatMap_cons,List.find?_append] at hf
  have hEl:=w4l ds ⟨id,zo⟩ y (m + 1) 144001439
  refine z0y Tryz.br3ok w35 ((w5e _ _ _ _ _ _ _ _ _ _ _ _ Q).mpr ?_)
  simp only [dt hl1,dt hlt,eNum.gl,eNum.gd hlt,eNum.g0 hlt (by decide),eNum.el hy,eNum.ld0 hy (by decide),y1s,eNum.cI0 hy (by decide),y3s,y50,z0x,w2,z1m,true_and]
  refine z0h (by simp [z00,noHL,noH,eM.noHL',eD.noHL',z1r]) ⟨⟨⟨ms,ds,rfl,rfl,rfl,rfl,hdl,hB⟩,y1,y2,by omega,by omega⟩,z0h ?_ (z0h (w4j hm hk hz1 hz2 ms ds id zo wf wb) ?_)⟩
  ·simp [z00,noHL,noH,eNum.noHL',z1r]
  ·refine w46 hm hk hz1 hz2 (fun x hx=>?_) (by omega) hlt hDl Q (fun t ht=>?_) (fun hn=>?_) _ 0 rfl (Nat.zero_le _) rfl
   ·have:=w3n.1 hx
    omega
   ·rw [ht] at hf
    have hf:some t = _:=hf
    rw [← hf] at hQ
    exact hQ
   ·rw [hn] at hf
    exact ih (i + 1) e1 hlt hf
end
theorem w6k:Ct Tryz.B.c0 32 R31:=Ct.of_wpZ (B:=Tryz.BR3) (l:=[(80,R80),(81,R81),(84,R84)]) (lm:=w5p) (tp:=[]) (ct:=[]) (sm:=[(8,3),(12,3)]) Tryz.br3ok w35 ⟨_,_,Tryz.func32,rfl⟩ fun args D r hR hD=>by
 unfold R31 at hR
 split at hR <;> cases hR
 rename_i l n c k a m
 obtain ⟨ms,ds,rfl,rfl,rfl,rfl,hm,hk⟩:=hD
 refine ⟨by simp [noHL,noH,eM.noHL',eD.noHL'],?_⟩
 rw [show z0e 0 [AV.agg [AV.vs (z0a z0d ms) ms.length .none,AV.vs (z0a z0b ds) ds.length .none],I a,I m] = [AV.agg [AV.vs (z0a z0d ms) ms.length .none,AV.vs (z0a z0b ds) ds.length .none],I a,I m] by simp [z0e,scrub,eM.scL,eD.scL,Tok.scrub],z6p,z1m]
 show wpF Tryz.X32 32 _ _
 rw [v32]
 simp only [eM.on (show 0 < 2 by decide),eD.on (show 0 < 9 by decide),z1m]
 have hp:∃ ms' ds',z0a z0d ms = z0a z0d ms'∧ms.length = ms'.length∧z0a z0b ds = z0a z0b ds'∧ds.length = ds'.length∧ms'.length ≤ 10000000∧ds'.length ≤ 10000000:=⟨ms,ds,rfl,rfl,rfl,rfl,hm,hk⟩
 refine ⟨hp,z0i (fun h=>?_) (fun h=>?_)⟩
 ·have h:(z0f ms ds a m).2 ≠ 0:=by simpa using h
  have e:w25 ms ds a m = (0,false,(z0f ms ds a m).2):=by unfold w25; rw [if_pos h]
  rw [e]
  rfl
 ·have h:(z0f ms ds a m).2 = 0:=by simpa using h
  obtain ⟨g1,g2,g3,g4⟩:=y6s h
  have hc:=(y1r h).1
  have hdl:=hc.dl
  have hDl:=w4o ds ((m + (z0f ms ds a m).1.zo) / 1440) 100001
  have hB:=w49 hc.dok
  refine ⟨⟨hp,g1,g2,g3,g4⟩,⟨g1,by omega,by omega,by omega⟩,⟨⟨ds,rfl,rfl,by omega,hB⟩,by omega,by omega,by omega,by omega⟩,z0h ?_ (z0h (w4j hm hk g3 g4 ms ds _ _ _ _) ?_)⟩
  ·simp [z00,noHL,noH,eNum.noHL',z1r]
  ·refine w5l hm hk g3 g4 hB (by omega) g1 g2 (fun x hx=>?_) (by omega) _ ?_ _ 0 rfl (Nat.zero_le _) rfl
   ·have:=w3x.1 hx
    omega
   ·have e:=w4t hc.dok (m:=(z0f ms ds a m).1) g1 ⟨g3,g4⟩
    unfold w4k w3w SV at e
    simp only [← x6q hc.dok] at e
    have e2:=w45 h
    rw [← e] at e2
    exact congrArg y7v e2
end Go.Proofs
set_option maxRecDepth 100000
set_option linter.unusedVariables false
set_option linter.unusedSimpArgs false
namespace Go.Proofs
open Go Go.Ev
noncomputable def R4:Spc:=fun args=>match args with
 | [.agg [.vs l n .none,.vs c k .none],.int .i64 a,.int .i64 m,.int .i64 b]=>some (∃ ms ds,l = z0a z0d ms∧n = ms.length∧c = z0a z0b ds∧k = ds.length,.ret (Bo true))
 | _=>none
def lm4:List (Nat × List Nat):=[]
noncomputable def Tryz.X4:WCx:=Tryz.B.wcx [(25,w7e),(26,R26),(27,R28),(31,R31),(32,R31)] lm4 [] [] []
theorem v4 (l c:List AV) (n k:Nat) (a m b:Int) (Q:CR→Prop):wpF Tryz.X4 4 [.agg [.vs l n .none,.vs c k .none],I a,I m,I b] Q =
 ((∃ (ms:List Mst),∃ (ds:List Dcr),l = z0a z0d ms∧n = ms.length∧c = z0a z0b ds∧k = ds.length)∧cIf (!(decide (n ≤ 4) && decide (k ≤ 8))) (True∧Q (CR.ret (Bo true))) ((∃ (ms:List Mst),∃ (ds:List Dcr),l = z0a z0d ms∧n = ms.length∧c = z0a z0b ds∧k = ds.length∧ms.length ≤ 10000000∧ds.length ≤ 10000000)∧(∃ (ms:List Mst),∃ (ds:List Dcr),l = z0a z0d ms∧n = ms.length∧c = z0a z0b ds∧k = ds.length∧ms.length ≤ 10000000∧ds.length ≤ 10000000)∧cIf ((w25 (z1f l) (z0j c) a m).fst != (w25 (z1f l) (z0j c) a m).fst) (Q (CR.ret (Bo false))) (cIf (!(w25 (z1f l) (z0j c) a m).snd.fst == (w25 (z1f l) (z0j c) a m).snd.fst) (Q (CR.ret (Bo false))) (cIf ((w25 (z1f l) (z0j c) a m).snd.snd != (w25 (z1f l) (z0j c) a m).snd.snd) (Q (CR.ret (Bo false))) ((∃ (ms:List Mst),∃ (ds:List Dcr),l = z0a z0d ms∧n = ms.length∧c = z0a z0b ds∧k = ds.length∧ms.length ≤ 10000000∧ds.length ≤ 10000000)∧cIf ((w25 (z1f l) (z0j c) a m).snd.snd != (0:Int)) (True∧Q (CR.ret (AV.bool (z0c (z0a z0d) (fun (ms:List Mst)=>z0c (z0a z0b) (fun (ds:List Dcr)=>(atV ms ds a m).snd) (0:Int) c) (0:Int) l == (w25 (z1f l) (z0j c) a m).snd.snd)))) (cIf (w25 (z1f l) (z0j c) a m).snd.fst ((∃ (ms:List Mst),∃ (ds:List Dcr),l = z0a z0d ms∧n = ms.length∧c = z0a z0b ds∧k = ds.length∧ms.length ≤ 10000000∧ds.length ≤ 10000000)∧cIf (z0c (z0a z0d) (fun (ms:List Mst)=>z0c (z0a z0b) (fun (ds:List Dcr)=>(atV ms ds a (w25 (z1f l) (z0j c) a m).fst).snd) (0:Int) c) (0:Int) l != (0:Int)) (Q (CR.ret (Bo false))) (cIf (z0c (z0a z0d) (fun (ms:List Mst)=>z0c (z0a z0b) (fun (ds:List Dcr)=>(atV ms ds a m).fst.fl) (0:Int) c) (0:Int) l == z0c (z0a z0d) (fun (ms:List Mst)=>z0c (z0a z0b) (fun (ds:List Dcr)=>(atV ms ds a (w25 (z1f l) (z0j c) a m).fst).fst.fl) (0:Int) c) (0:Int) l && (z0c (z0a z0d) (fun (ms:List Mst)=>z0c (z0a z0b) (fun (ds:List Dcr)=>(atV ms ds a m).fst.ho) false c) false l == z0c (z0a z0d) (fun (ms:List Mst)=>z0c (z0a z0b) (fun (ds:List Dcr)=>(atV ms ds a (w25 (z1f l) (z0j c) a m).fst).fst.ho) false c) false l && true)) (Q (CR.ret (Bo false))) (cIf (decide ((w25 (z1f l) (z0j c) a m).fst ≤ m)) (Q (CR.ret (Bo false))) (cIf (decide (b > m)) (cIf (decide (b ≤ (144001439:Int))) (cIf (!(w25 (z1f l) (z0j c) a m).snd.fst) ((∃ (ms:List Mst),∃ (ds:List Dcr),l = z0a z0d ms∧n = ms.length∧c = z0a z0b ds∧k = ds.length∧ms.length ≤ 10000000∧ds.length ≤ 10000000)∧cIf (z0c (z0a z0d) (fun (ms:List Mst)=>z0c (z0a z0b) (fun (ds:List Dcr)=>(atV ms ds a b).snd) (0:Int) c) (0:Int) l != (0:Int)) (Q (CR.ret (Bo false))) (cIf (!(z0c (z0a z0d) (fun (ms:List Mst)=>z0c (z0a z0b) (fun (ds:List Dcr)=>(atV ms ds a m).fst.fl) (0:Int) c) (0:Int) l == z0c (z0a z0d) (fun (ms:List Mst)=>z0c (z0a z0b) (fun (ds:List Dcr)=>(atV ms ds a b).fst.fl) (0:Int) c) (0:Int) l && (z0c (z0a z0d) (fun (ms:List Mst)=>z0c (z0a z0b) (fun (ds:List Dcr)=>(atV ms ds a m).fst.ho) false c) false l == z0c (z0a z0d) (fun (ms:List Mst)=>z0c (z0a z0b) (fun (ds:List Dcr)=>(atV ms ds a b).fst.ho) false c) false l && true))) (Q (CR.ret (Bo false))) (True∧Q (CR.ret (AV.bool (z0c (z0a z0d) (fun (ms:List Mst)=>z0c (z0a z0b) (fun (ds:List Dcr)=>(atV ms ds a m).snd) (0:Int) c) (0:Int) l == (0:Int))))))) (cIf (decide (b < (w25 (z1f l) (z0j c) a m).fst)) ((∃ (ms:List Mst),∃ (ds:List Dcr),l = z0a z0d ms∧n = ms.length∧c = z0a z0b ds∧k = ds.length∧ms.length ≤ 10000000∧ds.length ≤ 10000000)∧cIf (z0c (z0a z0d) (fun (ms:List Mst)=>z0c (z0a z0b) (fun (ds:List Dcr)=>(atV ms ds a b).snd) (0:Int) c) (0:Int) l != (0:Int)) (Q (CR.ret (Bo false))) (cIf (!(z0c (z0a z0d) (fun (ms:List Mst)=>z0c (z0a z0b) (fun (ds:List Dcr)=>(atV ms ds a m).fst.fl) (0:Int) c) (0:Int) l == z0c (z0a z0d) (fun (ms:List Mst)=>z0c (z0a z0b) (fun (ds:List Dcr)=>(atV ms ds a b).fst.fl) (0:Int) c) (0:Int) l && (z0c (z0a z0d) (fun (ms:List Mst)=>z0c (z0a z0b) (fun (ds:List Dcr)=>(atV ms ds a m).fst.ho) false c) false l == z0c (z0a z0d) (fun (ms:List Mst)=>z0c (z0a z0b) (fun (ds:List Dcr)=>(atV ms ds a b).fst.ho) false c) false l && true))) (Q (CR.ret (Bo false))) (True∧Q (CR.ret (AV.bool (z0c (z0a z0d) (fun (ms:List Mst)=>z0c (z0a z0b) (fun (ds:List Dcr)=>(atV ms ds a m).snd) (0:Int) c) (0:Int) l == (0:Int))))))) (True∧Q (CR.ret (Bo (z0c (z0a z0d) (fun (ms:List Mst)=>z0c (z0a z0b) (fun (ds:List Dcr)=>(atV ms ds a m).snd) (0:Int) c) (0:Int) l == (0:Int))))))) (True∧Q (CR.ret (Bo (z0c (z0a z0d) (fun (ms:List Mst)=>z0c (z0a z0b) (fun (ds:List Dcr)=>(atV ms ds a m).snd) (0:Int) c) (0:Int) l == (0:Int)))))) (True∧Q (CR.ret (Bo (z0c (z0a z0d) (fun (ms:List Mst)=>z0c (z0a z0b) (fun (ds:List Dcr)=>(atV ms ds a m).snd) (0:Int) c) (0:Int) l == (0:Int))))))))) (cIf (decide (b > m)) (cIf (decide (b ≤ (144001439:Int))) (cIf (!(w25 (z1f l) (z0j c) a m).snd.fst) ((∃ (ms:List Mst),∃ (ds:List Dcr),l = z0a z0d ms∧n = ms.length∧c = z0a z0b ds∧k = ds.length∧ms.length ≤ 10000000∧ds.length ≤ 10000000)∧cIf (z0c (z0a z0d) (fun (ms:List Mst)=>z0c (z0a z0b) (fun (ds:List Dcr)=>(atV ms ds a b).snd) (0:Int) c) (0:Int) l != (0:Int)) (Q (CR.ret (Bo false))) (cIf (!(z0c (z0a z0d) (fun (ms:List Mst)=>z0c (z0a z0b) (fun (ds:List Dcr)=>(atV ms ds a m).fst.fl) (0:Int) c) (0:Int) l == z0c (z0a z0d) (fun (ms:List Mst)=>z0c (z0a z0b) (fun (ds:List Dcr)=>(atV ms ds a b).fst.fl) (0:Int) c) (0:Int) l && (z0c (z0a z0d) (fun (ms:List Mst)=>z0c (z0a z0b) (fun (ds:List Dcr)=>(atV ms ds a m).fst.ho) false c) false l == z0c (z0a z0d) (fun (ms:List Mst)=>z0c (z0a z0b) (fun (ds:List Dcr)=>(atV ms ds a b).fst.ho) false c) false l && true))) (Q (CR.ret (Bo false))) (True∧Q (CR.ret (Bo (z0c (z0a z0d) (fun (ms:List Mst)=>z0c (z0a z0b) (fun (ds:List Dcr)=>(atV ms ds a m).snd) (0:Int) c) (0:Int) l == (0:Int))))))) (cIf (decide (b < (w25 (z1f l) (z0j c) a m).fst)) ((∃ (ms:List Mst),∃ (ds:List Dcr),l = z0a z0d ms∧n = ms.length∧c = z0a z0b ds∧k = ds.length∧ms.length ≤ 10000000∧ds.length ≤ 10000000)∧cIf (z0c (z0a z0d) (fun (ms:List Mst)=>z0c (z0a z0b) (fun (ds:List Dcr)=>(atV ms ds a b).snd) (0:Int) c) (0:Int) l != (0:Int)) (Q (CR.ret (Bo false))) (cIf (!(z0c (z0a z0d) (fun (ms:List Mst)=>z0c (z0a z0b) (fun (ds:List Dcr)=>(atV ms ds a m).fst.fl) (0:Int) c) (0:Int) l == z0c (z0a z0d) (fun (ms:List Mst)=>z0c (z0a z0b) (fun (ds:List Dcr)=>(atV ms ds a b).fst.fl) (0:Int) c) (0:Int) l && (z0c (z0a z0d) (fun (ms:List Mst)=>z0c (z0a z0b) (fun (ds:List Dcr)=>(atV ms ds a m).fst.ho) false c) false l == z0c (z0a z0d) (fun (ms:List Mst)=>z0c (z0a z0b) (fun (ds:List Dcr)=>(atV ms ds a b).fst.ho) false c) false l && true))) (Q (CR.ret (Bo false))) (True∧Q (CR.ret (Bo (z0c (z0a z0d) (fun (ms:List Mst)=>z0c (z0a z0b) (fun (ds:List Dcr)=>(atV ms ds a m).snd) (0:Int) c) (0:Int) l == (0:Int))))))) (True∧Q (CR.ret (Bo (z0c (z0a z0d) (fun (ms:List Mst)=>z0c (z0a z0b) (fun (ds:List Dcr)=>(atV ms ds a m).snd) (0:Int) c) (0:Int) l == (0:Int))))))) (True∧Q (CR.ret (Bo (z0c (z0a z0d) (fun (ms:List Mst)=>z0c (z0a z0b) (fun (ds:List Dcr)=>(atV ms ds a m).snd) (0:Int) c) (0:Int) l == (0:Int)))))) (True∧Q (CR.ret (Bo (z0c (z0a z0d) (fun (ms:List Mst)=>z0c (z0a z0b) (fun (ds:List Dcr)=>(atV ms ds a m).snd) (0:Int) c) (0:Int) l == (0:Int)))))))))))):=by kernel_rfl
end Go.Proofs
set_option maxRecDepth 100000
set_option linter.unusedVariables false
set_option linter.unusedSimpArgs false
namespace Go.Ev
open Go.Proofs
theorem w4y {ms:List Mst} {ds:List Dcr} {a m t:Int} (h:(z0f ms ds a m).2 = 0) (h0:0 ≤ t) (h1:t ≤ 144001439):z0f ms ds a t = z0f ms ds a m:=by
 unfold z0f at h ⊢
 by_cases c1:z1x ms ds ≠ 0
 ·rw [if_pos c1] at h; exact absurd h c1
 ·rw [if_neg c1] at h ⊢
  rw [if_neg c1]
  by_cases c2:(z0w a ms).2 = false
  ·rw [if_pos c2,if_pos c2]
  ·rw [if_neg c2] at h ⊢
   rw [if_neg c2]
   by_cases c3:(decide (0 ≤ m) && decide (m ≤ 144001439)) = false
   ·rw [if_pos c3] at h; cases h
   ·rw [if_neg c3,if_neg]
    simp [h0,h1]
theorem w36 {ms:List Mst} {ds:List Dcr} {a m t:Int} (h:(z0f ms ds a m).2 = 0) (h0:0 ≤ t) (h1:t ≤ 144001439):atV ms ds a t = (SV ds (z0f ms ds a m).1 t,0):=by
 have e:=w4y h h0 h1
 have hc:=(y1r h).1
 unfold atV SV
 rw [e,if_neg (fun q=>q h),x6q hc.dok]
theorem w6j {ms:List Mst} {ds:List Dcr} {a m:Int} (h:(z0f ms ds a m).2 = 0) :
  ((w25 ms ds a m).2.1 = true→(atV ms ds a (w25 ms ds a m).1).2 = 0∧(atV ms ds a m).1 ≠ (atV ms ds a (w25 ms ds a m).1).1∧m < (w25 ms ds a m).1) ∧
  (∀ b,m < b→b ≤ 144001439→((w25 ms ds a m).2.1 = true→b < (w25 ms ds a m).1)→(atV ms ds a b).2 = 0∧(atV ms ds a m).1 = (atV ms ds a b).1):=by
 obtain ⟨g1,g2,g3,g4⟩:=y6s h
 have em:=w36 h g1 g2
 rw [em]
 unfold w25
 rw [if_neg (fun q=>q h)]
 cases hn:w3q ds (z0f ms ds a m).1 m with
 | some t =>
  obtain ⟨q1,q2,q3,q4⟩:=w3e hn
  have et:=w36 h (t:=t) (by omega) (by omega)
  refine ⟨fun _=>?_,fun b b1 b2 b3=>?_⟩
  ·show (atV ms ds a t).2 = 0∧_ ≠ (atV ms ds a t).1∧m < t
   rw [et]
   exact ⟨rfl,fun q=>q3 q.symm,by omega⟩
  ·have b3:b < t:=b3 rfl
   rw [w36 h (t:=b) (by omega) (by omega)]
   exact ⟨rfl,(q4 b (by omega) b3).symm⟩
 | none =>
  have q:=w3k hn
  refine ⟨fun q=>(by simp at q),fun b b1 b2 b3=>?_⟩
  rw [w36 h (t:=b) (by omega) (by omega)]
  exact ⟨rfl,(q b (by omega) (by omega)).symm⟩
theorem w38 (ms:List Mst) (ds:List Dcr) (a m:Int):(w25 ms ds a m).2.2 = (z0f ms ds a m).2:=by
 unfold w25
 by_cases h:(z0f ms ds a m).2 ≠ 0
 ·rw [if_pos h]
 ·rw [if_neg h]
  have h:(z0f ms ds a m).2 = 0:=by simpa using h
  rw [h]
  cases w3q ds (z0f ms ds a m).1 m <;> rfl
theorem w4i (ms:List Mst) (ds:List Dcr) (a m:Int):(atV ms ds a m).2 = (z0f ms ds a m).2:=by
 unfold atV
 by_cases h:(z0f ms ds a m).2 ≠ 0
 ·rw [if_pos h]
 ·rw [if_neg h]
  have h:(z0f ms ds a m).2 = 0:=by simpa using h
  rw [h]
theorem w5g {x y:Sho}:(x.fl == y.fl && (x.ho == y.ho && true)) = decide (x = y):=by
 cases x; cases y
 rw [Bool.eq_iff_iff]
 simp
end Go.Ev
namespace Go.Proofs
open Go Go.Ev
attribute [local irreducible] wpF wpC cd
theorem ct4:Ct Tryz.B.c0 4 R4:=Ct.of_wp (l:=[(25,w7e),(26,R26),(27,R28),(31,R31),(32,R31)]) (lm:=lm4) (tp:=[]) (ct:=[]) (sm:=[]) Tryz.bok ((((((Cts.nil _).cons w6k).cons w6l).cons w20).cons w21).cons w22) ⟨_,_,Tryz.func4,rfl⟩ fun args D r hR hD=>by
 unfold R4 at hR
 split at hR <;> cases hR
 rename_i l n c k a m b
 obtain ⟨ms,ds,rfl,rfl,rfl,rfl⟩:=hD
 refine ⟨by simp [noHL,noH,eM.noHL',eD.noHL'],?_⟩
 rw [show z0e 0 [AV.agg [AV.vs (z0a z0d ms) ms.length .none,AV.vs (z0a z0b ds) ds.length .none],I a,I m,I b] = [AV.agg [AV.vs (z0a z0d ms) ms.length .none,AV.vs (z0a z0b ds) ds.length .none],I a,I m,I b] by simp [z0e,scrub,eM.scL,eD.scL,Tok.scrub]]
 have key:∀ Q:CR→Prop,Q (.ret (Bo true))→wpF Tryz.X4 4 [.agg [.vs (z0a z0d ms) ms.length .none,.vs (z0a z0b ds) ds.length .none],I a,I m,I b] Q:=?_
 ·exact key _ rfl
 intro Q hQ
 rw [v4]
 simp only [eM.on (show 0 < 2 by decide),eD.on (show 0 < 9 by decide),z6p,z1m]
 refine ⟨⟨ms,ds,rfl,rfl,rfl,rfl⟩,z0i (fun h=>⟨trivial,hQ⟩) (fun h=>?_)⟩
 have hl:ms.length ≤ 4∧ds.length ≤ 8:=by simpa using h
 have hp:∃ ms' ds',z0a z0d ms = z0a z0d ms'∧ms.length = ms'.length∧z0a z0b ds = z0a z0b ds'∧ds.length = ds'.length∧ms'.length ≤ 10000000∧ds'.length ≤ 10000000:=⟨ms,ds,rfl,rfl,rfl,rfl,by omega,by omega⟩
 refine ⟨hp,hp,z02 (by simp) (z02 (by simp) (z02 (by simp) ⟨hp,z0i (fun c=>⟨trivial,?_⟩) (fun c=>?_)⟩))⟩
 ·rw [w4i,w38,beq_self_eq_true]; exact hQ
 ·have c:(w25 ms ds a m).2.2 = 0:=by simpa using c
  have c2:=c
  rw [w38] at c2
  obtain ⟨g1,g2⟩:=w6j c2
  have e0:(atV ms ds a m).2 = 0:=(w4i ms ds a m).trans c2
  have fin:Q (.ret (Bo ((atV ms ds a m).2 == 0))):=by rw [e0]; exact hQ
  simp only [w5g]
  generalize hN:w25 ms ds a m = N at *
  have tail:cIf (decide (b > m)) (cIf (decide (b ≤ (144001439:Int))) (cIf (!N.2.1) ((∃ ms' ds',z0a z0d ms = z0a z0d ms'∧ms.length = ms'.length∧z0a z0b ds = z0a z0b ds'∧ds.length = ds'.length∧ms'.length ≤ 10000000∧ds'.length ≤ 10000000)∧cIf ((atV ms ds a b).2 != 0) (Q (.ret (Bo false))) (cIf (!decide ((atV ms ds a m).1 = (atV ms ds a b).1)) (Q (.ret (Bo false))) (True∧Q (.ret (Bo ((atV ms ds a m).2 == 0)))))) (cIf (decide (b < N.1)) ((∃ ms' ds',z0a z0d ms = z0a z0d ms'∧ms.length = ms'.length∧z0a z0b ds = z0a z0b ds'∧ds.length = ds'.length∧ms'.length ≤ 10000000∧ds'.length ≤ 10000000)∧cIf ((atV ms ds a b).2 != 0) (Q (.ret (Bo false))) (cIf (!decide ((atV ms ds a m).1 = (atV ms ds a b).1)) (Q (.ret (Bo false))) (True∧Q (.ret (Bo ((atV ms ds a m).2 == 0)))))) (True∧Q (.ret (Bo ((atV ms ds a m).2 == 0)))))) (True∧Q (.ret (Bo ((atV ms ds a m).2 == 0))))) (True∧Q (.ret (Bo ((atV ms ds a m).2 == 0)))):=by
   have sub:(N.2.1 = true→b < N.1)→m < b→b ≤ 144001439→cIf ((atV ms ds a b).2 != 0) (Q (.ret (Bo false))) (cIf (!decide ((atV ms ds a m).1 = (atV ms ds a b).1)) (Q (.ret (Bo false))) (True∧Q (.ret (Bo ((atV ms ds a m).2 == 0))))):=fun q1 q2 q3=>by
    obtain ⟨u1,u2⟩:=g2 b q2 q3 q1
    refine z02 (by simp [u1]) (z02 (by simp [u2]) ⟨trivial,fin⟩)
   refine z0i (fun b1=>z0i (fun b2=>z0i (fun b3=>⟨hp,?_⟩) (fun b3=>z0i (fun b4=>⟨hp,?_⟩) (fun b4=>⟨trivial,fin⟩))) (fun b2=>⟨trivial,fin⟩)) (fun b1=>⟨trivial,fin⟩)
   ·have b3:N.2.1 = false:=by simpa using b3
    exact sub (fun q=>by rw [b3] at q; cases q) (of_decide_eq_true b1) (of_decide_eq_true b2)
   ·exact sub (fun _=>of_decide_eq_true b4) (of_decide_eq_true b1) (of_decide_eq_true b2)
  refine z0i (fun d=>?_) (fun d=>tail)
  obtain ⟨u1,u2,u3⟩:=g1 d
  exact ⟨hp,z02 (by simp [u1]) (z02 (df u2) (z02 (df (by omega)) tail))⟩
end Go.Proofs
