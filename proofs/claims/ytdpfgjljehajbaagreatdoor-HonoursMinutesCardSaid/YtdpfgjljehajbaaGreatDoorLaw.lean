/- What a law owes beyond its contract: the reading of its arguments and the post. -/
import Derived.Test.YtdpfgjljehajbaaGreatDoorK1
import Derived.ProofKit
import Derived.LaidMore
import Derived.Lay
import Derived.ReadAgain
import Derived.SevenTiedAt
import Derived.Stop.Joined
import Derived.Test.YtdpfgjljehajbaaGreatDoorTie
import Derived.Test.YtdpfgjljehajbaaGreatDoorCards
set_option linter.unusedVariables false
set_option linter.unusedSimpArgs false
set_option maxRecDepth 100000
namespace Go.Ev
open Go.ChangeShapes Go.WideShapes Go.ChangeAt Go.RowKit
def y8q (w:World):Gh:={ σ:=fun _=>none,tk:=fun _=>none,K:=fun b o=>b < w.heap.size,B:=w.heap.size }
theorem y8p (w:World):y9i (y8q w) w:=fun b o h=>h
theorem x4n (w:World):Inv (y8q w) w St.nil where
 blk:=fun h hb hx=>by simp[St.nil]at hx
 dom:=fun h b hx=>by cases hx
 inj:=fun h h' b hx=>by cases hx
 fr:=fun h b o hx=>by cases hx
 base:=fun h b hx=>by cases hx
 tok:=fun k m z hx=>by simp[St.nil]at hx
 tdom:=fun k b c m z hx=>by cases hx
 tinj:=fun k k' b c m z c' m' z' hx=>by cases hx
 tσ:=fun k b c m z h hx=>by cases hx
 kin:=fun b o hx=>hx
 bin:=Nat.le_refl _
section
variable {P:Program}{H:Type}{enc:TypeId×Value→H}{w w':World}
theorem cell_of_heap {a:Addr}(h:w'.heap[a.block]?=w.heap[a.block]?):w'.cell? a=w.cell? a:=by
 unfold World.cell?
 rw[h]
theorem x3w {n:Nat}{t:TypeId}{cs:List Value}{x:DataW H×List MemPlace}{sp:Nat→Bool}{hd:Bool}(hh:∀ b,b < w.heap.size→w'.heap[b]?=w.heap[b]?)(h:DataW.trod enc P w 0 sp hd n t cs=some x):DataW.trod enc P w' 0 sp hd n t cs=some x :=
 DataW.trod_carry n t cs x h fun p hp=>by
  have hb:=DataW.trod_lt n t cs x h p hp
  cases p with
  | cell b o=>exact (cell_of_heap (w:=w) (w':=w') (a:=⟨b,o,none⟩) (hh b hb))
  | map b=>exact hh b hb
theorem y3v {sp:Nat→Bool}{hd:Bool}(hh:∀ b,b < w.heap.size→w'.heap[b]?=w.heap[b]?):∀ {ts:List TypeId} {vs:List Value} {ds:List (DataW H)} {ps:List MemPlace},DataW.TrodAll enc P w 0 sp hd ts vs ds ps→DataW.TrodAll enc P w' 0 sp hd ts vs ds ps
 | [],[],[],ps,h=>h
 | t::ts,v::vs,d::ds,ps,h=>by
  obtain ⟨p,q,⟨n,h1⟩,h2,h3⟩:=h
  exact ⟨p,q,⟨n,x3w hh h1⟩,y3v hh h2,h3⟩
 | [],_::_,_,_,h=>h.elim
 | [],[],_::_,_,h=>h.elim
 | _::_,[],_,_,h=>h.elim
 | _::_,_::_,[],_,h=>h.elim
theorem y19 {sp:Nat→Bool}{hd:Bool}{fuel:Nat}{t e:TypeId}{len:Nat}{k:IntKind}{zs:List Int}{cs:List Value}{p:List MemPlace}(hu:P.underlying t=some (.array len e))(he:P.underlying e=some (.int k))(hce:P.cellsOf e=1)(hct:P.cellsOf t=len)(hz:zs.length=len)
  (h:DataW.trod enc P w 0 sp hd fuel t cs=some (.agg (zs.map fun n=>.lit (.int k n)),p)):cs=zs.map fun n=>.int k n:=by
 obtain ⟨xs,m,_,ex,hl0,hl,hel⟩:=DataW.trod_array hu h
 have e3:xs.map (·.1)=zs.map fun n=>(DataW.lit (.int k n):DataW H):=(DataW.agg.inj (Prod.mk.inj ex).1).symm
 apply List.ext_getElem?
 intro i
 rcases Nat.lt_or_ge i len with hi | hi
 ·have hE:=hel i hi
  rw[hce,Nat.mul_one,List.getElem?_eq_getElem (by omega)]at hE
  obtain ⟨z,e1,e2,_⟩:=DataW.trod_int he hE
  have e4:(xs.map (·.1))[i]?=(zs.map fun n=>(DataW.lit (.int k n):DataW H))[i]?:=by rw[e3]
  rw[List.getElem?_map,List.getElem?_map,List.getElem?_eq_getElem (by omega:i < xs.length),List.getElem?_eq_getElem (by omega:i < zs.length),e2]at e4
  simp only[Option.map_some,Option.some.injEq,DataW.lit.injEq,Lit.int.injEq,true_and]at e4
  have h0:((cs.drop i).take 1)[0]?=some (.int k z):=by rw[e1];rfl
  rw[List.getElem?_map,List.getElem?_eq_getElem (by omega:i < zs.length),← e4.symm]
  simpa[e4] using h0
 ·rw[List.getElem?_eq_none (by omega),List.getElem?_eq_none (by simp;omega)]
theorem y7z {G:Gh}(hK:y9i G w){n:String}{g:Nat}{k:IntKind}{zs:List Int}{cs:Array Value}(hg:P.globalNamed n=some g)(hv:w.var? P n=some cs)(hc:cs.toList=zs.map fun z=>.int k z):VR G w (.vp (zs.map fun z=>.int k z)) (.pointer (some ⟨g,0,none⟩)):=by
 have hcell:∀ i,i < zs.length→w.cell? ⟨g,i,none⟩=some (.int k (zs.getD i 0)):=fun i hi=>by
  rw[World.var?_cell hg hv i]
  have:cs.toList[i]?=some (.int k (zs.getD i 0)):=by
   rw[hc,List.getElem?_map,List.getElem?_eq_getElem hi,List.getD_eq_getElem?_getD,List.getElem?_eq_getElem hi];rfl
  simpa using this
 refine .vp _ _ (fun i=>.int k (zs.getD i 0)) (fun i a ha=>?_) ⟨rfl,fun i hi=>?_⟩
 ·rw[List.getElem?_map,Option.map_eq_some_iff]at ha
  obtain ⟨z,hz,rfl⟩:=ha
  rw[List.getD_eq_getElem?_getD,hz]
  exact .int k z
 ·have hi:i < zs.length:=by simpa using hi
  have h1:=hcell i hi
  refine ⟨hK _ _ ?_,by simpa using h1⟩
  exact (cell_spot h1).2
theorem VRs.cons {G:Gh}{a:AV}{v:Value}{l:List AV}{us:List Value}(h:VR G w a v)(hs:VRs G w l us):VRs G w (a::l) (v::us):=VRs.append' (VRs.one h) hs
theorem y9u {G:Gh}{T:TypeId→Prop}(K:Kids P T)(hK:y9i G w)(hseq:∀ t,T t→y55 P t=true){r:Reach}{b0:Nat}{sp:Nat→Bool}{hd:Bool}{t:TypeId}(hT:T t){fs:Array Field}{v:Value}{d:DataW H}{ps:List MemPlace}(hu:P.underlying t=some (.struct fs))(hval:Value.okWide P w r b0 t v)(h:DataW.Trod enc P w 0 sp hd t v d ps) :
  ∃ n l,z19 P n t l∧VR G w (.agg l) v:=by
 unfold Value.okWide at hval
 rw[hu]at hval
 obtain ⟨cs,rfl,hs,_⟩:=hval
 obtain ⟨n,hn⟩:=h
 obtain ⟨l,h1,h2⟩:=y36 K hK hseq n t _ _ hT hn
 refine ⟨n,l,h1,.agg l cs ?_ fun i a ha=>?_⟩
 ·have:=h2.1;rw[Array.length_toList]at this;exact this
 ·obtain ⟨u,h3,h4⟩:=h2.2 i a ha
  have:cs.getD i undef=u:=by
   have h5:cs.toList[i]?=some u:=h3
   rw[Array.getElem?_toList]at h5
   simp[Array.getD_eq_getD_getElem?,h5]
  rw[this];exact h4
end
end Go.Ev
namespace Go.Proofs
open Go Go.Ev Go.ChangeShapes Go.WideShapes Go.ChangeAt Go.RowKit
abbrev Tryz.T (t:TypeId):Prop:=t < Tryz.prog.types.size
theorem Tryz.seq:∀ t,Tryz.T t→y55 Tryz.prog t=true:=by
 have hall:((List.range Tryz.prog.types.size).all fun t=>y55 Tryz.prog t)=true:=by kernel_rfl
 exact fun t h=>List.all_eq_true.1 hall t (List.mem_range.2 h)
theorem Tryz.kids:Kids Tryz.prog Tryz.T:=kids_rows (by kernel_rfl) (by kernel_rfl)
theorem Tryz.full:∀ t e,Tryz.T t→Tryz.prog.underlying t=some (.slice e)→0 < Tryz.prog.cellsOf e:=slices_full_of Tryz.prog (by kernel_rfl)
theorem z4l {n:Nat}{t:TypeId}{k:IntKind}{l:List AV}(hu:Tryz.prog.underlying t=some (.int k))(h:z19 Tryz.prog n t l):∃ z,l=[.int k z]∧(Lit.int k z).wf=true:=by
 cases n with
 | zero=>exact h.elim
 | succ n=>simpa only[z19,hu] using h
theorem x27 {n:Nat}{t e:TypeId}{l:List AV}(hu:Tryz.prog.underlying t=some (.slice e))(h:z19 Tryz.prog n t l):∃ m,m < n∧∃ ls:List (List AV),l=[.vs ls.flatten ls.length .none]∧ls.length≤maxLen∧∀ x∈ls,z19 Tryz.prog m e x:=by
 cases n with
 | zero=>exact h.elim
 | succ n =>
  simp only[z19,hu]at h
  obtain ⟨ls,h1,h2,h3⟩:=h
  exact ⟨n,Nat.lt_succ_self n,ls,h1,h2,fun x hx=>(h3 x hx).2⟩
theorem y1f {n:Nat}{t:TypeId}{fs:Array Field}{l:List AV}(hu:Tryz.prog.underlying t=some (.struct fs))(h:z19 Tryz.prog n t l):∃ m,m < n∧y7u (z19 Tryz.prog m) Tryz.prog.cellsOf fs.toList l:=by
 cases n with
 | zero=>exact h.elim
 | succ n=>exact ⟨n,Nat.lt_succ_self n,by simpa only[z19,hu] using h⟩
theorem x22:maxLen=9223372036854775807:=by decide
def x75:List Int:=[1,10,100,1000,10000,100000,1000000,10000000,100000000,1000000000,10000000000,100000000000,1000000000000,10000000000000,100000000000000,1000000000000000,10000000000000000,100000000000000000,1000000000000000000,10000000000000000000]
def w0o:List Int:=[0,1,28,2,29,14,24,3,30,22,20,15,25,17,4,8,31,27,13,23,21,19,16,7,26,12,18,6,11,5,10,9]
def w0n:List Int:=[0,1,56,2,57,49,28,3,61,58,42,50,38,29,17,4,62,47,59,36,45,43,51,22,53,39,33,30,24,18,12,5,63,55,48,27,60,41,37,16,46,35,44,21,52,32,23,11,54,26,40,15,34,20,31,10,25,14,19,9,13,8,7,6]
theorem Tryz.gtR {w:World}(h:laidMetH Tryz.prog YtdpfgjljehajbaaGreatDoor.Rows.honoursGunsRow.laid w):GtR qB.c0 (y8q w) w:=by
 rw[MakeChecks.laidMetH_plain _ _ _ (by kernel_rfl)]at h
 obtain ⟨ps,⟨g1,t1,cs1,f1,p1,q1,hg1,ht1,hv1,hd1,⟨g2,t2,cs2,f2,p2,q2,hg2,ht2,hv2,hd2,⟨g3,t3,cs3,f3,p3,q3,hg3,ht3,hv3,hd3,_,_⟩,_⟩,_⟩,_,_⟩:=h
 obtain rfl := Option.some.inj ((show Tryz.prog.globalNamed "math/bits.deBruijn32tab" = some 6 by kernel_rfl).symm.trans hg1)
 obtain rfl := Option.some.inj ((show Tryz.prog.globalNamed "math/bits.deBruijn64tab" = some 7 by kernel_rfl).symm.trans hg2)
 obtain rfl := Option.some.inj ((show Tryz.prog.globalNamed "internal/strconv.uint64pow10" = some 2 by kernel_rfl).symm.trans hg3)
 obtain rfl:=Option.some.inj ((show (Tryz.prog.globals[6]?).map (·.type)=some 283 by kernel_rfl).symm.trans ht1)
 obtain rfl:=Option.some.inj ((show (Tryz.prog.globals[7]?).map (·.type)=some 284 by kernel_rfl).symm.trans ht2)
 obtain rfl:=Option.some.inj ((show (Tryz.prog.globals[2]?).map (·.type)=some 270 by kernel_rfl).symm.trans ht3)
 have k:=y8p w
 have e1:=y19 (zs:=w0o) Tryz.underlying283 Tryz.underlying5 (by kernel_rfl) (by kernel_rfl) (by decide) hd1
 have e2:=y19 (zs:=w0n) Tryz.underlying284 Tryz.underlying5 (by kernel_rfl) (by kernel_rfl) (by decide) hd2
 have e3:=y19 (zs:=x75) Tryz.underlying270 Tryz.underlying228 (by kernel_rfl) (by kernel_rfl) (by decide) hd3
 have r1:=y7z k hg1 hv1 e1
 have r2:=y7z k hg2 hv2 e2
 have r3:=y7z k hg3 hv3 e3
 intro g l hl
 change Tryz.gt g=some l at hl
 unfold Tryz.gt at hl
 split at hl<;>cases hl
 ·exact r3
 ·exact r1
 ·exact r2
theorem _root_.Go.Ev.Ct.call {C0:Cx}{g:FuncId}{R:Spc}(h:Ct C0 g R){args:List AV}{D:Prop}{r:CR}(hR:R args=some (D,r))(hD:D)(hs:z0e 0 args=args):CallOk C0 g args St.nil r St.nil:=by
 have:=(h.ok args D r hR hD).2
 rwa[hs]at this
theorem x4m {f:FuncId}{fn:Func}{s:ChangeSpec}{H:Type}{enc:TypeId×Value→H}{W:World}{args:Array Value}{ds:List (DataW H)}{before:List MemPlace}
  (hps:∀ t∈fn.params.toList,Tryz.T t) (hres:fn.resultTypes=#[4]) (hvars:s.vars=[])
  (hW:DataW.Whole enc Tryz.prog fn.params.toList s.vars false W args.toList ds [] before)
  (hs:s.fn H (ds++[])={ results:=[.lit (.bool true)],args:=ds })
  (hL:laidMetH Tryz.prog YtdpfgjljehajbaaGreatDoor.Rows.honoursGunsRow.laid W)
  (us:List AV) (hus:VRs (y8q W) W us args.toList) (hc:CallOk qB.c0 f us St.nil (rB true) St.nil) :
  Calls Tryz.prog f args W fun e W'=>∃ v,e=.returned v∧s.post enc Tryz.prog fn false true false false W args v W':=by
 have h1:=hc (y8q W) W args.toList (x4n W) (Tryz.gtR hL) hus
 rw[Array.toArray_toList]at h1
 refine h1.mono fun e W' hp=>?_
 obtain ⟨G',_,hE,v,rfl,hv⟩:=hp
 cases hv
 refine ⟨_,rfl,?_⟩
 have hold:∀ b,b < W.heap.size→W'.heap[b]?=W.heap[b]?:=fun b hb=>hE.frame b hb (fun h hx=>by cases hx) (fun k c m z hx=>by cases hx)
 have hW':=hW
 obtain ⟨p,q,hA,hV,rfl,_,_⟩:=hW
 rw[hvars]at hV
 obtain ⟨_,rfl⟩:=trodVars_none hV
 rw[List.append_nil]at hW'
 have hlt:∀ x∈p,(fun b=>decide (b < W.heap.size)) x.block=true:=fun x hx=>by simpa using DataW.TrodAll.lt hA x hx
 refine ⟨ds,[],p,[],p,[],hW',?_,?_,?_,⟨hE.os,hE.output,fun i hi=>?_⟩,fun h=>by cases h⟩
 ·rw[hs,hres]
  exact trodAll_mk1 (shut_bool Tryz.underlying4 _)
 ·rw[hs]
  exact DataW.TrodAll.respare Tryz.kids Tryz.full hps (y3v hold hA) hlt
 ·rw[hs,hvars]
  exact rfl
 ·rw[hold i hi]
  cases W.heap[i]? with
  | none=>trivial
  | some o=>cases o with
   | cells c t fr=>exact ⟨rfl,rfl,rfl,fun _ _=>rfl⟩
   | map es clock=>exact .inr ⟨rfl,rfl⟩
   | _=>rfl
end Go.Proofs
