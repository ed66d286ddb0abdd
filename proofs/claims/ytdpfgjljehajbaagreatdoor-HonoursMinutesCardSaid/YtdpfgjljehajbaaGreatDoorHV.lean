/- Contracts of functions of the program and of the reference. -/
import Derived.Test.YtdpfgjljehajbaaGreatDoorLaw
import Derived.Test.YtdpfgjljehajbaaGreatDoorK2
set_option linter.unusedVariables false
set_option linter.unusedSimpArgs false
set_option maxRecDepth 100000
namespace Go.Ev
open Go.ChangeShapes Go.WideShapes Go.ChangeAt Go.RowKit
section
variable {P:Program}{H:Type}{enc:TypeId×Value→H}{w:World}{G:Gh}{T:TypeId→Prop}
end
theorem bounds_i64 {z:Int}(w:(Lit.int .i64 z).wf=true):i64 z:=by
 have:=w
 simp[Lit.wf,IntKind.has,IntKind.min,IntKind.max,IntKind.signed,IntKind.bits]at this
 exact ⟨by omega,by omega⟩
theorem bounds_u8 {z:Int}(w:(Lit.int .u8 z).wf=true):0≤z∧z≤255:=by
 have:=w
 simp[Lit.wf,IntKind.has,IntKind.min,IntKind.max,IntKind.signed,IntKind.bits]at this
 omega
theorem y87 {α:Type}{enc:α→List AV}{ok:α→Prop}:∀ {ls:List (List AV)},(∀ x∈ls,∃ t,x=enc t∧ok t)→∃ ts:List α,ls.flatten=z0a enc ts∧ts.length=ls.length∧∀ x∈ts,ok x
 | [],_=>⟨[],rfl,rfl,fun x hx=>by simp at hx⟩
 | x::ls,h=>by
  obtain ⟨t,rfl,h1⟩:=h x List.mem_cons_self
  obtain ⟨ts,h2,h3,h4⟩:=y87 (ls:=ls) (fun y hy=>h y (List.mem_cons_of_mem _ hy))
  refine ⟨t::ts,by rw[List.flatten_cons,h2];rfl,by simp[h3],fun y hy=>?_⟩
  rcases List.mem_cons.1 hy with rfl | hy
  ·exact h1
  ·exact h4 y hy
end Go.Ev
namespace Go.Proofs
open Go Go.Ev Go.ChangeShapes Go.WideShapes Go.ChangeAt Go.RowKit
theorem x9h {n:Nat}{l:List AV}(h:z19 Tryz.prog n 58 l):∃ x:Mst,l=z0d x∧okM x:=by
 obtain ⟨m,_,a1,b1,rfl,_,h1,a2,b2,rfl,_,h2,rfl⟩:=y1f Tryz.underlying58 h
 obtain ⟨z1,rfl,w1⟩:=z4l Tryz.underlying3 h1
 obtain ⟨z2,rfl,w2⟩:=z4l Tryz.underlying3 h2
 exact ⟨⟨z1,z2⟩,rfl,bounds_i64 w1,bounds_i64 w2⟩
theorem x9k {n:Nat}{l:List AV}(h:z19 Tryz.prog n 46 l):∃ x:Dcr,l=z0b x∧okD x:=by
 obtain ⟨m,_,a1,b1,rfl,_,h1,a2,b2,rfl,_,h2,a3,b3,rfl,_,h3,a4,b4,rfl,_,h4,a5,b5,rfl,_,h5,a6,b6,rfl,_,h6,a7,b7,rfl,_,h7,a8,b8,rfl,_,h8,a9,b9,rfl,_,h9,rfl⟩:=y1f Tryz.underlying46 h
 obtain ⟨z1,rfl,w1⟩:=z4l Tryz.underlying3 h1
 obtain ⟨z2,rfl,w2⟩:=z4l Tryz.underlying5 h2
 obtain ⟨z3,rfl,w3⟩:=z4l Tryz.underlying3 h3
 obtain ⟨z4,rfl,w4⟩:=z4l Tryz.underlying3 h4
 obtain ⟨z5,rfl,w5⟩:=z4l Tryz.underlying3 h5
 obtain ⟨z6,rfl,w6⟩:=z4l Tryz.underlying3 h6
 obtain ⟨z7,rfl,w7⟩:=z4l Tryz.underlying3 h7
 obtain ⟨z8,rfl,w8⟩:=z4l Tryz.underlying3 h8
 obtain ⟨z9,rfl,w9⟩:=z4l Tryz.underlying3 h9
 exact ⟨⟨z1,z2,z3,z4,z5,z6,z7,z8,z9⟩,rfl,bounds_i64 w1,bounds_u8 w2,bounds_i64 w3,bounds_i64 w4,bounds_i64 w5,bounds_i64 w6,bounds_i64 w7,bounds_i64 w8,bounds_i64 w9⟩
theorem x9i {α:Type}{enc:α→List AV}{ok:α→Prop}{t e:TypeId}(hu:Tryz.prog.underlying t=some (.slice e))(he:∀ (n:Nat) (l:List AV),z19 Tryz.prog n e l→∃ x:α,l=enc x∧ok x){n:Nat}{l:List AV}(h:z19 Tryz.prog n t l) :
  ∃ xs:List α,l=[.vs (z0a enc xs) xs.length .none]∧xs.length≤9223372036854775807∧∀ x∈xs,ok x:=by
 obtain ⟨j,hj,ls,rfl,hl,h6⟩:=x27 hu h
 obtain ⟨ts,e1,e2,e3⟩:=y87 (ls:=ls) (fun x hx=>he j x (h6 x hx))
 rw[x22]at hl
 exact ⟨ts,by rw[e1,e2],by omega,e3⟩
theorem x9j {n:Nat}{l:List AV}(h:z19 Tryz.prog n 25 l):∃ (ms:List Mst) (ds:List Dcr),l=[.vs (z0a z0d ms) ms.length .none,.vs (z0a z0b ds) ds.length .none]∧ms.length≤9223372036854775807∧ds.length≤9223372036854775807∧(∀ x∈ms,okM x)∧∀ x∈ds,okD x:=by
 obtain ⟨m,_,a1,b1,rfl,_,h1,a2,b2,rfl,_,h2,rfl⟩:=y1f Tryz.underlying25 h
 obtain ⟨ms,rfl,q1,q2⟩:=x9i Tryz.underlying22 (fun n l h=>x9h h) h1
 obtain ⟨ds,rfl,q3,q4⟩:=x9i Tryz.underlying23 (fun n l h=>x9k h) h2
 exact ⟨ms,ds,rfl,q1,q3,q2,q4⟩
end Go.Proofs
