/- alive returns true: a piece of its evaluation by the kernel. -/
import Derived.Test.YtdpfgjljehajbaaGreatDoorAlT1
import Derived.Test.YtdpfgjljehajbaaGreatDoorAlT3
set_option linter.unusedVariables false
set_option linter.unusedSimpArgs false
set_option maxRecDepth 100000
namespace Go.Proofs
open Go.Ev Go.Shelf Go.RowKit Go.Maps Go.Sort
noncomputable def x5l:Option AV:=match evC Tryz.C3 sf3 (y3m 5) E5 S6 with
 | some (.ret,e,s)=>match z0v Tryz.C3 Tryz.f54 e s with
  | some v=>match pub Tryz.C3 s.hs 0 v with
   | some v'=>some (scrub 0 v')
   | none=>none
  | none=>none
 | _=>none
theorem tl4:x5l=some tlR:=by kernel_rfl
theorem w2b:∃ e s v v',evC Tryz.C3 sf3 (y3m 5) E5 S6=some (.ret,e,s)∧z0v Tryz.C3 Tryz.f54 e s=some v∧pub Tryz.C3 s.hs 0 v=some v'∧scrub 0 v'=tlR:=by
 have h:=tl4
 unfold x5l at h
 split at h
 ·rename_i e s h1
  split at h
  ·rename_i v h2
   split at h
   ·rename_i v' h3
    exact ⟨e,s,v,v',h1,h2,h3,Option.some.inj h⟩
   ·cases h
  ·cases h
 ·cases h
theorem w0q:okC x1w=true:=by kernel_rfl
theorem x8i:okC y9g=true:=by kernel_rfl
theorem Tryz.tlOk:CallOk Tryz.C3 54 tlA St.nil (.ret tlR) St.nil:=by
 have hsf:SelfOk Tryz.C3 sf3:=x79
 refine CallOk.of_RWE (Y:=fun _ _ _ _=>False) Tryz.c3ok Tryz.func54 x7j ?_
 obtain ⟨e4,S4,h1,h2⟩:=y82 tl1
 obtain ⟨e7,S7,v,v',h4,h5,h6,h7⟩:=w2b
 refine RW.evL Tryz.c3ok hsf h1 (RW.seq (RW.seq (RW.of_ev Tryz.c3ok hsf h2 ?_)))
 show RW Tryz.C3 0 none _ (.block 0 _) E5 S5 ⟨none,0⟩ _
 refine RW.block (RW.rangeG (sf:=sf3) Tryz.c3ok hsf w0q x8i tl2 (SeqG.of_ev Tryz.c3ok hsf Tryz.func164 x7l rfl (n:=400) (j:=none) (S':=S6) fun l=>⟨_,tl3 l,fun y hy=>by simpa using hy⟩) (by decide) ?_)
 show RW Tryz.C3 0 none _ (y3m 5) E5 S6 ⟨none,1⟩ _
 exact RW.of_ev Tryz.c3ok hsf h4 ⟨.inr rfl,v,v',h5,h6,h7⟩
end Go.Proofs
