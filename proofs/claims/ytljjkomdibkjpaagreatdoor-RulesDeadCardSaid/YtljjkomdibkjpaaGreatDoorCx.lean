/- The context in which alive is evaluated. -/
import Derived.Test.YtljjkomdibkjpaaGreatDoorLp
import Derived.Test.YtljjkomdibkjpaaGreatDoorE4b
import Derived.Test.YtljjkomdibkjpaaGreatDoorProg
import Derived.KernelRfl
set_option linter.unusedVariables false
set_option linter.unusedSimpArgs false
set_option linter.unusedVariables false
set_option maxRecDepth 100000
namespace Go.Proofs
open Go.Ev Go.Shelf
theorem Tryz.bextra:Builder.Extra Tryz.prog Tryz.lays169_ren where
 sizeBuilder:=by kernel_rfl
 liesBuilder:=by kernel_rfl
 t5:=Tryz.underlying5
 a5:=Tryz.isAgg5
 z5:=Tryz.sizeOf5
 v5:=Tryz.zeroValue5
 infoByte:=by kernel_rfl
 cellsByte:=by kernel_rfl
 sizeByte:=by kernel_rfl
 neB5:=by decide

def Tryz.u8s (l:List Nat):List AV:=l.map fun (n:Nat)=>.int .u8 (n:Int)
def Tryz.gt:Nat→Option (List AV)
 | 1=>some ([1,10,100,1000,10000,100000,1000000,10000000,100000000,1000000000,10000000000,100000000000,1000000000000,10000000000000,100000000000000,1000000000000000,10000000000000000,100000000000000000,1000000000000000000,10000000000000000000].map fun (n:Nat)=>.int .u64 (n:Int))
 | 6=>some (u8s [0,1,28,2,29,14,24,3,30,22,20,15,25,17,4,8,31,27,13,23,21,19,16,7,26,12,18,6,11,5,10,9])
 | 7=>some (u8s [0,1,56,2,57,49,28,3,61,58,42,50,38,29,17,4,62,47,59,36,45,43,51,22,53,39,33,30,24,18,12,5,63,55,48,27,60,41,37,16,46,35,44,21,52,32,23,11,54,26,40,15,34,20,31,10,25,14,19,9,13,8,7,6])
 | _=>none

noncomputable def Tryz.C0:Cx:={ P:=Tryz.prog,gt:=Tryz.gt,hk:=fun g=>if g = 69 then some (y8l 97 5) else none,eqt:=x2m Tryz.prog,nat:=y8q 169 203 150 }

noncomputable def Tryz.okF (n : Nat) : Bool := match Tryz.prog.funcs[n]? with | some fn => (match fn.body with | some c => okC c | none => true) && !(fn.name == "runtime.NumGoroutine") | none => true
theorem Tryz.ok0:(List.range 270).all Tryz.okF = true:=by kernel_rfl
theorem Tryz.size:Tryz.prog.funcs.size = 270:=by kernel_rfl

theorem Tryz.okF_of {g:Nat} {fn:Func} (h:Tryz.prog.funcs[g]? = some fn):Tryz.okF g = true:=by
 have hlt:g < 270:=by rw [← Tryz.size]; exact (Array.getElem?_eq_some_iff.1 h).1
 have:=Tryz.ok0
 rw [List.all_eq_true] at this
 exact this g (List.mem_range.2 hlt)

theorem Tryz.nat169:y4v Tryz.prog 169 Extern.BytealgCount.count:=⟨Tryz.f169,by kernel_rfl,by kernel_rfl,by kernel_rfl,by kernel_rfl,by kernel_rfl⟩
theorem Tryz.nat203:y4v Tryz.prog 203 Extern.BytealgIndexByte.indexByte:=⟨Tryz.f203,by kernel_rfl,by kernel_rfl,by kernel_rfl,by kernel_rfl,by kernel_rfl⟩
theorem Tryz.nat150:y4v Tryz.prog 150 Extern.AbiNoEscape.same:=⟨Tryz.f150,by kernel_rfl,by kernel_rfl,by kernel_rfl,by kernel_rfl,by kernel_rfl⟩

theorem Tryz.c0hk:∀ (g:FuncId) (f:List AV→St→Option (CR × St)),Tryz.C0.hk g = some f→∀ args S r S',f args S = some (r,S')→(∃ (fn:Func) (c:Code),Tryz.C0.P.funcs[g]? = some fn∧fn.body = some c)∧CallOk Tryz.C0 g args S r S':=by
 intro g f h args S r S' hr
 simp only [Tryz.C0] at h
 split at h <;> cases h
 rename_i hg
 subst hg
 refine ⟨⟨_,_,Tryz.lays169.f169,rfl⟩,?_⟩
 exact x5n (C:=Tryz.C0) (ρ:=Tryz.lays169_ren) Tryz.lays169 Tryz.bextra hr

theorem Tryz.c0ok:CxOk Tryz.C0 where
 eqt:=x1p fun t h=>h
 hk:=Tryz.c0hk
 codes:=fun g fn c h hb=>by
  have:=Tryz.okF_of h
  simp only [Tryz.okF,show Tryz.prog.funcs[g]? = some fn from h,hb,Bool.and_eq_true] at this
  exact this.1
 nat:=fun g args v h G w us hu=>x53 Tryz.nat169 Tryz.nat203 Tryz.nat150 g args v h G w us hu
 mixed:=by kernel_rfl
 names:=fun g fn c h hb=>by
  have:=Tryz.okF_of h
  simp only [Tryz.okF,show Tryz.prog.funcs[g]? = some fn from h,hb,Bool.and_eq_true] at this
  simpa using this.2
theorem Tryz.c0w:HkW Tryz.C0:=by
 intro g f h args S r S' hr
 simp only [Tryz.C0] at h
 split at h <;> cases h
 unfold y8l at hr
 split at hr <;> try cases hr
 split at hr <;> try cases hr
 split at hr <;> try cases hr
 obtain ⟨s,hs,hq⟩:=Option.map_eq_some_iff.1 hr
 cases hq
 exact Wl.refl _
end Go.Proofs
