/- The card of one law is proved: the law returns true for every input and its arguments read as before. Conditions: those of the given row; the listed variables are tied to the pruned copy of the project. -/
import Derived.Test.YtdpfgjljehajbaaGreatDoorCF9
import Derived.Test.YtdpfgjljehajbaaGreatDoorHV
import Derived.Test.YtdpfgjljehajbaaGreatDoorKF
set_option linter.unusedVariables false
set_option linter.unusedSimpArgs false
set_option maxRecDepth 100000
set_option linter.unusedVariables false
namespace Go.Proofs.YtdpfgjljehajbaaGreatDoor
open Go Go.Ev Go.ChangeShapes Go.WideShapes Go.ChangeAt Go.RowKit
theorem w6r (os:Os) (started:os.Started) (H:Type) (enc:TypeId × Value→H) :
  ReturnsInHanded {} Tryz.checked os 9 .any (fun w args=>(Rows.honoursZonesSpec.pre enc Tryz.prog Tryz.f9 [] false w args∧laidMetH Tryz.prog Rows.honoursZonesRow.laid w)∧sizedMet enc Tryz.prog Tryz.f9 (OpenSpec.ofChange Rows.honoursZonesSpec) false w args)
   (Rows.honoursZonesSpec.post enc Tryz.prog Tryz.f9 false true false false):=by
 refine returnsInHanded_of_change_and (C:=Tryz.checked) (X:=fun w _=>laidMetH Tryz.prog Rows.honoursZonesRow.laid w) (fun _ _ _ hh h=>h.of_heap hh) own started (by kernel_rfl) Tryz.func9
  (ChangeSpec.witness_shaped (enc:=enc) (C:=Tryz.checked) (os:=os) (X:=fun w _=>laidMetH Tryz.prog Rows.honoursZonesRow.laid w) false (World.laidAll Tryz.prog os Rows.honoursZonesRow.laid)
   #[.slice none 0 0,.int .i64 0,.int .i64 0] 8 (World.laidAll_os _ _ _)
   (World.shaped_of_ZipB (by kernel_rfl) (by kernel_rfl)) (by kernel_rfl) (by kernel_rfl) (by kernel_rfl)
   (by rw [MakeChecks.laidMetH_plain _ _ _ (by kernel_rfl)]; exact laidMet_laidAll _ (by kernel_rfl) (by kernel_rfl))) ?_
 intro W base args ds gs before hval0 hW hc _ hL _
 have hval:∀ (j:Nat) t v,Tryz.f9.params[j]? = some t→args[j]? = some v→Value.okWide Tryz.prog W .any base t v:=hval0
 have hW0:=hW
 obtain ⟨p,q,hA0,hV,_,_,_⟩:=hW0
 obtain ⟨rfl,rfl⟩:=trodVars_none hV
 have hA:DataW.TrodAll enc Tryz.prog W 0 (fun _=>true) true Tryz.f9.params.toList args.toList ds p:=hA0
 rw [Tryz.params9] at hA hval
 obtain ⟨us⟩:=args
 obtain ⟨v1,us,d1,ds,_,_,rfl,rfl,_,h1,hA⟩:=trodAll_cons hA
 obtain ⟨v2,us,d2,ds,_,_,rfl,rfl,_,h2,hA⟩:=trodAll_cons hA
 obtain ⟨v3,us,d3,ds,_,_,rfl,rfl,_,h3,hA⟩:=trodAll_cons hA
 obtain ⟨rfl,rfl,_⟩:=trodAll_nil hA
 have k:=y8p W
 obtain ⟨_,a1,t1,r1⟩:=w6p Tryz.kids k Tryz.seq (t:=23) (of_decide_eq_true (by kernel_rfl)) (w6n Tryz.underlying23 (hval 0 23 v1 rfl rfl)) h1
 obtain ⟨x1,e1,n1,w1⟩:=x9i Tryz.underlying23 (fun n l h=>x9k h) t1
 obtain rfl:=(List.cons.inj e1).1
 obtain ⟨x2,rfl,_,_,w2⟩:=open_int Tryz.underlying3 (hval 1 3 v2 rfl rfl) h2
 obtain ⟨x3,rfl,_,_,w3⟩:=open_int Tryz.underlying3 (hval 2 3 v3 rfl rfl) h3
 refine x4m (s:=Rows.honoursZonesSpec) (fn:=Tryz.f9) (by rw [Tryz.params9]; intro t ht; simp only [List.mem_cons,List.mem_nil_iff,or_false] at ht; rcases ht with rfl | rfl | rfl <;> exact of_decide_eq_true (by kernel_rfl)) (by kernel_rfl) rfl hW rfl hL
  [.vs (z0a z0b x1) x1.length .none,I x2,I x3]
  (VRs.cons r1 (VRs.cons (.int _ _) (VRs.cons (.int _ _) VRs.nil)))
  (ct9.call (R:=R9) rfl ⟨x1,rfl,rfl⟩ ?_)
 simp [z0e,scrub,Tok.scrub,eM.scL,eD.scL,eT.scL,eU.scL,eSv.scL,eNum.scL,z0b,z0d]
theorem w6t:Rows.HonoursZonesSaid :=
 OpenClaim.holds_of_wide 9 Tryz.f9 rfl rfl rfl rfl rfl rfl rfl ⟨rfl,rfl,rfl,rfl,rfl⟩ rfl rfl rfl rfl rfl named9 Tryz.func9 w6u w7i w7g
  (fun os started H enc _=>w6r os started H enc)
theorem honoursZones_card:Rows.HonoursZonesCardSaid :=
 Claim7.holds_tied_plain_at .later [] [.data, .data, .data, .data, .sentinel, .sentinel, .pinned] true (true, "3a186af1b2027ba33b2885bf5840cdc6fead5f27ca1ba81e124aea93eac250d8") true w6t (fun _ h => by cases h) w6q (fun _ h => by cases h) honoursZones_row_tie rfl ⟨rfl, rfl⟩ x6s rfl
  (fun f fn hf hfn=>by
   obtain rfl:f = 9:=Option.some.inj (named9.symm.trans hf) |>.symm
   obtain rfl:fn = Tryz.f9:=(Option.some.inj (Tryz.func9.symm.trans hfn)).symm
   exact ⟨x4,fun j t ht=>by
    rw [Tryz.params9] at ht
    have hm:t ∈ [23,3,3]:=by simpa using Array.mem_of_getElem? ht
    have hall:([23,3,3].all fun u=>!Tryz.prog.wantsStandIn u) = true:=by kernel_rfl
    exact (show Tryz.prog.wantsStandIn t = false by simpa using List.all_eq_true.1 hall t hm)⟩)
  w7j
#print axioms honoursZones_card
end Go.Proofs.YtdpfgjljehajbaaGreatDoor
