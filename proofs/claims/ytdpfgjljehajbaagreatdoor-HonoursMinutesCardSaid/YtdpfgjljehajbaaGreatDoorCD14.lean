/- The card of one law is proved: the law returns true for every input and its arguments read as before. Conditions: those of the given row; the listed variables are tied to the pruned copy of the project. -/
import Derived.Test.YtdpfgjljehajbaaGreatDoorCF14
import Derived.Test.YtdpfgjljehajbaaGreatDoorHV
import Derived.Test.YtdpfgjljehajbaaGreatDoorKH
set_option linter.unusedVariables false
set_option linter.unusedSimpArgs false
set_option maxRecDepth 100000
namespace Go.Proofs.YtdpfgjljehajbaaGreatDoor
open Go Go.Ev Go.ChangeShapes Go.WideShapes Go.ChangeAt Go.RowKit
theorem v4w (os:Os)(started:os.Started)(H:Type)(enc:TypeId×Value→H) :
  ReturnsInHanded {} Tryz.checked os 14 .any (fun w args=>(Rows.honoursMinutesSpec.pre enc Tryz.prog Tryz.f14 [] false w args∧laidMetH Tryz.prog Rows.honoursMinutesRow.laid w)∧sizedMet enc Tryz.prog Tryz.f14 (OpenSpec.ofChange Rows.honoursMinutesSpec) false w args)
   (Rows.honoursMinutesSpec.post enc Tryz.prog Tryz.f14 false true false false):=by
 refine returnsInHanded_of_change_and (C:=Tryz.checked) (X:=fun w _=>laidMetH Tryz.prog Rows.honoursMinutesRow.laid w) (fun _ _ _ hh h=>h.of_heap hh) own started (by kernel_rfl) Tryz.func14
  (ChangeSpec.witness_shaped (enc:=enc) (C:=Tryz.checked) (os:=os) (X:=fun w _=>laidMetH Tryz.prog Rows.honoursMinutesRow.laid w) false (World.laidAll Tryz.prog os Rows.honoursMinutesRow.laid)
   #[.agg #[.slice none 0 0,.slice none 0 0],.int .i64 0,.int .i64 0,.int .i64 0,.int .i64 0] 8 (World.laidAll_os _ _ _)
   (World.shaped_of_ZipB (by kernel_rfl) (by kernel_rfl)) (by kernel_rfl) (by kernel_rfl) (by kernel_rfl)
   (by rw[MakeChecks.laidMetH_plain _ _ _ (by kernel_rfl)];exact laidMet_laidAll _ (by kernel_rfl) (by kernel_rfl))) ?_
 intro W base args ds gs before hval0 hW hc _ hL _
 have hval:∀ (j:Nat) t v,Tryz.f14.params[j]?=some t→args[j]?=some v→Value.okWide Tryz.prog W .any base t v:=hval0
 have hW0:=hW
 obtain ⟨p,q,hA0,hV,_,_,_⟩:=hW0
 obtain ⟨rfl,rfl⟩:=trodVars_none hV
 have hA:DataW.TrodAll enc Tryz.prog W 0 (fun _=>true) true Tryz.f14.params.toList args.toList ds p:=hA0
 rw[Tryz.params14]at hA hval
 obtain ⟨us⟩:=args
 obtain ⟨v1,us,d1,ds,_,_,rfl,rfl,_,h1,hA⟩:=trodAll_cons hA
 obtain ⟨v2,us,d2,ds,_,_,rfl,rfl,_,h2,hA⟩:=trodAll_cons hA
 obtain ⟨v3,us,d3,ds,_,_,rfl,rfl,_,h3,hA⟩:=trodAll_cons hA
 obtain ⟨v4,us,d4,ds,_,_,rfl,rfl,_,h4,hA⟩:=trodAll_cons hA
 obtain ⟨v5,us,d5,ds,_,_,rfl,rfl,_,h5,hA⟩:=trodAll_cons hA
 obtain ⟨rfl,rfl,_⟩:=trodAll_nil hA
 have k:=y8p W
 obtain ⟨_,l1,t1,r1⟩:=y9u Tryz.kids k Tryz.seq (of_decide_eq_true (by kernel_rfl)) Tryz.underlying25 (hval 0 25 v1 rfl rfl) h1
 obtain ⟨m1,c1,rfl,hm1,hc1,om1,oc1⟩:=x9j t1
 obtain ⟨x2,rfl,_,_,w2⟩:=open_int Tryz.underlying3 (hval 1 3 v2 rfl rfl) h2
 obtain ⟨x3,rfl,_,_,w3⟩:=open_int Tryz.underlying3 (hval 2 3 v3 rfl rfl) h3
 obtain ⟨x4,rfl,_,_,w4⟩:=open_int Tryz.underlying3 (hval 3 3 v4 rfl rfl) h4
 obtain ⟨x5,rfl,_,_,w5⟩:=open_int Tryz.underlying3 (hval 4 3 v5 rfl rfl) h5
 refine x4m (s:=Rows.honoursMinutesSpec) (fn:=Tryz.f14) (by rw[Tryz.params14];intro t ht;simp only[List.mem_cons,List.mem_nil_iff,or_false]at ht;rcases ht with rfl | rfl | rfl | rfl | rfl<;>exact of_decide_eq_true (by kernel_rfl)) (by kernel_rfl) rfl hW rfl hL
  [.agg [.vs (z0a z0d m1) m1.length .none,.vs (z0a z0b c1) c1.length .none],I x2,I x3,I x4,I x5]
  (VRs.cons r1 (VRs.cons (.int _ _) (VRs.cons (.int _ _) (VRs.cons (.int _ _) (VRs.cons (.int _ _) VRs.nil)))))
  (ct14.call (R:=R14) rfl ⟨m1,c1,rfl,rfl,rfl,rfl⟩ ?_)
 simp[z0e,scrub,Tok.scrub,eM.scL,eD.scL,eT.scL,eU.scL,eSv.scL,eNum.scL,z0b,z0d]
theorem v4z:Rows.HonoursMinutesSaid :=
 OpenClaim.holds_of_wide 14 Tryz.f14 rfl rfl rfl rfl rfl rfl rfl ⟨rfl,rfl,rfl,rfl,rfl⟩ rfl rfl rfl rfl rfl named14 Tryz.func14 v5a v6a v5t
  (fun os started H enc _=>v4w os started H enc)
theorem honoursMinutes_card:Rows.HonoursMinutesCardSaid :=
 Claim7.holds_tied_plain_at .later [] [.data, .data, .data, .data, .sentinel, .sentinel, .pinned] true (true, "3a186af1b2027ba33b2885bf5840cdc6fead5f27ca1ba81e124aea93eac250d8") true v4z (fun _ h => by cases h) v4u (fun _ h => by cases h) honoursMinutes_row_tie rfl ⟨rfl, rfl⟩ x6s rfl
  (fun f fn hf hfn=>by
   obtain rfl:f=14:=Option.some.inj (named14.symm.trans hf) |>.symm
   obtain rfl:fn=Tryz.f14:=(Option.some.inj (Tryz.func14.symm.trans hfn)).symm
   exact ⟨x4,fun j t ht=>by
    rw[Tryz.params14]at ht
    have hm:t∈[25,3,3,3,3]:=by simpa using Array.mem_of_getElem? ht
    have hall:([25,3,3,3,3].all fun u=>!Tryz.prog.wantsStandIn u)=true:=by kernel_rfl
    exact (show Tryz.prog.wantsStandIn t=false by simpa using List.all_eq_true.1 hall t hm)⟩)
  v6b
#print axioms honoursMinutes_card
end Go.Proofs.YtdpfgjljehajbaaGreatDoor
