/- The card of one law is proved: the law returns true for every input and its arguments read as before. Conditions: those of the given row; the listed variables are tied to the pruned copy of the project. -/
import Derived.Test.YtljjkomdibkjpaaGreatDoorCF16
import Derived.Test.YtljjkomdibkjpaaGreatDoorLaw
import Derived.Test.YtljjkomdibkjpaaGreatDoorK22
set_option linter.unusedVariables false
set_option linter.unusedSimpArgs false
set_option maxRecDepth 100000
set_option linter.unusedVariables false
namespace Go.Proofs.YtljjkomdibkjpaaGreatDoor
open Go Go.Ev Go.ChangeShapes Go.WideShapes Go.ChangeAt Go.RowKit
theorem v0y (os:Os) (started:os.Started) (H:Type) (enc:TypeId × Value→H) :
  ReturnsInHanded {} Tryz.checked os 16 .any (fun w args=>(Rows.rulesPrunedSpec.pre enc Tryz.prog Tryz.f16 [] false w args∧laidMetH Tryz.prog Rows.rulesPrunedRow.laid w)∧sizedMet enc Tryz.prog Tryz.f16 (OpenSpec.ofChange Rows.rulesPrunedSpec) false w args)
   (Rows.rulesPrunedSpec.post enc Tryz.prog Tryz.f16 false true false false):=by
 refine returnsInHanded_of_change_and (C:=Tryz.checked) (X:=fun w _=>laidMetH Tryz.prog Rows.rulesPrunedRow.laid w) (fun _ _ _ hh h=>h.of_heap hh) own started (by kernel_rfl) Tryz.func16
  (ChangeSpec.witness_shaped (enc:=enc) (C:=Tryz.checked) (os:=os) (X:=fun w _=>laidMetH Tryz.prog Rows.rulesPrunedRow.laid w) false (World.laidAll Tryz.prog os Rows.rulesPrunedRow.laid)
   #[.agg #[.slice none 0 0],.agg #[.int .i64 1,.int .i64 0,.bool false,.bool false,.bool false,.int .i64 0,.int .i64 0],.agg #[.int .i64 1,.int .i64 0,.bool false,.bool false,.bool false,.int .i64 0,.int .i64 0]] 8 (World.laidAll_os _ _ _)
   (World.shaped_of_ZipB (by kernel_rfl) (by kernel_rfl)) (by kernel_rfl) (by kernel_rfl) (by kernel_rfl)
   (by rw [MakeChecks.laidMetH_plain _ _ _ (by kernel_rfl)]; exact laidMet_laidAll _ (by kernel_rfl) (by kernel_rfl))) ?_
 intro W base args ds gs before hval0 hW hc _ hL _
 have hval:∀ (j:Nat) t v,Tryz.f16.params[j]? = some t→args[j]? = some v→Value.okWide Tryz.prog W .any base t v:=hval0
 have hW0:=hW
 obtain ⟨p,q,hA0,hV,_,_,_⟩:=hW0
 obtain ⟨rfl,rfl⟩:=trodVars_none hV
 have hA:DataW.TrodAll enc Tryz.prog W 0 (fun _=>true) true Tryz.f16.params.toList args.toList ds p:=hA0
 rw [Tryz.params16] at hA hval
 obtain ⟨us⟩:=args
 obtain ⟨v1,us,d1,ds,_,_,rfl,rfl,_,h1,hA⟩:=trodAll_cons hA
 obtain ⟨v2,us,d2,ds,_,_,rfl,rfl,_,h2,hA⟩:=trodAll_cons hA
 obtain ⟨v3,us,d3,ds,_,_,rfl,rfl,_,h3,hA⟩:=trodAll_cons hA
 obtain ⟨rfl,rfl,_⟩:=trodAll_nil hA
 have k:=y9r W
 obtain ⟨_,l1,t1,r1⟩:=y17 Tryz.kids k Tryz.seq (of_decide_eq_true (by kernel_rfl)) Tryz.underlying25 (hval 0 25 v1 rfl rfl) h1
 obtain ⟨x1,rfl,w1⟩:=x3f t1
 obtain ⟨_,l2,t2,r2⟩:=y17 Tryz.kids k Tryz.seq (of_decide_eq_true (by kernel_rfl)) Tryz.underlying40 (hval 1 40 v2 rfl rfl) h2
 obtain ⟨x2,rfl⟩:=w7v t2
 obtain ⟨_,l3,t3,r3⟩:=y17 Tryz.kids k Tryz.seq (of_decide_eq_true (by kernel_rfl)) Tryz.underlying40 (hval 2 40 v3 rfl rfl) h3
 obtain ⟨x3,rfl⟩:=w7v t3
 refine x6b (s:=Rows.rulesPrunedSpec) (fn:=Tryz.f16) (by rw [Tryz.params16]; intro t ht; simp only [List.mem_cons,List.mem_nil_iff,or_false] at ht; rcases ht with rfl | rfl | rfl <;> exact of_decide_eq_true (by kernel_rfl)) (by kernel_rfl) rfl hW rfl hL
  [.agg [.vs (z0c x1) x1.length .none],.agg (z0a x2),.agg (z0a x3)]
  (VRs.cons r1 (VRs.cons r2 (VRs.cons r3 VRs.nil)))
  (ct16.call (R:=RL3) rfl ⟨⟨x1,rfl,rfl,w1⟩,⟨x2,rfl⟩,⟨x3,rfl⟩⟩ ?_)
 simp [z0e,scrub,z1f,Tok.scrub,z2u]
theorem v1w:Rows.RulesPrunedSaid :=
 OpenClaim.holds_of_wide 16 Tryz.f16 rfl rfl rfl rfl rfl rfl rfl ⟨rfl,rfl,rfl,rfl,rfl⟩ rfl rfl rfl rfl rfl named16 Tryz.func16 v2a v5e v4c
  (fun os started H enc _=>v0y os started H enc)
theorem rulesPruned_card:Rows.RulesPrunedCardSaid :=
 Claim7.holds_tied_plain_at .later [] [.data, .data, .data, .data, .sentinel, .sentinel, .pinned] true (true, "8a39989b16c96edd8862227a28a39fd81b9a8129ba56d5c5d6d2d1b329311cf0") true v1w (fun _ h => by cases h) w95 (fun _ h => by cases h) rulesPruned_row_tie rfl ⟨rfl, rfl⟩ x8n rfl
  (fun f fn hf hfn=>by
   obtain rfl:f = 16:=Option.some.inj (named16.symm.trans hf) |>.symm
   obtain rfl:fn = Tryz.f16:=(Option.some.inj (Tryz.func16.symm.trans hfn)).symm
   exact ⟨x5y,fun j t ht=>by
    rw [Tryz.params16] at ht
    have hm:t ∈ [25,40,40]:=by simpa using Array.mem_of_getElem? ht
    have hall:([25,40,40].all fun u=>!Tryz.prog.wantsStandIn u) = true:=by kernel_rfl
    exact (show Tryz.prog.wantsStandIn t = false by simpa using List.all_eq_true.1 hall t hm)⟩)
  v5h
#print axioms rulesPruned_card
end Go.Proofs.YtljjkomdibkjpaaGreatDoor
