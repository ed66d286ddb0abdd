/- The card of one law is proved: the law returns true for every input and its arguments read as before. Conditions: those of the given row; the listed variables are tied to the pruned copy of the project. -/
import Derived.Test.YtljjkomdibkjpaaGreatDoorCF15
import Derived.Test.YtljjkomdibkjpaaGreatDoorLaw
import Derived.Test.YtljjkomdibkjpaaGreatDoorK22
set_option linter.unusedVariables false
set_option linter.unusedSimpArgs false
set_option maxRecDepth 100000
set_option linter.unusedVariables false
namespace Go.Proofs.YtljjkomdibkjpaaGreatDoor
open Go Go.Ev Go.ChangeShapes Go.WideShapes Go.ChangeAt Go.RowKit
theorem v0z (os:Os) (started:os.Started) (H:Type) (enc:TypeId × Value→H) :
  ReturnsInHanded {} Tryz.checked os 15 .any (fun w args=>(Rows.rulesDeadSpec.pre enc Tryz.prog Tryz.f15 [] false w args∧laidMetH Tryz.prog Rows.rulesDeadRow.laid w)∧sizedMet enc Tryz.prog Tryz.f15 (OpenSpec.ofChange Rows.rulesDeadSpec) false w args)
   (Rows.rulesDeadSpec.post enc Tryz.prog Tryz.f15 false true false false):=by
 refine returnsInHanded_of_change_and (C:=Tryz.checked) (X:=fun w _=>laidMetH Tryz.prog Rows.rulesDeadRow.laid w) (fun _ _ _ hh h=>h.of_heap hh) own started (by kernel_rfl) Tryz.func15
  (ChangeSpec.witness_shaped (enc:=enc) (C:=Tryz.checked) (os:=os) (X:=fun w _=>laidMetH Tryz.prog Rows.rulesDeadRow.laid w) false (World.laidAll Tryz.prog os Rows.rulesDeadRow.laid)
   #[.agg #[.slice none 0 0]] 8 (World.laidAll_os _ _ _)
   (World.shaped_of_ZipB (by kernel_rfl) (by kernel_rfl)) (by kernel_rfl) (by kernel_rfl) (by kernel_rfl)
   (by rw [MakeChecks.laidMetH_plain _ _ _ (by kernel_rfl)]; exact laidMet_laidAll _ (by kernel_rfl) (by kernel_rfl))) ?_
 intro W base args ds gs before hval0 hW hc _ hL _
 have hval:∀ (j:Nat) t v,Tryz.f15.params[j]? = some t→args[j]? = some v→Value.okWide Tryz.prog W .any base t v:=hval0
 have hW0:=hW
 obtain ⟨p,q,hA0,hV,_,_,_⟩:=hW0
 obtain ⟨rfl,rfl⟩:=trodVars_none hV
 have hA:DataW.TrodAll enc Tryz.prog W 0 (fun _=>true) true Tryz.f15.params.toList args.toList ds p:=hA0
 rw [Tryz.params15] at hA hval
 obtain ⟨us⟩:=args
 obtain ⟨v1,us,d1,ds,_,_,rfl,rfl,_,h1,hA⟩:=trodAll_cons hA
 obtain ⟨rfl,rfl,_⟩:=trodAll_nil hA
 have k:=y9r W
 obtain ⟨_,l1,t1,r1⟩:=y17 Tryz.kids k Tryz.seq (of_decide_eq_true (by kernel_rfl)) Tryz.underlying25 (hval 0 25 v1 rfl rfl) h1
 obtain ⟨x1,rfl,w1⟩:=x3f t1
 refine x6b (s:=Rows.rulesDeadSpec) (fn:=Tryz.f15) (by rw [Tryz.params15]; intro t ht; simp only [List.mem_cons,List.mem_nil_iff,or_false] at ht; rcases ht with rfl <;> exact of_decide_eq_true (by kernel_rfl)) (by kernel_rfl) rfl hW rfl hL
  [.agg [.vs (z0c x1) x1.length .none]]
  (VRs.cons r1 VRs.nil)
  (ct15.call (R:=RL1) rfl ⟨x1,rfl,rfl,w1⟩ ?_)
 simp [z0e,scrub,z1f,Tok.scrub,z2u]
theorem v1x:Rows.RulesDeadSaid :=
 OpenClaim.holds_of_wide 15 Tryz.f15 rfl rfl rfl rfl rfl rfl rfl ⟨rfl,rfl,rfl,rfl,rfl⟩ rfl rfl rfl rfl rfl named15 Tryz.func15 v2b v5f v4d
  (fun os started H enc _=>v0z os started H enc)
theorem rulesDead_card:Rows.RulesDeadCardSaid :=
 Claim7.holds_tied_plain_at .later [] [.data, .data, .data, .data, .sentinel, .sentinel, .pinned] true (true, "8a39989b16c96edd8862227a28a39fd81b9a8129ba56d5c5d6d2d1b329311cf0") true v1x (fun _ h => by cases h) w96 (fun _ h => by cases h) rulesDead_row_tie rfl ⟨rfl, rfl⟩ x8n rfl
  (fun f fn hf hfn=>by
   obtain rfl:f = 15:=Option.some.inj (named15.symm.trans hf) |>.symm
   obtain rfl:fn = Tryz.f15:=(Option.some.inj (Tryz.func15.symm.trans hfn)).symm
   exact ⟨x5y,fun j t ht=>by
    rw [Tryz.params15] at ht
    have hm:t ∈ [25]:=by simpa using Array.mem_of_getElem? ht
    have hall:([25].all fun u=>!Tryz.prog.wantsStandIn u) = true:=by kernel_rfl
    exact (show Tryz.prog.wantsStandIn t = false by simpa using List.all_eq_true.1 hall t hm)⟩)
  v5i
#print axioms rulesDead_card
end Go.Proofs.YtljjkomdibkjpaaGreatDoor
