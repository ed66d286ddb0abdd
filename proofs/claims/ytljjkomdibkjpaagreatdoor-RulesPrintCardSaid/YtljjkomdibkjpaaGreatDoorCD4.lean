/- The card of one law is proved: the law returns true for every input and its arguments read as before. Conditions: those of the given row; the listed variables are tied to the pruned copy of the project. -/
import Derived.Test.YtljjkomdibkjpaaGreatDoorCF4
import Derived.Test.YtljjkomdibkjpaaGreatDoorLaw
import Derived.Test.YtljjkomdibkjpaaGreatDoorK33
set_option linter.unusedVariables false
set_option linter.unusedSimpArgs false
/-! CD4 -/
set_option maxRecDepth 100000
set_option linter.unusedVariables false
namespace Go.Proofs.YtljjkomdibkjpaaGreatDoor
open Go Go.Ev Go.ChangeShapes Go.WideShapes Go.ChangeAt Go.RowKit
theorem lifted4 (os : Os) (started : os.Started) (H : Type) (enc : TypeId × Value → H) :
    ReturnsInHanded {} Tryz.checked os 4 .any (fun w args => (Rows.rulesPrintSpec.pre enc Tryz.prog Tryz.f4 [] false w args ∧ laidMetH Tryz.prog Rows.rulesPrintRow.laid w) ∧ sizedMet enc Tryz.prog Tryz.f4 (OpenSpec.ofChange Rows.rulesPrintSpec) false w args)
      (Rows.rulesPrintSpec.post enc Tryz.prog Tryz.f4 false true false false) := by
  refine returnsInHanded_of_change_and (C := Tryz.checked) (X := fun w _ => laidMetH Tryz.prog Rows.rulesPrintRow.laid w) (fun _ _ _ hh h => h.of_heap hh) own started (by kernel_rfl) Tryz.func4
    (ChangeSpec.witness_shaped (enc := enc) (C := Tryz.checked) (os := os) (X := fun w _ => laidMetH Tryz.prog Rows.rulesPrintRow.laid w) false (World.laidAll Tryz.prog os Rows.rulesPrintRow.laid)
      #[.agg #[.slice none 0 0]] 8 (World.laidAll_os _ _ _)
      (World.shaped_of_ZipB (by kernel_rfl) (by kernel_rfl)) (by kernel_rfl) (by kernel_rfl) (by kernel_rfl)
      (by rw [MakeChecks.laidMetH_plain _ _ _ (by kernel_rfl)]; exact laidMet_laidAll _ (by kernel_rfl) (by kernel_rfl))) ?_
  intro W base args ds gs before hval0 hW hc _ hL _
  have hval : ∀ (j : Nat) t v, Tryz.f4.params[j]? = some t → args[j]? = some v → Value.okWide Tryz.prog W .any base t v := hval0
  have hW0 := hW
  obtain ⟨p, q, hA0, hV, _, _, _⟩ := hW0
  obtain ⟨rfl, rfl⟩ := trodVars_none hV
  have hA : DataW.TrodAll enc Tryz.prog W 0 (fun _ => true) true Tryz.f4.params.toList args.toList ds p := hA0
  rw [Tryz.params4] at hA hval
  obtain ⟨us⟩ := args
  obtain ⟨v1, us, d1, ds, _, _, rfl, rfl, _, h1, hA⟩ := trodAll_cons hA
  obtain ⟨rfl, rfl, _⟩ := trodAll_nil hA
  have k := lawG_old W
  obtain ⟨_, l1, t1, r1⟩ := open_struct Tryz.kids k Tryz.seq (of_decide_eq_true (by kernel_rfl)) Tryz.underlying25 (hval 0 25 v1 rfl rfl) h1
  obtain ⟨x1, rfl, w1⟩ := hasRules t1
  refine law_post (s := Rows.rulesPrintSpec) (fn := Tryz.f4) (by rw [Tryz.params4]; intro t ht; simp only [List.mem_cons, List.mem_nil_iff, or_false] at ht; rcases ht with rfl <;> exact of_decide_eq_true (by kernel_rfl)) (by kernel_rfl) rfl hW rfl hL
    [.agg [.vs (encRs x1) x1.length .none]]
    (VRs.cons r1 VRs.nil)
    (ct4.call (R := R4) rfl ⟨x1, rfl, rfl, w1⟩ ?_)
  simp [scrubL, scrub, sc_encRs, Tok.scrub, sc_encP]
theorem holds4 : Rows.RulesPrintSaid :=
  OpenClaim.holds_of_wide 4 Tryz.f4 rfl rfl rfl rfl rfl rfl rfl ⟨rfl, rfl, rfl, rfl, rfl⟩ rfl rfl rfl rfl rfl named4 Tryz.func4 facts4 inst4 wrap4
    (fun os started H enc _ => lifted4 os started H enc)
/-- THE CARD OF RulesPrint. -/
theorem rulesPrint_card : Rows.RulesPrintCardSaid :=
  Claim7.holds_tied_plain_at .later [] [.data, .data, .data, .data, .sentinel, .sentinel, .pinned] true (true, "8a39989b16c96edd8862227a28a39fd81b9a8129ba56d5c5d6d2d1b329311cf0") true holds4 (fun _ h => by cases h) wfText4 (fun _ h => by cases h) rulesPrint_row_tie rfl ⟨rfl, rfl⟩ pf_main rfl
    (fun f fn hf hfn => by
      obtain rfl : f = 4 := Option.some.inj (named4.symm.trans hf) |>.symm
      obtain rfl : fn = Tryz.f4 := (Option.some.inj (Tryz.func4.symm.trans hfn)).symm
      exact ⟨pf_looks, fun j t ht => by
        rw [Tryz.params4] at ht
        have hm : t ∈ [25] := by simpa using Array.mem_of_getElem? ht
        have hall : ([25].all fun u => !Tryz.prog.wantsStandIn u) = true := by kernel_rfl
        exact (show Tryz.prog.wantsStandIn t = false by simpa using List.all_eq_true.1 hall t hm)⟩)
    goes4
#print axioms rulesPrint_card
end Go.Proofs.YtljjkomdibkjpaaGreatDoor
