/- The card of one law is proved: the law returns true for every input and its arguments read as before. Conditions: those of the given row; the listed variables are tied to the pruned copy of the project. -/
import Derived.Test.YtljjkomdibkjpaaGreatDoorCF7
import Derived.Test.YtljjkomdibkjpaaGreatDoorLaw
set_option linter.unusedVariables false
set_option linter.unusedSimpArgs false
/-! CD7 -/
set_option maxRecDepth 100000
set_option linter.unusedVariables false
namespace Go.Proofs.YtljjkomdibkjpaaGreatDoor
open Go Go.Ev Go.ChangeShapes Go.WideShapes Go.ChangeAt Go.RowKit
theorem lifted7 (os : Os) (started : os.Started) (H : Type) (enc : TypeId × Value → H) :
    ReturnsInHanded {} Tryz.checked os 7 .any (fun w args => (Rows.rulesOrdinalsSpec.pre enc Tryz.prog Tryz.f7 [] false w args ∧ laidMetH Tryz.prog Rows.rulesOrdinalsRow.laid w) ∧ sizedMet enc Tryz.prog Tryz.f7 (OpenSpec.ofChange Rows.rulesOrdinalsSpec) false w args)
      (Rows.rulesOrdinalsSpec.post enc Tryz.prog Tryz.f7 false true false false) := by
  refine returnsInHanded_of_change_and (C := Tryz.checked) (X := fun w _ => laidMetH Tryz.prog Rows.rulesOrdinalsRow.laid w) (fun _ _ _ hh h => h.of_heap hh) own started (by kernel_rfl) Tryz.func7
    (ChangeSpec.witness_shaped (enc := enc) (C := Tryz.checked) (os := os) (X := fun w _ => laidMetH Tryz.prog Rows.rulesOrdinalsRow.laid w) false (World.laidAll Tryz.prog os Rows.rulesOrdinalsRow.laid)
      #[.agg #[.slice none 0 0], .agg #[.int .i64 1, .int .i64 0, .bool false, .bool false, .bool false, .int .i64 0, .int .i64 0], .agg #[.int .i64 1, .int .i64 0, .bool false, .bool false, .bool false, .int .i64 0, .int .i64 0], .int .i64 0, .int .i64 0, .int .i64 0, .int .i64 0] 8 (World.laidAll_os _ _ _)
      (World.shaped_of_ZipB (by kernel_rfl) (by kernel_rfl)) (by kernel_rfl) (by kernel_rfl) (by kernel_rfl)
      (by rw [MakeChecks.laidMetH_plain _ _ _ (by kernel_rfl)]; exact laidMet_laidAll _ (by kernel_rfl) (by kernel_rfl))) ?_
  intro W base args ds gs before hval0 hW hc _ hL _
  have hval : ∀ (j : Nat) t v, Tryz.f7.params[j]? = some t → args[j]? = some v → Value.okWide Tryz.prog W .any base t v := hval0
  have hW0 := hW
  obtain ⟨p, q, hA0, hV, _, _, _⟩ := hW0
  obtain ⟨rfl, rfl⟩ := trodVars_none hV
  have hA : DataW.TrodAll enc Tryz.prog W 0 (fun _ => true) true Tryz.f7.params.toList args.toList ds p := hA0
  rw [Tryz.params7] at hA hval
  obtain ⟨us⟩ := args
  obtain ⟨v1, us, d1, ds, _, _, rfl, rfl, _, h1, hA⟩ := trodAll_cons hA
  obtain ⟨v2, us, d2, ds, _, _, rfl, rfl, _, h2, hA⟩ := trodAll_cons hA
  obtain ⟨v3, us, d3, ds, _, _, rfl, rfl, _, h3, hA⟩ := trodAll_cons hA
  obtain ⟨v4, us, d4, ds, _, _, rfl, rfl, _, h4, hA⟩ := trodAll_cons hA
  obtain ⟨v5, us, d5, ds, _, _, rfl, rfl, _, h5, hA⟩ := trodAll_cons hA
  obtain ⟨v6, us, d6, ds, _, _, rfl, rfl, _, h6, hA⟩ := trodAll_cons hA
  obtain ⟨v7, us, d7, ds, _, _, rfl, rfl, _, h7, hA⟩ := trodAll_cons hA
  obtain ⟨rfl, rfl, _⟩ := trodAll_nil hA
  have k := lawG_old W
  obtain ⟨_, l1, t1, r1⟩ := open_struct Tryz.kids k Tryz.seq (of_decide_eq_true (by kernel_rfl)) Tryz.underlying25 (hval 0 25 v1 rfl rfl) h1
  obtain ⟨x1, rfl, w1⟩ := hasRules t1
  obtain ⟨_, l2, t2, r2⟩ := open_struct Tryz.kids k Tryz.seq (of_decide_eq_true (by kernel_rfl)) Tryz.underlying40 (hval 1 40 v2 rfl rfl) h2
  obtain ⟨x2, rfl⟩ := hasP t2
  obtain ⟨_, l3, t3, r3⟩ := open_struct Tryz.kids k Tryz.seq (of_decide_eq_true (by kernel_rfl)) Tryz.underlying40 (hval 2 40 v3 rfl rfl) h3
  obtain ⟨x3, rfl⟩ := hasP t3
  obtain ⟨x4, rfl, _, _, w4⟩ := open_int Tryz.underlying3 (hval 3 3 v4 rfl rfl) h4
  obtain ⟨x5, rfl, _, _, w5⟩ := open_int Tryz.underlying3 (hval 4 3 v5 rfl rfl) h5
  obtain ⟨x6, rfl, _, _, w6⟩ := open_int Tryz.underlying3 (hval 5 3 v6 rfl rfl) h6
  obtain ⟨x7, rfl, _, _, w7⟩ := open_int Tryz.underlying3 (hval 6 3 v7 rfl rfl) h7
  refine law_post (s := Rows.rulesOrdinalsSpec) (fn := Tryz.f7) (by rw [Tryz.params7]; intro t ht; simp only [List.mem_cons, List.mem_nil_iff, or_false] at ht; rcases ht with rfl | rfl | rfl | rfl | rfl | rfl | rfl <;> exact of_decide_eq_true (by kernel_rfl)) (by kernel_rfl) rfl hW rfl hL
    [.agg [.vs (encRs x1) x1.length .none], .agg (encP x2), .agg (encP x3), I x4, I x5, I x6, I x7]
    (VRs.cons r1 (VRs.cons r2 (VRs.cons r3 (VRs.cons (.int _ _) (VRs.cons (.int _ _) (VRs.cons (.int _ _) (VRs.cons (.int _ _) VRs.nil)))))))
    (ct7.call (R := R7) rfl ⟨⟨x1, rfl, rfl, w1⟩, ⟨x2, rfl⟩, ⟨x3, rfl⟩⟩ ?_)
  simp [scrubL, scrub, sc_encRs, Tok.scrub, sc_encP]
theorem holds7 : Rows.RulesOrdinalsSaid :=
  OpenClaim.holds_of_wide 7 Tryz.f7 rfl rfl rfl rfl rfl rfl rfl ⟨rfl, rfl, rfl, rfl, rfl⟩ rfl rfl rfl rfl rfl named7 Tryz.func7 facts7 inst7 wrap7
    (fun os started H enc _ => lifted7 os started H enc)
/-- THE CARD OF RulesOrdinals. -/
theorem rulesOrdinals_card : Rows.RulesOrdinalsCardSaid :=
  Claim7.holds_tied_plain_at .later [] [.data, .data, .data, .data, .sentinel, .sentinel, .pinned] true (true, "8a39989b16c96edd8862227a28a39fd81b9a8129ba56d5c5d6d2d1b329311cf0") true holds7 (fun _ h => by cases h) wfText7 (fun _ h => by cases h) rulesOrdinals_row_tie rfl ⟨rfl, rfl⟩ pf_main rfl
    (fun f fn hf hfn => by
      obtain rfl : f = 7 := Option.some.inj (named7.symm.trans hf) |>.symm
      obtain rfl : fn = Tryz.f7 := (Option.some.inj (Tryz.func7.symm.trans hfn)).symm
      exact ⟨pf_looks, fun j t ht => by
        rw [Tryz.params7] at ht
        have hm : t ∈ [25, 40, 40, 3, 3, 3, 3] := by simpa using Array.mem_of_getElem? ht
        have hall : ([25, 40, 40, 3, 3, 3, 3].all fun u => !Tryz.prog.wantsStandIn u) = true := by kernel_rfl
        exact (show Tryz.prog.wantsStandIn t = false by simpa using List.all_eq_true.1 hall t hm)⟩)
    goes7
#print axioms rulesOrdinals_card
end Go.Proofs.YtljjkomdibkjpaaGreatDoor
