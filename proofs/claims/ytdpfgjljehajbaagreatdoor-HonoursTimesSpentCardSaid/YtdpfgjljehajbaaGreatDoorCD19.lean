/- The card of one law is proved: the law returns true for every input and its arguments read as before. Conditions: those of the given row; the listed variables are tied to the pruned copy of the project. -/
import Derived.Test.YtdpfgjljehajbaaGreatDoorCF19
import Derived.Test.YtdpfgjljehajbaaGreatDoorHV
import Derived.Test.YtdpfgjljehajbaaGreatDoorK7
set_option linter.unusedVariables false
set_option linter.unusedSimpArgs false
/-! CD19 -/
set_option maxRecDepth 100000
set_option linter.unusedVariables false
namespace Go.Proofs.YtdpfgjljehajbaaGreatDoor
open Go Go.Ev Go.ChangeShapes Go.WideShapes Go.ChangeAt Go.RowKit
theorem lifted19 (os : Os) (started : os.Started) (H : Type) (enc : TypeId × Value → H) :
    ReturnsInHanded {} Tryz.checked os 19 .any (fun w args => (Rows.honoursTimesSpentSpec.pre enc Tryz.prog Tryz.f19 [] false w args ∧ laidMetH Tryz.prog Rows.honoursTimesSpentRow.laid w) ∧ sizedMet enc Tryz.prog Tryz.f19 (OpenSpec.ofChange Rows.honoursTimesSpentSpec) false w args)
      (Rows.honoursTimesSpentSpec.post enc Tryz.prog Tryz.f19 false true false false) := by
  refine returnsInHanded_of_change_and (C := Tryz.checked) (X := fun w _ => laidMetH Tryz.prog Rows.honoursTimesSpentRow.laid w) (fun _ _ _ hh h => h.of_heap hh) own started (by kernel_rfl) Tryz.func19
    (ChangeSpec.witness_shaped (enc := enc) (C := Tryz.checked) (os := os) (X := fun w _ => laidMetH Tryz.prog Rows.honoursTimesSpentRow.laid w) false (World.laidAll Tryz.prog os Rows.honoursTimesSpentRow.laid)
      #[.slice none 0 0, .slice none 0 0, .int .i64 0] 8 (World.laidAll_os _ _ _)
      (World.shaped_of_ZipB (by kernel_rfl) (by kernel_rfl)) (by kernel_rfl) (by kernel_rfl) (by kernel_rfl)
      (by rw [MakeChecks.laidMetH_plain _ _ _ (by kernel_rfl)]; exact laidMet_laidAll _ (by kernel_rfl) (by kernel_rfl))) ?_
  intro W base args ds gs before hval0 hW hc _ hL _
  have hval : ∀ (j : Nat) t v, Tryz.f19.params[j]? = some t → args[j]? = some v → Value.okWide Tryz.prog W .any base t v := hval0
  have hW0 := hW
  obtain ⟨p, q, hA0, hV, _, _, _⟩ := hW0
  obtain ⟨rfl, rfl⟩ := trodVars_none hV
  have hA : DataW.TrodAll enc Tryz.prog W 0 (fun _ => true) true Tryz.f19.params.toList args.toList ds p := hA0
  rw [Tryz.params19] at hA hval
  obtain ⟨us⟩ := args
  obtain ⟨v1, us, d1, ds, _, _, rfl, rfl, _, h1, hA⟩ := trodAll_cons hA
  obtain ⟨v2, us, d2, ds, _, _, rfl, rfl, _, h2, hA⟩ := trodAll_cons hA
  obtain ⟨v3, us, d3, ds, _, _, rfl, rfl, _, h3, hA⟩ := trodAll_cons hA
  obtain ⟨rfl, rfl, _⟩ := trodAll_nil hA
  have k := lawG_old W
  obtain ⟨_, a1, t1, r1⟩ := open_cell Tryz.kids k Tryz.seq (t := 67) (of_decide_eq_true (by kernel_rfl)) (slice_cells Tryz.underlying67 (hval 0 67 v1 rfl rfl)) h1
  obtain ⟨x1, e1, n1, w1⟩ := hasL Tryz.underlying67 (fun n l h => hasTrn h) t1
  obtain rfl := (List.cons.inj e1).1
  obtain ⟨_, a2, t2, r2⟩ := open_cell Tryz.kids k Tryz.seq (t := 67) (of_decide_eq_true (by kernel_rfl)) (slice_cells Tryz.underlying67 (hval 1 67 v2 rfl rfl)) h2
  obtain ⟨x2, e2, n2, w2⟩ := hasL Tryz.underlying67 (fun n l h => hasTrn h) t2
  obtain rfl := (List.cons.inj e2).1
  obtain ⟨x3, rfl, _, _, w3⟩ := open_int Tryz.underlying3 (hval 2 3 v3 rfl rfl) h3
  refine law_post (s := Rows.honoursTimesSpentSpec) (fn := Tryz.f19) (by rw [Tryz.params19]; intro t ht; simp only [List.mem_cons, List.mem_nil_iff, or_false] at ht; rcases ht with rfl | rfl | rfl <;> exact of_decide_eq_true (by kernel_rfl)) (by kernel_rfl) rfl hW rfl hL
    [.vs (encL encT x1) x1.length .none, .vs (encL encT x2) x2.length .none, I x3]
    (VRs.cons r1 (VRs.cons r2 (VRs.cons (.int _ _) VRs.nil)))
    (ct19.call (R := R19) rfl ⟨⟨x1, rfl, rfl, w1⟩, ⟨x2, rfl, rfl, w2⟩⟩ ?_)
  simp [scrubL, scrub, Tok.scrub, eM.scL, eD.scL, eT.scL, eU.scL, eS.scL, eNum.scL]
theorem holds19 : Rows.HonoursTimesSpentSaid :=
  OpenClaim.holds_of_wide 19 Tryz.f19 rfl rfl rfl rfl rfl rfl rfl ⟨rfl, rfl, rfl, rfl, rfl⟩ rfl rfl rfl rfl rfl named19 Tryz.func19 facts19 inst19 wrap19
    (fun os started H enc _ => lifted19 os started H enc)
/-- THE CARD OF HonoursTimesSpent. -/
theorem honoursTimesSpent_card : Rows.HonoursTimesSpentCardSaid :=
  Claim7.holds_tied_plain_at .later [] [.data, .data, .data, .data, .sentinel, .sentinel, .pinned] true (true, "3a186af1b2027ba33b2885bf5840cdc6fead5f27ca1ba81e124aea93eac250d8") true holds19 (fun _ h => by cases h) wfText19 (fun _ h => by cases h) honoursTimesSpent_row_tie rfl ⟨rfl, rfl⟩ pf_main rfl
    (fun f fn hf hfn => by
      obtain rfl : f = 19 := Option.some.inj (named19.symm.trans hf) |>.symm
      obtain rfl : fn = Tryz.f19 := (Option.some.inj (Tryz.func19.symm.trans hfn)).symm
      exact ⟨pf_looks, fun j t ht => by
        rw [Tryz.params19] at ht
        have hm : t ∈ [67, 67, 3] := by simpa using Array.mem_of_getElem? ht
        have hall : ([67, 67, 3].all fun u => !Tryz.prog.wantsStandIn u) = true := by kernel_rfl
        exact (show Tryz.prog.wantsStandIn t = false by simpa using List.all_eq_true.1 hall t hm)⟩)
    goes19
#print axioms honoursTimesSpent_card
end Go.Proofs.YtdpfgjljehajbaaGreatDoor
