/- The card of one law is proved: the law returns true for every input and its arguments read as before. Conditions: those of the given row; the listed variables are tied to the pruned copy of the project. -/
import Derived.Test.YtdpfgjljehajbaaGreatDoorCF17
import Derived.Test.YtdpfgjljehajbaaGreatDoorHV
import Derived.Test.YtdpfgjljehajbaaGreatDoorK3
set_option linter.unusedVariables false
set_option linter.unusedSimpArgs false
/-! CD17 -/
set_option maxRecDepth 100000
set_option linter.unusedVariables false
namespace Go.Proofs.YtdpfgjljehajbaaGreatDoor
open Go Go.Ev Go.ChangeShapes Go.WideShapes Go.ChangeAt Go.RowKit
theorem lifted17 (os : Os) (started : os.Started) (H : Type) (enc : TypeId × Value → H) :
    ReturnsInHanded {} Tryz.checked os 17 .any (fun w args => (Rows.honoursTunesSpec.pre enc Tryz.prog Tryz.f17 [] false w args ∧ laidMetH Tryz.prog Rows.honoursTunesRow.laid w) ∧ sizedMet enc Tryz.prog Tryz.f17 (OpenSpec.ofChange Rows.honoursTunesSpec) false w args)
      (Rows.honoursTunesSpec.post enc Tryz.prog Tryz.f17 false true false false) := by
  refine returnsInHanded_of_change_and (C := Tryz.checked) (X := fun w _ => laidMetH Tryz.prog Rows.honoursTunesRow.laid w) (fun _ _ _ hh h => h.of_heap hh) own started (by kernel_rfl) Tryz.func17
    (ChangeSpec.witness_shaped (enc := enc) (C := Tryz.checked) (os := os) (X := fun w _ => laidMetH Tryz.prog Rows.honoursTunesRow.laid w) false (World.laidAll Tryz.prog os Rows.honoursTunesRow.laid)
      #[.slice none 0 0, .int .i64 0, .int .i64 0] 8 (World.laidAll_os _ _ _)
      (World.shaped_of_ZipB (by kernel_rfl) (by kernel_rfl)) (by kernel_rfl) (by kernel_rfl) (by kernel_rfl)
      (by rw [MakeChecks.laidMetH_plain _ _ _ (by kernel_rfl)]; exact laidMet_laidAll _ (by kernel_rfl) (by kernel_rfl))) ?_
  intro W base args ds gs before hval0 hW hc _ hL _
  have hval : ∀ (j : Nat) t v, Tryz.f17.params[j]? = some t → args[j]? = some v → Value.okWide Tryz.prog W .any base t v := hval0
  have hW0 := hW
  obtain ⟨p, q, hA0, hV, _, _, _⟩ := hW0
  obtain ⟨rfl, rfl⟩ := trodVars_none hV
  have hA : DataW.TrodAll enc Tryz.prog W 0 (fun _ => true) true Tryz.f17.params.toList args.toList ds p := hA0
  rw [Tryz.params17] at hA hval
  obtain ⟨us⟩ := args
  obtain ⟨v1, us, d1, ds, _, _, rfl, rfl, _, h1, hA⟩ := trodAll_cons hA
  obtain ⟨v2, us, d2, ds, _, _, rfl, rfl, _, h2, hA⟩ := trodAll_cons hA
  obtain ⟨v3, us, d3, ds, _, _, rfl, rfl, _, h3, hA⟩ := trodAll_cons hA
  obtain ⟨rfl, rfl, _⟩ := trodAll_nil hA
  have k := lawG_old W
  obtain ⟨_, a1, t1, r1⟩ := open_cell Tryz.kids k Tryz.seq (t := 86) (of_decide_eq_true (by kernel_rfl)) (slice_cells Tryz.underlying86 (hval 0 86 v1 rfl rfl)) h1
  obtain ⟨x1, e1, n1, w1⟩ := hasL Tryz.underlying86 (fun n l h => hasTun h) t1
  obtain rfl := (List.cons.inj e1).1
  obtain ⟨x2, rfl, _, _, w2⟩ := open_int Tryz.underlying3 (hval 1 3 v2 rfl rfl) h2
  obtain ⟨x3, rfl, _, _, w3⟩ := open_int Tryz.underlying3 (hval 2 3 v3 rfl rfl) h3
  refine law_post (s := Rows.honoursTunesSpec) (fn := Tryz.f17) (by rw [Tryz.params17]; intro t ht; simp only [List.mem_cons, List.mem_nil_iff, or_false] at ht; rcases ht with rfl | rfl | rfl <;> exact of_decide_eq_true (by kernel_rfl)) (by kernel_rfl) rfl hW rfl hL
    [.vs (encL encU x1) x1.length .none, I x2, I x3]
    (VRs.cons r1 (VRs.cons (.int _ _) (VRs.cons (.int _ _) VRs.nil)))
    (ct17.call (R := R17) rfl ⟨x1, rfl, rfl, w1⟩ ?_)
  simp [scrubL, scrub, Tok.scrub, eM.scL, eD.scL, eT.scL, eU.scL, eS.scL]
theorem holds17 : Rows.HonoursTunesSaid :=
  OpenClaim.holds_of_wide 17 Tryz.f17 rfl rfl rfl rfl rfl rfl rfl ⟨rfl, rfl, rfl, rfl, rfl⟩ rfl rfl rfl rfl rfl named17 Tryz.func17 facts17 inst17 wrap17
    (fun os started H enc _ => lifted17 os started H enc)
/-- THE CARD OF HonoursTunes. -/
theorem honoursTunes_card : Rows.HonoursTunesCardSaid :=
  Claim7.holds_tied_plain_at .later [] [.data, .data, .data, .data, .sentinel, .sentinel, .pinned] true (true, "3a186af1b2027ba33b2885bf5840cdc6fead5f27ca1ba81e124aea93eac250d8") true holds17 (fun _ h => by cases h) wfText17 (fun _ h => by cases h) honoursTunes_row_tie rfl ⟨rfl, rfl⟩ pf_main rfl
    (fun f fn hf hfn => by
      obtain rfl : f = 17 := Option.some.inj (named17.symm.trans hf) |>.symm
      obtain rfl : fn = Tryz.f17 := (Option.some.inj (Tryz.func17.symm.trans hfn)).symm
      exact ⟨pf_looks, fun j t ht => by
        rw [Tryz.params17] at ht
        have hm : t ∈ [86, 3, 3] := by simpa using Array.mem_of_getElem? ht
        have hall : ([86, 3, 3].all fun u => !Tryz.prog.wantsStandIn u) = true := by kernel_rfl
        exact (show Tryz.prog.wantsStandIn t = false by simpa using List.all_eq_true.1 hall t hm)⟩)
    goes17
#print axioms honoursTunes_card
end Go.Proofs.YtdpfgjljehajbaaGreatDoor
