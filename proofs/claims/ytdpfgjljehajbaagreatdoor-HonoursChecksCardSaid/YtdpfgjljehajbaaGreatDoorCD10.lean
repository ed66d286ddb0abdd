/- The card of one law is proved: the law returns true for every input and its arguments read as before. Conditions: those of the given row; the listed variables are tied to the pruned copy of the project. -/
import Derived.Test.YtdpfgjljehajbaaGreatDoorCF10
import Derived.Test.YtdpfgjljehajbaaGreatDoorHV
import Derived.Test.YtdpfgjljehajbaaGreatDoorK9
set_option linter.unusedVariables false
set_option linter.unusedSimpArgs false
/-! CD10 -/
set_option maxRecDepth 100000
set_option linter.unusedVariables false
namespace Go.Proofs.YtdpfgjljehajbaaGreatDoor
open Go Go.Ev Go.ChangeShapes Go.WideShapes Go.ChangeAt Go.RowKit
theorem lifted10 (os : Os) (started : os.Started) (H : Type) (enc : TypeId × Value → H) :
    ReturnsInHanded {} Tryz.checked os 10 .any (fun w args => (Rows.honoursChecksSpec.pre enc Tryz.prog Tryz.f10 [] false w args ∧ laidMetH Tryz.prog Rows.honoursChecksRow.laid w) ∧ sizedMet enc Tryz.prog Tryz.f10 (OpenSpec.ofChange Rows.honoursChecksSpec) false w args)
      (Rows.honoursChecksSpec.post enc Tryz.prog Tryz.f10 false true false false) := by
  refine returnsInHanded_of_change_and (C := Tryz.checked) (X := fun w _ => laidMetH Tryz.prog Rows.honoursChecksRow.laid w) (fun _ _ _ hh h => h.of_heap hh) own started (by kernel_rfl) Tryz.func10
    (ChangeSpec.witness_shaped (enc := enc) (C := Tryz.checked) (os := os) (X := fun w _ => laidMetH Tryz.prog Rows.honoursChecksRow.laid w) false (World.laidAll Tryz.prog os Rows.honoursChecksRow.laid)
      #[.agg #[.slice none 0 0, .slice none 0 0], .agg #[.int .i64 0, .int .u8 0, .int .i64 0, .int .i64 0, .int .i64 0, .int .i64 0, .int .i64 0, .int .i64 0, .int .i64 0], .agg #[.int .i64 0, .int .i64 0], .int .i64 0] 8 (World.laidAll_os _ _ _)
      (World.shaped_of_ZipB (by kernel_rfl) (by kernel_rfl)) (by kernel_rfl) (by kernel_rfl) (by kernel_rfl)
      (by rw [MakeChecks.laidMetH_plain _ _ _ (by kernel_rfl)]; exact laidMet_laidAll _ (by kernel_rfl) (by kernel_rfl))) ?_
  intro W base args ds gs before hval0 hW hc _ hL _
  have hval : ∀ (j : Nat) t v, Tryz.f10.params[j]? = some t → args[j]? = some v → Value.okWide Tryz.prog W .any base t v := hval0
  have hW0 := hW
  obtain ⟨p, q, hA0, hV, _, _, _⟩ := hW0
  obtain ⟨rfl, rfl⟩ := trodVars_none hV
  have hA : DataW.TrodAll enc Tryz.prog W 0 (fun _ => true) true Tryz.f10.params.toList args.toList ds p := hA0
  rw [Tryz.params10] at hA hval
  obtain ⟨us⟩ := args
  obtain ⟨v1, us, d1, ds, _, _, rfl, rfl, _, h1, hA⟩ := trodAll_cons hA
  obtain ⟨v2, us, d2, ds, _, _, rfl, rfl, _, h2, hA⟩ := trodAll_cons hA
  obtain ⟨v3, us, d3, ds, _, _, rfl, rfl, _, h3, hA⟩ := trodAll_cons hA
  obtain ⟨v4, us, d4, ds, _, _, rfl, rfl, _, h4, hA⟩ := trodAll_cons hA
  obtain ⟨rfl, rfl, _⟩ := trodAll_nil hA
  have k := lawG_old W
  obtain ⟨_, l1, t1, r1⟩ := open_struct Tryz.kids k Tryz.seq (of_decide_eq_true (by kernel_rfl)) Tryz.underlying25 (hval 0 25 v1 rfl rfl) h1
  obtain ⟨m1, c1, rfl, hm1, hc1, om1, oc1⟩ := hasHon t1
  obtain ⟨_, l2, t2, r2⟩ := open_struct Tryz.kids k Tryz.seq (of_decide_eq_true (by kernel_rfl)) Tryz.underlying46 (hval 1 46 v2 rfl rfl) h2
  obtain ⟨x2, rfl, w2⟩ := hasDcr t2
  obtain ⟨_, l3, t3, r3⟩ := open_struct Tryz.kids k Tryz.seq (of_decide_eq_true (by kernel_rfl)) Tryz.underlying58 (hval 2 58 v3 rfl rfl) h3
  obtain ⟨x3, rfl, w3⟩ := hasMst t3
  obtain ⟨x4, rfl, _, _, w4⟩ := open_int Tryz.underlying3 (hval 3 3 v4 rfl rfl) h4
  refine law_post (s := Rows.honoursChecksSpec) (fn := Tryz.f10) (by rw [Tryz.params10]; intro t ht; simp only [List.mem_cons, List.mem_nil_iff, or_false] at ht; rcases ht with rfl | rfl | rfl | rfl <;> exact of_decide_eq_true (by kernel_rfl)) (by kernel_rfl) rfl hW rfl hL
    [.agg [.vs (encL encM m1) m1.length .none, .vs (encL encD c1) c1.length .none], .agg (encD x2), .agg (encM x3), I x4]
    (VRs.cons r1 (VRs.cons r2 (VRs.cons r3 (VRs.cons (.int _ _) VRs.nil))))
    (ct10.call (R := R10) rfl ⟨m1, c1, rfl, rfl, rfl, rfl⟩ ?_)
  simp [scrubL, scrub, Tok.scrub, eM.scL, eD.scL, eT.scL, eU.scL, eSv.scL, eNum.scL, encD, encM]
theorem holds10 : Rows.HonoursChecksSaid :=
  OpenClaim.holds_of_wide 10 Tryz.f10 rfl rfl rfl rfl rfl rfl rfl ⟨rfl, rfl, rfl, rfl, rfl⟩ rfl rfl rfl rfl rfl named10 Tryz.func10 facts10 inst10 wrap10
    (fun os started H enc _ => lifted10 os started H enc)
/-- THE CARD OF HonoursChecks. -/
theorem honoursChecks_card : Rows.HonoursChecksCardSaid :=
  Claim7.holds_tied_plain_at .later [] [.data, .data, .data, .data, .sentinel, .sentinel, .pinned] true (true, "3a186af1b2027ba33b2885bf5840cdc6fead5f27ca1ba81e124aea93eac250d8") true holds10 (fun _ h => by cases h) wfText10 (fun _ h => by cases h) honoursChecks_row_tie rfl ⟨rfl, rfl⟩ pf_main rfl
    (fun f fn hf hfn => by
      obtain rfl : f = 10 := Option.some.inj (named10.symm.trans hf) |>.symm
      obtain rfl : fn = Tryz.f10 := (Option.some.inj (Tryz.func10.symm.trans hfn)).symm
      exact ⟨pf_looks, fun j t ht => by
        rw [Tryz.params10] at ht
        have hm : t ∈ [25, 46, 58, 3] := by simpa using Array.mem_of_getElem? ht
        have hall : ([25, 46, 58, 3].all fun u => !Tryz.prog.wantsStandIn u) = true := by kernel_rfl
        exact (show Tryz.prog.wantsStandIn t = false by simpa using List.all_eq_true.1 hall t hm)⟩)
    goes10
#print axioms honoursChecks_card
end Go.Proofs.YtdpfgjljehajbaaGreatDoor
