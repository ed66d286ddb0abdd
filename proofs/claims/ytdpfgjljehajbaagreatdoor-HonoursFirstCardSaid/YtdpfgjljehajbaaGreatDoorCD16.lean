/- The card of one law is proved: the law returns true for every input and its arguments read as before. Conditions: those of the given row; the listed variables are tied to the pruned copy of the project. -/
import Derived.Test.YtdpfgjljehajbaaGreatDoorCF16
import Derived.Test.YtdpfgjljehajbaaGreatDoorHV
import Derived.Test.YtdpfgjljehajbaaGreatDoorK9
set_option linter.unusedVariables false
set_option linter.unusedSimpArgs false
/-! CD16 -/
set_option maxRecDepth 100000
set_option linter.unusedVariables false
namespace Go.Proofs.YtdpfgjljehajbaaGreatDoor
open Go Go.Ev Go.ChangeShapes Go.WideShapes Go.ChangeAt Go.RowKit
theorem lifted16 (os : Os) (started : os.Started) (H : Type) (enc : TypeId × Value → H) :
    ReturnsInHanded {} Tryz.checked os 16 .any (fun w args => (Rows.honoursFirstSpec.pre enc Tryz.prog Tryz.f16 [] false w args ∧ laidMetH Tryz.prog Rows.honoursFirstRow.laid w) ∧ sizedMet enc Tryz.prog Tryz.f16 (OpenSpec.ofChange Rows.honoursFirstSpec) false w args)
      (Rows.honoursFirstSpec.post enc Tryz.prog Tryz.f16 false true false false) := by
  refine returnsInHanded_of_change_and (C := Tryz.checked) (X := fun w _ => laidMetH Tryz.prog Rows.honoursFirstRow.laid w) (fun _ _ _ hh h => h.of_heap hh) own started (by kernel_rfl) Tryz.func16
    (ChangeSpec.witness_shaped (enc := enc) (C := Tryz.checked) (os := os) (X := fun w _ => laidMetH Tryz.prog Rows.honoursFirstRow.laid w) false (World.laidAll Tryz.prog os Rows.honoursFirstRow.laid)
      #[.agg #[.int .i64 0, .int .i64 0, .bool false, .bool false, .bool false, .bool false, .bool false, .bool false, .bool false], .int .i64 0, .slice none 0 0, .slice none 0 0] 8 (World.laidAll_os _ _ _)
      (World.shaped_of_ZipB (by kernel_rfl) (by kernel_rfl)) (by kernel_rfl) (by kernel_rfl) (by kernel_rfl)
      (by rw [MakeChecks.laidMetH_plain _ _ _ (by kernel_rfl)]; exact laidMet_laidAll _ (by kernel_rfl) (by kernel_rfl))) ?_
  intro W base args ds gs before hval0 hW hc _ hL _
  have hval : ∀ (j : Nat) t v, Tryz.f16.params[j]? = some t → args[j]? = some v → Value.okWide Tryz.prog W .any base t v := hval0
  have hW0 := hW
  obtain ⟨p, q, hA0, hV, _, _, _⟩ := hW0
  obtain ⟨rfl, rfl⟩ := trodVars_none hV
  have hA : DataW.TrodAll enc Tryz.prog W 0 (fun _ => true) true Tryz.f16.params.toList args.toList ds p := hA0
  rw [Tryz.params16] at hA hval
  obtain ⟨us⟩ := args
  obtain ⟨v1, us, d1, ds, _, _, rfl, rfl, _, h1, hA⟩ := trodAll_cons hA
  obtain ⟨v2, us, d2, ds, _, _, rfl, rfl, _, h2, hA⟩ := trodAll_cons hA
  obtain ⟨v3, us, d3, ds, _, _, rfl, rfl, _, h3, hA⟩ := trodAll_cons hA
  obtain ⟨v4, us, d4, ds, _, _, rfl, rfl, _, h4, hA⟩ := trodAll_cons hA
  obtain ⟨rfl, rfl, _⟩ := trodAll_nil hA
  have k := lawG_old W
  obtain ⟨_, l1, t1, r1⟩ := open_struct Tryz.kids k Tryz.seq (of_decide_eq_true (by kernel_rfl)) Tryz.underlying81 (hval 0 81 v1 rfl rfl) h1
  obtain ⟨x1, rfl, w1⟩ := hasHrs t1
  obtain ⟨x2, rfl, _, _, w2⟩ := open_int Tryz.underlying3 (hval 1 3 v2 rfl rfl) h2
  obtain ⟨_, a3, t3, r3⟩ := open_cell Tryz.kids k Tryz.seq (t := 82) (of_decide_eq_true (by kernel_rfl)) (slice_cells Tryz.underlying82 (hval 2 82 v3 rfl rfl)) h3
  obtain ⟨x3, e3, n3, w3⟩ := hasL Tryz.underlying82 (fun n l h => hasSal h) t3
  obtain rfl := (List.cons.inj e3).1
  obtain ⟨_, a4, t4, r4⟩ := open_cell Tryz.kids k Tryz.seq (t := 39) (of_decide_eq_true (by kernel_rfl)) (slice_cells Tryz.underlying39 (hval 3 39 v4 rfl rfl)) h4
  obtain ⟨x4, e4, n4, w4⟩ := hasL Tryz.underlying39 hasIntE t4
  obtain rfl := (List.cons.inj e4).1
  refine law_post (s := Rows.honoursFirstSpec) (fn := Tryz.f16) (by rw [Tryz.params16]; intro t ht; simp only [List.mem_cons, List.mem_nil_iff, or_false] at ht; rcases ht with rfl | rfl | rfl | rfl <;> exact of_decide_eq_true (by kernel_rfl)) (by kernel_rfl) rfl hW rfl hL
    [.agg [I x1.op, I x1.cl, Bo x1.d0, Bo x1.d1, Bo x1.d2, Bo x1.d3, Bo x1.d4, Bo x1.d5, Bo x1.d6], I x2, .vs (encL encSv x3) x3.length .none, .vs (encL encNum x4) x4.length .none]
    (VRs.cons r1 (VRs.cons (.int _ _) (VRs.cons r3 (VRs.cons r4 VRs.nil))))
    (ct16.call (R := R15) rfl ⟨x3, x4, rfl, rfl, rfl, rfl, w4⟩ ?_)
  simp [scrubL, scrub, Tok.scrub, eM.scL, eD.scL, eT.scL, eU.scL, eSv.scL, eNum.scL]
theorem holds16 : Rows.HonoursFirstSaid :=
  OpenClaim.holds_of_wide 16 Tryz.f16 rfl rfl rfl rfl rfl rfl rfl ⟨rfl, rfl, rfl, rfl, rfl⟩ rfl rfl rfl rfl rfl named16 Tryz.func16 facts16 inst16 wrap16
    (fun os started H enc _ => lifted16 os started H enc)
/-- THE CARD OF HonoursFirst. -/
theorem honoursFirst_card : Rows.HonoursFirstCardSaid :=
  Claim7.holds_tied_plain_at .later [] [.data, .data, .data, .data, .sentinel, .sentinel, .pinned] true (true, "3a186af1b2027ba33b2885bf5840cdc6fead5f27ca1ba81e124aea93eac250d8") true holds16 (fun _ h => by cases h) wfText16 (fun _ h => by cases h) honoursFirst_row_tie rfl ⟨rfl, rfl⟩ pf_main rfl
    (fun f fn hf hfn => by
      obtain rfl : f = 16 := Option.some.inj (named16.symm.trans hf) |>.symm
      obtain rfl : fn = Tryz.f16 := (Option.some.inj (Tryz.func16.symm.trans hfn)).symm
      exact ⟨pf_looks, fun j t ht => by
        rw [Tryz.params16] at ht
        have hm : t ∈ [81, 3, 82, 39] := by simpa using Array.mem_of_getElem? ht
        have hall : ([81, 3, 82, 39].all fun u => !Tryz.prog.wantsStandIn u) = true := by kernel_rfl
        exact (show Tryz.prog.wantsStandIn t = false by simpa using List.all_eq_true.1 hall t hm)⟩)
    goes16
#print axioms honoursFirst_card
end Go.Proofs.YtdpfgjljehajbaaGreatDoor
