/-
  NARROWER THAN 'FOR EVERY INPUT', by the rows' own cells (each row's printed sentence says how): HonoursAt: laid · HonoursNext: laid · HonoursIdle: laid · HonoursGuns: laid · HonoursWrites: laid · HonoursEnters: laid · HonoursZones: laid · HonoursChecks: laid · HonoursRanks: laid · HonoursTimes: laid · HonoursLines: laid · HonoursMinutes: laid · HonoursBattery: laid · HonoursFirst: laid · HonoursTunes: laid · HonoursTurns: laid · HonoursTimesSpent: laid · HonoursGaps: laid · HonoursMemory: laid · HonoursDiffer: laid · HonoursWitness: laid · HonoursLeave: laid.
  DERIVED. THE GIVEN ROWS OF THIS SEAT. 22 by the template 'for every input the law returns true; each argument reads behind the call as it read before'; 0 by the template 'total and deterministic' (their statements: YtdpfgjljehajbaaGreatDoorTotals.lean).
  GIVEN WITH THE SEED: the statements are not yours to turn. If you find one false, say at which input.
  Laid BY PROGRAM, IN A SANDBOX (cutbox-rows.mjs): the forced cells as the released guide's own fill.sh prints them over the translation 98b2e11f0198dbd9… (all of the seat's roots in one cut). By AI agents, Wed Nov 11 2026. No macro, syntax, notation, axiom, sorry.
-/
import Derived.Test.YtdpfgjljehajbaaGreatDoorChecked
import GoSem.PinnedTables
import GoSem.Claim
import GoSem.ClaimJoined
import GoSem.ClaimMapViews
import Derived.JoinedTies
import Derived.KernelRfl
namespace Go.Proofs.YtdpfgjljehajbaaGreatDoor
/- THE CELL 'sum', in the pinned program and in every row, IS THE sha256 OF THE DUMP (.gsa) THAT YtdpfgjljehajbaaGreatDoorProg.lean LOADS. Nothing in Lean hashes anything: it is a label: what it is worth is what the hold of that sum in a sandbox is worth. -/
noncomputable def Tryz.pinned : Pinned := { name := "ytdpfgjljehajbaagreatdoor", sum := "98b2e11f0198dbd9bd284ede28c421b538bbbf55ca7c876f3edfa28baf9e1d4d", checked := Tryz.checked }
namespace Rows
def none {H : Type} : Left H := { results := [], args := [] }

/- WHAT THE LISTED PACKAGE-LEVEL VARIABLES READ AS WHEN THE CALL BEGINS. Each datum BY PROGRAM (the guide's laid-datum.mjs) off the statement by which the dump's own 'gosem.cut.vars' lays the variable. In a bare row this is a premise. The card (YtdpfgjljehajbaaGreatDoorCards.lean) ties it to the program's text. -/
def laid_math_bits_deBruijn32tab {H : Type} : DataW H := .agg [.lit (.int .u8 0), .lit (.int .u8 1), .lit (.int .u8 28), .lit (.int .u8 2), .lit (.int .u8 29), .lit (.int .u8 14), .lit (.int .u8 24), .lit (.int .u8 3), .lit (.int .u8 30), .lit (.int .u8 22), .lit (.int .u8 20), .lit (.int .u8 15), .lit (.int .u8 25), .lit (.int .u8 17), .lit (.int .u8 4), .lit (.int .u8 8), .lit (.int .u8 31), .lit (.int .u8 27), .lit (.int .u8 13), .lit (.int .u8 23), .lit (.int .u8 21), .lit (.int .u8 19), .lit (.int .u8 16), .lit (.int .u8 7), .lit (.int .u8 26), .lit (.int .u8 12), .lit (.int .u8 18), .lit (.int .u8 6), .lit (.int .u8 11), .lit (.int .u8 5), .lit (.int .u8 10), .lit (.int .u8 9)]
def laid_math_bits_deBruijn64tab {H : Type} : DataW H := .agg [.lit (.int .u8 0), .lit (.int .u8 1), .lit (.int .u8 56), .lit (.int .u8 2), .lit (.int .u8 57), .lit (.int .u8 49), .lit (.int .u8 28), .lit (.int .u8 3), .lit (.int .u8 61), .lit (.int .u8 58), .lit (.int .u8 42), .lit (.int .u8 50), .lit (.int .u8 38), .lit (.int .u8 29), .lit (.int .u8 17), .lit (.int .u8 4), .lit (.int .u8 62), .lit (.int .u8 47), .lit (.int .u8 59), .lit (.int .u8 36), .lit (.int .u8 45), .lit (.int .u8 43), .lit (.int .u8 51), .lit (.int .u8 22), .lit (.int .u8 53), .lit (.int .u8 39), .lit (.int .u8 33), .lit (.int .u8 30), .lit (.int .u8 24), .lit (.int .u8 18), .lit (.int .u8 12), .lit (.int .u8 5), .lit (.int .u8 63), .lit (.int .u8 55), .lit (.int .u8 48), .lit (.int .u8 27), .lit (.int .u8 60), .lit (.int .u8 41), .lit (.int .u8 37), .lit (.int .u8 16), .lit (.int .u8 46), .lit (.int .u8 35), .lit (.int .u8 44), .lit (.int .u8 21), .lit (.int .u8 52), .lit (.int .u8 32), .lit (.int .u8 23), .lit (.int .u8 11), .lit (.int .u8 54), .lit (.int .u8 26), .lit (.int .u8 40), .lit (.int .u8 15), .lit (.int .u8 34), .lit (.int .u8 20), .lit (.int .u8 31), .lit (.int .u8 10), .lit (.int .u8 25), .lit (.int .u8 14), .lit (.int .u8 19), .lit (.int .u8 9), .lit (.int .u8 13), .lit (.int .u8 8), .lit (.int .u8 7), .lit (.int .u8 6)]
def laid_internal_strconv_uint64pow10 {H : Type} : DataW H := .agg [.lit (.int .u64 1), .lit (.int .u64 10), .lit (.int .u64 100), .lit (.int .u64 1000), .lit (.int .u64 10000), .lit (.int .u64 100000), .lit (.int .u64 1000000), .lit (.int .u64 10000000), .lit (.int .u64 100000000), .lit (.int .u64 1000000000), .lit (.int .u64 10000000000), .lit (.int .u64 100000000000), .lit (.int .u64 1000000000000), .lit (.int .u64 10000000000000), .lit (.int .u64 100000000000000), .lit (.int .u64 1000000000000000), .lit (.int .u64 10000000000000000), .lit (.int .u64 100000000000000000), .lit (.int .u64 1000000000000000000), .lit (.int .u64 10000000000000000000)]
def laid_unicode_utf8_acceptRanges {H : Type} : DataW H := .agg [.agg [.lit (.int .u8 128), .lit (.int .u8 191)], .agg [.lit (.int .u8 160), .lit (.int .u8 191)], .agg [.lit (.int .u8 128), .lit (.int .u8 159)], .agg [.lit (.int .u8 144), .lit (.int .u8 191)], .agg [.lit (.int .u8 128), .lit (.int .u8 143)], .agg [.lit (.int .u8 0), .lit (.int .u8 0)], .agg [.lit (.int .u8 0), .lit (.int .u8 0)], .agg [.lit (.int .u8 0), .lit (.int .u8 0)], .agg [.lit (.int .u8 0), .lit (.int .u8 0)], .agg [.lit (.int .u8 0), .lit (.int .u8 0)], .agg [.lit (.int .u8 0), .lit (.int .u8 0)], .agg [.lit (.int .u8 0), .lit (.int .u8 0)], .agg [.lit (.int .u8 0), .lit (.int .u8 0)], .agg [.lit (.int .u8 0), .lit (.int .u8 0)], .agg [.lit (.int .u8 0), .lit (.int .u8 0)], .agg [.lit (.int .u8 0), .lit (.int .u8 0)]]
def laid_strconv_ErrRange {H : Type} : DataW H := .iface "*errors.errorString" (.ptr (.agg [.lit (.string [118, 97, 108, 117, 101, 32, 111, 117, 116, 32, 111, 102, 32, 114, 97, 110, 103, 101])]))
def laid_strconv_ErrSyntax {H : Type} : DataW H := .iface "*errors.errorString" (.ptr (.agg [.lit (.string [105, 110, 118, 97, 108, 105, 100, 32, 115, 121, 110, 116, 97, 120])]))
/-- One of Go's own tables, pinned by name: the form's constant. -/
def laid_unicode_utf8_first : DataW Unit := Go.Pinned.utf8First

/-- 'sennetlaw05.HonoursAt': WHATEVER THE INPUT: true; the input reads as it did. -/
def honoursAtSpec : ChangeSpec := { name := "honoursAt", fn := fun _ => fun
  | [d1, d2, d3] => { results := [.lit (.bool true)], args := [d1, d2, d3] }
  | _ => none }
def honoursAtRow : OpenClaim := { program := "ytdpfgjljehajbaagreatdoor", sum := "98b2e11f0198dbd9bd284ede28c421b538bbbf55ca7c876f3edfa28baf9e1d4d", func := "sennet/sennetlaw05.HonoursAt", spec := "honoursAt", inPlace := ["internal/bytealg.CountString", "internal/bytealg.IndexByteString", "internal/bytealg.IndexString", "internal/abi.NoEscape", "internal/bytealg.MakeNoZero", "slices.overlaps[sennet/api.Mast]"], unfollowed := true, recurses := true, named := ["unicode/utf8.first", "unicode/utf8.acceptRanges", "internal/bytealg.MaxLen", "strconv.ErrSyntax", "strconv.ErrRange", "internal/strconv.uint64pow10", "math/bits.deBruijn32tab", "math/bits.deBruijn64tab"], apart := false, laid := [("math/bits.deBruijn32tab", laid_math_bits_deBruijn32tab), ("math/bits.deBruijn64tab", laid_math_bits_deBruijn64tab), ("internal/strconv.uint64pow10", laid_internal_strconv_uint64pow10), ("unicode/utf8.acceptRanges", laid_unicode_utf8_acceptRanges), ("strconv.ErrRange", laid_strconv_ErrRange), ("strconv.ErrSyntax", laid_strconv_ErrSyntax), ("unicode/utf8.first", laid_unicode_utf8_first)] }
def HonoursAtSaid : Prop := honoursAtRow.holds Tryz.pinned (OpenSpec.ofChange honoursAtSpec)

/-- ITS FALSE NEIGHBOUR: 'it returns false'. Refute it at one input. -/
def honoursAtWrong : ChangeSpec := { name := "honoursAt", fn := fun _ => fun
  | [d1, d2, d3] => { results := [.lit (.bool false)], args := [d1, d2, d3] }
  | _ => none }
def HonoursAtWrongFalsely : Prop := honoursAtRow.holds Tryz.pinned (OpenSpec.ofChange honoursAtWrong)

/-- 'sennetlaw05.HonoursNext': WHATEVER THE INPUT: true; the input reads as it did. -/
def honoursNextSpec : ChangeSpec := { name := "honoursNext", fn := fun _ => fun
  | [d1, d2, d3, d4] => { results := [.lit (.bool true)], args := [d1, d2, d3, d4] }
  | _ => none }
def honoursNextRow : OpenClaim := { program := "ytdpfgjljehajbaagreatdoor", sum := "98b2e11f0198dbd9bd284ede28c421b538bbbf55ca7c876f3edfa28baf9e1d4d", func := "sennet/sennetlaw05.HonoursNext", spec := "honoursNext", inPlace := ["internal/bytealg.CountString", "internal/bytealg.IndexByteString", "internal/bytealg.IndexString", "internal/abi.NoEscape", "internal/bytealg.MakeNoZero", "slices.overlaps[sennet/api.Mast]"], unfollowed := true, recurses := true, named := ["unicode/utf8.first", "unicode/utf8.acceptRanges", "internal/bytealg.MaxLen", "strconv.ErrSyntax", "strconv.ErrRange", "internal/strconv.uint64pow10", "math/bits.deBruijn32tab", "math/bits.deBruijn64tab"], apart := false, laid := [("math/bits.deBruijn32tab", laid_math_bits_deBruijn32tab), ("math/bits.deBruijn64tab", laid_math_bits_deBruijn64tab), ("internal/strconv.uint64pow10", laid_internal_strconv_uint64pow10), ("unicode/utf8.acceptRanges", laid_unicode_utf8_acceptRanges), ("strconv.ErrRange", laid_strconv_ErrRange), ("strconv.ErrSyntax", laid_strconv_ErrSyntax), ("unicode/utf8.first", laid_unicode_utf8_first)] }
def HonoursNextSaid : Prop := honoursNextRow.holds Tryz.pinned (OpenSpec.ofChange honoursNextSpec)

/-- ITS FALSE NEIGHBOUR: 'it returns false'. Refute it at one input. -/
def honoursNextWrong : ChangeSpec := { name := "honoursNext", fn := fun _ => fun
  | [d1, d2, d3, d4] => { results := [.lit (.bool false)], args := [d1, d2, d3, d4] }
  | _ => none }
def HonoursNextWrongFalsely : Prop := honoursNextRow.holds Tryz.pinned (OpenSpec.ofChange honoursNextWrong)

/-- 'sennetlaw05.HonoursIdle': WHATEVER THE INPUT: true; the input reads as it did. -/
def honoursIdleSpec : ChangeSpec := { name := "honoursIdle", fn := fun _ => fun
  | [d1, d2, d3] => { results := [.lit (.bool true)], args := [d1, d2, d3] }
  | _ => none }
def honoursIdleRow : OpenClaim := { program := "ytdpfgjljehajbaagreatdoor", sum := "98b2e11f0198dbd9bd284ede28c421b538bbbf55ca7c876f3edfa28baf9e1d4d", func := "sennet/sennetlaw05.HonoursIdle", spec := "honoursIdle", inPlace := ["internal/bytealg.CountString", "internal/bytealg.IndexByteString", "internal/bytealg.IndexString", "internal/abi.NoEscape", "internal/bytealg.MakeNoZero", "slices.overlaps[sennet/api.Mast]"], unfollowed := true, recurses := true, named := ["unicode/utf8.first", "unicode/utf8.acceptRanges", "internal/bytealg.MaxLen", "strconv.ErrSyntax", "strconv.ErrRange", "internal/strconv.uint64pow10", "math/bits.deBruijn32tab", "math/bits.deBruijn64tab"], apart := false, laid := [("math/bits.deBruijn32tab", laid_math_bits_deBruijn32tab), ("math/bits.deBruijn64tab", laid_math_bits_deBruijn64tab), ("internal/strconv.uint64pow10", laid_internal_strconv_uint64pow10), ("unicode/utf8.acceptRanges", laid_unicode_utf8_acceptRanges), ("strconv.ErrRange", laid_strconv_ErrRange), ("strconv.ErrSyntax", laid_strconv_ErrSyntax), ("unicode/utf8.first", laid_unicode_utf8_first)] }
def HonoursIdleSaid : Prop := honoursIdleRow.holds Tryz.pinned (OpenSpec.ofChange honoursIdleSpec)

/-- ITS FALSE NEIGHBOUR: 'it returns false'. Refute it at one input. -/
def honoursIdleWrong : ChangeSpec := { name := "honoursIdle", fn := fun _ => fun
  | [d1, d2, d3] => { results := [.lit (.bool false)], args := [d1, d2, d3] }
  | _ => none }
def HonoursIdleWrongFalsely : Prop := honoursIdleRow.holds Tryz.pinned (OpenSpec.ofChange honoursIdleWrong)

/-- 'sennetlaw05.HonoursGuns': WHATEVER THE INPUT: true; the input reads as it did. -/
def honoursGunsSpec : ChangeSpec := { name := "honoursGuns", fn := fun _ => fun
  | [d1, d2, d3] => { results := [.lit (.bool true)], args := [d1, d2, d3] }
  | _ => none }
def honoursGunsRow : OpenClaim := { program := "ytdpfgjljehajbaagreatdoor", sum := "98b2e11f0198dbd9bd284ede28c421b538bbbf55ca7c876f3edfa28baf9e1d4d", func := "sennet/sennetlaw05.HonoursGuns", spec := "honoursGuns", inPlace := ["internal/bytealg.CountString", "internal/bytealg.IndexByteString", "internal/bytealg.IndexString", "internal/abi.NoEscape", "internal/bytealg.MakeNoZero", "slices.overlaps[sennet/api.Mast]"], unfollowed := true, recurses := true, named := ["unicode/utf8.first", "unicode/utf8.acceptRanges", "internal/bytealg.MaxLen", "strconv.ErrSyntax", "strconv.ErrRange", "internal/strconv.uint64pow10", "math/bits.deBruijn32tab", "math/bits.deBruijn64tab"], apart := false, laid := [("math/bits.deBruijn32tab", laid_math_bits_deBruijn32tab), ("math/bits.deBruijn64tab", laid_math_bits_deBruijn64tab), ("internal/strconv.uint64pow10", laid_internal_strconv_uint64pow10), ("unicode/utf8.acceptRanges", laid_unicode_utf8_acceptRanges), ("strconv.ErrRange", laid_strconv_ErrRange), ("strconv.ErrSyntax", laid_strconv_ErrSyntax), ("unicode/utf8.first", laid_unicode_utf8_first)] }
def HonoursGunsSaid : Prop := honoursGunsRow.holds Tryz.pinned (OpenSpec.ofChange honoursGunsSpec)

/-- ITS FALSE NEIGHBOUR: 'it returns false'. Refute it at one input. -/
def honoursGunsWrong : ChangeSpec := { name := "honoursGuns", fn := fun _ => fun
  | [d1, d2, d3] => { results := [.lit (.bool false)], args := [d1, d2, d3] }
  | _ => none }
def HonoursGunsWrongFalsely : Prop := honoursGunsRow.holds Tryz.pinned (OpenSpec.ofChange honoursGunsWrong)

/-- 'sennetlaw05.HonoursWrites': WHATEVER THE INPUT: true; the input reads as it did. -/
def honoursWritesSpec : ChangeSpec := { name := "honoursWrites", fn := fun _ => fun
  | [d1, d2] => { results := [.lit (.bool true)], args := [d1, d2] }
  | _ => none }
def honoursWritesRow : OpenClaim := { program := "ytdpfgjljehajbaagreatdoor", sum := "98b2e11f0198dbd9bd284ede28c421b538bbbf55ca7c876f3edfa28baf9e1d4d", func := "sennet/sennetlaw05.HonoursWrites", spec := "honoursWrites", inPlace := ["internal/abi.NoEscape", "internal/bytealg.MakeNoZero", "internal/bytealg.CountString", "internal/bytealg.IndexByteString", "internal/bytealg.IndexString", "slices.overlaps[sennet/api.Mast]"], unfollowed := true, recurses := true, named := ["internal/strconv.uint64pow10", "math/bits.deBruijn32tab", "math/bits.deBruijn64tab", "unicode/utf8.first", "unicode/utf8.acceptRanges", "internal/bytealg.MaxLen", "strconv.ErrSyntax", "strconv.ErrRange"], apart := false, laid := [("math/bits.deBruijn32tab", laid_math_bits_deBruijn32tab), ("math/bits.deBruijn64tab", laid_math_bits_deBruijn64tab), ("internal/strconv.uint64pow10", laid_internal_strconv_uint64pow10), ("unicode/utf8.acceptRanges", laid_unicode_utf8_acceptRanges), ("strconv.ErrRange", laid_strconv_ErrRange), ("strconv.ErrSyntax", laid_strconv_ErrSyntax), ("unicode/utf8.first", laid_unicode_utf8_first)] }
def HonoursWritesSaid : Prop := honoursWritesRow.holds Tryz.pinned (OpenSpec.ofChange honoursWritesSpec)

/-- ITS FALSE NEIGHBOUR: 'it returns false'. Refute it at one input. -/
def honoursWritesWrong : ChangeSpec := { name := "honoursWrites", fn := fun _ => fun
  | [d1, d2] => { results := [.lit (.bool false)], args := [d1, d2] }
  | _ => none }
def HonoursWritesWrongFalsely : Prop := honoursWritesRow.holds Tryz.pinned (OpenSpec.ofChange honoursWritesWrong)

/-- 'sennetlaw05.HonoursEnters': WHATEVER THE INPUT: true; the input reads as it did. -/
def honoursEntersSpec : ChangeSpec := { name := "honoursEnters", fn := fun _ => fun
  | [d1, d2] => { results := [.lit (.bool true)], args := [d1, d2] }
  | _ => none }
def honoursEntersRow : OpenClaim := { program := "ytdpfgjljehajbaagreatdoor", sum := "98b2e11f0198dbd9bd284ede28c421b538bbbf55ca7c876f3edfa28baf9e1d4d", func := "sennet/sennetlaw05.HonoursEnters", spec := "honoursEnters", inPlace := ["internal/bytealg.CountString", "internal/bytealg.IndexByteString", "internal/bytealg.IndexString", "internal/abi.NoEscape", "internal/bytealg.MakeNoZero", "slices.overlaps[sennet/api.Mast]"], unfollowed := true, recurses := true, named := ["unicode/utf8.first", "unicode/utf8.acceptRanges", "internal/bytealg.MaxLen", "strconv.ErrSyntax", "strconv.ErrRange", "internal/strconv.uint64pow10", "math/bits.deBruijn32tab", "math/bits.deBruijn64tab"], apart := false, laid := [("math/bits.deBruijn32tab", laid_math_bits_deBruijn32tab), ("math/bits.deBruijn64tab", laid_math_bits_deBruijn64tab), ("internal/strconv.uint64pow10", laid_internal_strconv_uint64pow10), ("unicode/utf8.acceptRanges", laid_unicode_utf8_acceptRanges), ("strconv.ErrRange", laid_strconv_ErrRange), ("strconv.ErrSyntax", laid_strconv_ErrSyntax), ("unicode/utf8.first", laid_unicode_utf8_first)] }
def HonoursEntersSaid : Prop := honoursEntersRow.holds Tryz.pinned (OpenSpec.ofChange honoursEntersSpec)

/-- ITS FALSE NEIGHBOUR: 'it returns false'. Refute it at one input. -/
def honoursEntersWrong : ChangeSpec := { name := "honoursEnters", fn := fun _ => fun
  | [d1, d2] => { results := [.lit (.bool false)], args := [d1, d2] }
  | _ => none }
def HonoursEntersWrongFalsely : Prop := honoursEntersRow.holds Tryz.pinned (OpenSpec.ofChange honoursEntersWrong)

/-- 'sennetlaw05.HonoursZones': WHATEVER THE INPUT: true; the input reads as it did. -/
def honoursZonesSpec : ChangeSpec := { name := "honoursZones", fn := fun _ => fun
  | [d1, d2, d3] => { results := [.lit (.bool true)], args := [d1, d2, d3] }
  | _ => none }
def honoursZonesRow : OpenClaim := { program := "ytdpfgjljehajbaagreatdoor", sum := "98b2e11f0198dbd9bd284ede28c421b538bbbf55ca7c876f3edfa28baf9e1d4d", func := "sennet/sennetlaw05.HonoursZones", spec := "honoursZones", inPlace := ["internal/bytealg.CountString", "internal/bytealg.IndexByteString", "internal/bytealg.IndexString", "internal/abi.NoEscape", "internal/bytealg.MakeNoZero", "slices.overlaps[sennet/api.Mast]"], unfollowed := true, recurses := true, named := ["unicode/utf8.first", "unicode/utf8.acceptRanges", "internal/bytealg.MaxLen", "strconv.ErrSyntax", "strconv.ErrRange", "internal/strconv.uint64pow10", "math/bits.deBruijn32tab", "math/bits.deBruijn64tab"], apart := false, laid := [("math/bits.deBruijn32tab", laid_math_bits_deBruijn32tab), ("math/bits.deBruijn64tab", laid_math_bits_deBruijn64tab), ("internal/strconv.uint64pow10", laid_internal_strconv_uint64pow10), ("unicode/utf8.acceptRanges", laid_unicode_utf8_acceptRanges), ("strconv.ErrRange", laid_strconv_ErrRange), ("strconv.ErrSyntax", laid_strconv_ErrSyntax), ("unicode/utf8.first", laid_unicode_utf8_first)] }
def HonoursZonesSaid : Prop := honoursZonesRow.holds Tryz.pinned (OpenSpec.ofChange honoursZonesSpec)

/-- ITS FALSE NEIGHBOUR: 'it returns false'. Refute it at one input. -/
def honoursZonesWrong : ChangeSpec := { name := "honoursZones", fn := fun _ => fun
  | [d1, d2, d3] => { results := [.lit (.bool false)], args := [d1, d2, d3] }
  | _ => none }
def HonoursZonesWrongFalsely : Prop := honoursZonesRow.holds Tryz.pinned (OpenSpec.ofChange honoursZonesWrong)

/-- 'sennetlaw05.HonoursChecks': WHATEVER THE INPUT: true; the input reads as it did. -/
def honoursChecksSpec : ChangeSpec := { name := "honoursChecks", fn := fun _ => fun
  | [d1, d2, d3, d4] => { results := [.lit (.bool true)], args := [d1, d2, d3, d4] }
  | _ => none }
def honoursChecksRow : OpenClaim := { program := "ytdpfgjljehajbaagreatdoor", sum := "98b2e11f0198dbd9bd284ede28c421b538bbbf55ca7c876f3edfa28baf9e1d4d", func := "sennet/sennetlaw05.HonoursChecks", spec := "honoursChecks", inPlace := ["internal/bytealg.CountString", "internal/bytealg.IndexByteString", "internal/bytealg.IndexString", "internal/abi.NoEscape", "internal/bytealg.MakeNoZero", "slices.overlaps[sennet/api.Mast]"], unfollowed := true, recurses := true, named := ["unicode/utf8.first", "unicode/utf8.acceptRanges", "internal/bytealg.MaxLen", "strconv.ErrSyntax", "strconv.ErrRange", "internal/strconv.uint64pow10", "math/bits.deBruijn32tab", "math/bits.deBruijn64tab"], apart := false, laid := [("math/bits.deBruijn32tab", laid_math_bits_deBruijn32tab), ("math/bits.deBruijn64tab", laid_math_bits_deBruijn64tab), ("internal/strconv.uint64pow10", laid_internal_strconv_uint64pow10), ("unicode/utf8.acceptRanges", laid_unicode_utf8_acceptRanges), ("strconv.ErrRange", laid_strconv_ErrRange), ("strconv.ErrSyntax", laid_strconv_ErrSyntax), ("unicode/utf8.first", laid_unicode_utf8_first)] }
def HonoursChecksSaid : Prop := honoursChecksRow.holds Tryz.pinned (OpenSpec.ofChange honoursChecksSpec)

/-- ITS FALSE NEIGHBOUR: 'it returns false'. Refute it at one input. -/
def honoursChecksWrong : ChangeSpec := { name := "honoursChecks", fn := fun _ => fun
  | [d1, d2, d3, d4] => { results := [.lit (.bool false)], args := [d1, d2, d3, d4] }
  | _ => none }
def HonoursChecksWrongFalsely : Prop := honoursChecksRow.holds Tryz.pinned (OpenSpec.ofChange honoursChecksWrong)

/-- 'sennetlaw05.HonoursRanks': WHATEVER THE INPUT: true; the input reads as it did. -/
def honoursRanksSpec : ChangeSpec := { name := "honoursRanks", fn := fun _ => fun
  | [d1, d2, d3, d4] => { results := [.lit (.bool true)], args := [d1, d2, d3, d4] }
  | _ => none }
def honoursRanksRow : OpenClaim := { program := "ytdpfgjljehajbaagreatdoor", sum := "98b2e11f0198dbd9bd284ede28c421b538bbbf55ca7c876f3edfa28baf9e1d4d", func := "sennet/sennetlaw05.HonoursRanks", spec := "honoursRanks", inPlace := ["internal/abi.NoEscape", "internal/bytealg.MakeNoZero", "internal/bytealg.CountString", "internal/bytealg.IndexByteString", "internal/bytealg.IndexString", "slices.overlaps[sennet/api.Mast]"], unfollowed := true, recurses := true, named := ["internal/strconv.uint64pow10", "math/bits.deBruijn32tab", "math/bits.deBruijn64tab", "unicode/utf8.first", "unicode/utf8.acceptRanges", "internal/bytealg.MaxLen", "strconv.ErrSyntax", "strconv.ErrRange"], apart := false, laid := [("math/bits.deBruijn32tab", laid_math_bits_deBruijn32tab), ("math/bits.deBruijn64tab", laid_math_bits_deBruijn64tab), ("internal/strconv.uint64pow10", laid_internal_strconv_uint64pow10), ("unicode/utf8.acceptRanges", laid_unicode_utf8_acceptRanges), ("strconv.ErrRange", laid_strconv_ErrRange), ("strconv.ErrSyntax", laid_strconv_ErrSyntax), ("unicode/utf8.first", laid_unicode_utf8_first)] }
def HonoursRanksSaid : Prop := honoursRanksRow.holds Tryz.pinned (OpenSpec.ofChange honoursRanksSpec)

/-- ITS FALSE NEIGHBOUR: 'it returns false'. Refute it at one input. -/
def honoursRanksWrong : ChangeSpec := { name := "honoursRanks", fn := fun _ => fun
  | [d1, d2, d3, d4] => { results := [.lit (.bool false)], args := [d1, d2, d3, d4] }
  | _ => none }
def HonoursRanksWrongFalsely : Prop := honoursRanksRow.holds Tryz.pinned (OpenSpec.ofChange honoursRanksWrong)

/-- 'sennetlaw05.HonoursTimes': WHATEVER THE INPUT: true; the input reads as it did. -/
def honoursTimesSpec : ChangeSpec := { name := "honoursTimes", fn := fun _ => fun
  | [d1, d2, d3, d4] => { results := [.lit (.bool true)], args := [d1, d2, d3, d4] }
  | _ => none }
def honoursTimesRow : OpenClaim := { program := "ytdpfgjljehajbaagreatdoor", sum := "98b2e11f0198dbd9bd284ede28c421b538bbbf55ca7c876f3edfa28baf9e1d4d", func := "sennet/sennetlaw05.HonoursTimes", spec := "honoursTimes", inPlace := ["internal/bytealg.CountString", "internal/bytealg.IndexByteString", "internal/bytealg.IndexString", "internal/abi.NoEscape", "internal/bytealg.MakeNoZero", "slices.overlaps[sennet/api.Mast]"], unfollowed := true, recurses := true, named := ["unicode/utf8.first", "unicode/utf8.acceptRanges", "internal/bytealg.MaxLen", "strconv.ErrSyntax", "strconv.ErrRange", "internal/strconv.uint64pow10", "math/bits.deBruijn32tab", "math/bits.deBruijn64tab"], apart := false, laid := [("math/bits.deBruijn32tab", laid_math_bits_deBruijn32tab), ("math/bits.deBruijn64tab", laid_math_bits_deBruijn64tab), ("internal/strconv.uint64pow10", laid_internal_strconv_uint64pow10), ("unicode/utf8.acceptRanges", laid_unicode_utf8_acceptRanges), ("strconv.ErrRange", laid_strconv_ErrRange), ("strconv.ErrSyntax", laid_strconv_ErrSyntax), ("unicode/utf8.first", laid_unicode_utf8_first)] }
def HonoursTimesSaid : Prop := honoursTimesRow.holds Tryz.pinned (OpenSpec.ofChange honoursTimesSpec)

/-- ITS FALSE NEIGHBOUR: 'it returns false'. Refute it at one input. -/
def honoursTimesWrong : ChangeSpec := { name := "honoursTimes", fn := fun _ => fun
  | [d1, d2, d3, d4] => { results := [.lit (.bool false)], args := [d1, d2, d3, d4] }
  | _ => none }
def HonoursTimesWrongFalsely : Prop := honoursTimesRow.holds Tryz.pinned (OpenSpec.ofChange honoursTimesWrong)

/-- 'sennetlaw05.HonoursLines': WHATEVER THE INPUT: true; the input reads as it did. -/
def honoursLinesSpec : ChangeSpec := { name := "honoursLines", fn := fun _ => fun
  | [d1, d2, d3, d4, d5] => { results := [.lit (.bool true)], args := [d1, d2, d3, d4, d5] }
  | _ => none }
def honoursLinesRow : OpenClaim := { program := "ytdpfgjljehajbaagreatdoor", sum := "98b2e11f0198dbd9bd284ede28c421b538bbbf55ca7c876f3edfa28baf9e1d4d", func := "sennet/sennetlaw05.HonoursLines", spec := "honoursLines", inPlace := ["internal/bytealg.CountString", "internal/bytealg.IndexByteString", "internal/bytealg.IndexString", "internal/abi.NoEscape", "internal/bytealg.MakeNoZero", "slices.overlaps[sennet/api.Mast]"], unfollowed := true, recurses := true, named := ["unicode/utf8.first", "unicode/utf8.acceptRanges", "internal/bytealg.MaxLen", "strconv.ErrSyntax", "strconv.ErrRange", "internal/strconv.uint64pow10", "math/bits.deBruijn32tab", "math/bits.deBruijn64tab"], apart := false, laid := [("math/bits.deBruijn32tab", laid_math_bits_deBruijn32tab), ("math/bits.deBruijn64tab", laid_math_bits_deBruijn64tab), ("internal/strconv.uint64pow10", laid_internal_strconv_uint64pow10), ("unicode/utf8.acceptRanges", laid_unicode_utf8_acceptRanges), ("strconv.ErrRange", laid_strconv_ErrRange), ("strconv.ErrSyntax", laid_strconv_ErrSyntax), ("unicode/utf8.first", laid_unicode_utf8_first)] }
def HonoursLinesSaid : Prop := honoursLinesRow.holds Tryz.pinned (OpenSpec.ofChange honoursLinesSpec)

/-- ITS FALSE NEIGHBOUR: 'it returns false'. Refute it at one input. -/
def honoursLinesWrong : ChangeSpec := { name := "honoursLines", fn := fun _ => fun
  | [d1, d2, d3, d4, d5] => { results := [.lit (.bool false)], args := [d1, d2, d3, d4, d5] }
  | _ => none }
def HonoursLinesWrongFalsely : Prop := honoursLinesRow.holds Tryz.pinned (OpenSpec.ofChange honoursLinesWrong)

/-- 'sennetlaw05.HonoursMinutes': WHATEVER THE INPUT: true; the input reads as it did. -/
def honoursMinutesSpec : ChangeSpec := { name := "honoursMinutes", fn := fun _ => fun
  | [d1, d2, d3, d4, d5] => { results := [.lit (.bool true)], args := [d1, d2, d3, d4, d5] }
  | _ => none }
def honoursMinutesRow : OpenClaim := { program := "ytdpfgjljehajbaagreatdoor", sum := "98b2e11f0198dbd9bd284ede28c421b538bbbf55ca7c876f3edfa28baf9e1d4d", func := "sennet/sennetlaw05.HonoursMinutes", spec := "honoursMinutes", inPlace := ["internal/bytealg.CountString", "internal/bytealg.IndexByteString", "internal/bytealg.IndexString", "internal/abi.NoEscape", "internal/bytealg.MakeNoZero", "slices.overlaps[sennet/api.Mast]"], unfollowed := true, recurses := true, named := ["unicode/utf8.first", "unicode/utf8.acceptRanges", "internal/bytealg.MaxLen", "strconv.ErrSyntax", "strconv.ErrRange", "internal/strconv.uint64pow10", "math/bits.deBruijn32tab", "math/bits.deBruijn64tab"], apart := false, laid := [("math/bits.deBruijn32tab", laid_math_bits_deBruijn32tab), ("math/bits.deBruijn64tab", laid_math_bits_deBruijn64tab), ("internal/strconv.uint64pow10", laid_internal_strconv_uint64pow10), ("unicode/utf8.acceptRanges", laid_unicode_utf8_acceptRanges), ("strconv.ErrRange", laid_strconv_ErrRange), ("strconv.ErrSyntax", laid_strconv_ErrSyntax), ("unicode/utf8.first", laid_unicode_utf8_first)] }
def HonoursMinutesSaid : Prop := honoursMinutesRow.holds Tryz.pinned (OpenSpec.ofChange honoursMinutesSpec)

/-- ITS FALSE NEIGHBOUR: 'it returns false'. Refute it at one input. -/
def honoursMinutesWrong : ChangeSpec := { name := "honoursMinutes", fn := fun _ => fun
  | [d1, d2, d3, d4, d5] => { results := [.lit (.bool false)], args := [d1, d2, d3, d4, d5] }
  | _ => none }
def HonoursMinutesWrongFalsely : Prop := honoursMinutesRow.holds Tryz.pinned (OpenSpec.ofChange honoursMinutesWrong)

/-- 'sennetlaw05.HonoursBattery': WHATEVER THE INPUT: true; the input reads as it did. -/
def honoursBatterySpec : ChangeSpec := { name := "honoursBattery", fn := fun _ => fun
  | [d1, d2, d3, d4] => { results := [.lit (.bool true)], args := [d1, d2, d3, d4] }
  | _ => none }
def honoursBatteryRow : OpenClaim := { program := "ytdpfgjljehajbaagreatdoor", sum := "98b2e11f0198dbd9bd284ede28c421b538bbbf55ca7c876f3edfa28baf9e1d4d", func := "sennet/sennetlaw05.HonoursBattery", spec := "honoursBattery", inPlace := ["internal/bytealg.CountString", "internal/bytealg.IndexByteString", "internal/bytealg.IndexString", "internal/abi.NoEscape", "internal/bytealg.MakeNoZero", "slices.overlaps[sennet/api.Mast]"], unfollowed := true, recurses := true, named := ["unicode/utf8.first", "unicode/utf8.acceptRanges", "internal/bytealg.MaxLen", "strconv.ErrSyntax", "strconv.ErrRange", "internal/strconv.uint64pow10", "math/bits.deBruijn32tab", "math/bits.deBruijn64tab"], apart := false, laid := [("math/bits.deBruijn32tab", laid_math_bits_deBruijn32tab), ("math/bits.deBruijn64tab", laid_math_bits_deBruijn64tab), ("internal/strconv.uint64pow10", laid_internal_strconv_uint64pow10), ("unicode/utf8.acceptRanges", laid_unicode_utf8_acceptRanges), ("strconv.ErrRange", laid_strconv_ErrRange), ("strconv.ErrSyntax", laid_strconv_ErrSyntax), ("unicode/utf8.first", laid_unicode_utf8_first)] }
def HonoursBatterySaid : Prop := honoursBatteryRow.holds Tryz.pinned (OpenSpec.ofChange honoursBatterySpec)

/-- ITS FALSE NEIGHBOUR: 'it returns false'. Refute it at one input. -/
def honoursBatteryWrong : ChangeSpec := { name := "honoursBattery", fn := fun _ => fun
  | [d1, d2, d3, d4] => { results := [.lit (.bool false)], args := [d1, d2, d3, d4] }
  | _ => none }
def HonoursBatteryWrongFalsely : Prop := honoursBatteryRow.holds Tryz.pinned (OpenSpec.ofChange honoursBatteryWrong)

/-- 'sennetlaw05.HonoursFirst': WHATEVER THE INPUT: true; the input reads as it did. -/
def honoursFirstSpec : ChangeSpec := { name := "honoursFirst", fn := fun _ => fun
  | [d1, d2, d3, d4] => { results := [.lit (.bool true)], args := [d1, d2, d3, d4] }
  | _ => none }
def honoursFirstRow : OpenClaim := { program := "ytdpfgjljehajbaagreatdoor", sum := "98b2e11f0198dbd9bd284ede28c421b538bbbf55ca7c876f3edfa28baf9e1d4d", func := "sennet/sennetlaw05.HonoursFirst", spec := "honoursFirst", inPlace := ["internal/bytealg.CountString", "internal/bytealg.IndexByteString", "internal/bytealg.IndexString", "internal/abi.NoEscape", "internal/bytealg.MakeNoZero", "slices.overlaps[sennet/api.Mast]"], unfollowed := true, recurses := true, named := ["unicode/utf8.first", "unicode/utf8.acceptRanges", "internal/bytealg.MaxLen", "strconv.ErrSyntax", "strconv.ErrRange", "internal/strconv.uint64pow10", "math/bits.deBruijn32tab", "math/bits.deBruijn64tab"], apart := false, laid := [("math/bits.deBruijn32tab", laid_math_bits_deBruijn32tab), ("math/bits.deBruijn64tab", laid_math_bits_deBruijn64tab), ("internal/strconv.uint64pow10", laid_internal_strconv_uint64pow10), ("unicode/utf8.acceptRanges", laid_unicode_utf8_acceptRanges), ("strconv.ErrRange", laid_strconv_ErrRange), ("strconv.ErrSyntax", laid_strconv_ErrSyntax), ("unicode/utf8.first", laid_unicode_utf8_first)] }
def HonoursFirstSaid : Prop := honoursFirstRow.holds Tryz.pinned (OpenSpec.ofChange honoursFirstSpec)

/-- ITS FALSE NEIGHBOUR: 'it returns false'. Refute it at one input. -/
def honoursFirstWrong : ChangeSpec := { name := "honoursFirst", fn := fun _ => fun
  | [d1, d2, d3, d4] => { results := [.lit (.bool false)], args := [d1, d2, d3, d4] }
  | _ => none }
def HonoursFirstWrongFalsely : Prop := honoursFirstRow.holds Tryz.pinned (OpenSpec.ofChange honoursFirstWrong)

/-- 'sennetlaw05.HonoursTunes': WHATEVER THE INPUT: true; the input reads as it did. -/
def honoursTunesSpec : ChangeSpec := { name := "honoursTunes", fn := fun _ => fun
  | [d1, d2, d3] => { results := [.lit (.bool true)], args := [d1, d2, d3] }
  | _ => none }
def honoursTunesRow : OpenClaim := { program := "ytdpfgjljehajbaagreatdoor", sum := "98b2e11f0198dbd9bd284ede28c421b538bbbf55ca7c876f3edfa28baf9e1d4d", func := "sennet/sennetlaw05.HonoursTunes", spec := "honoursTunes", inPlace := ["internal/bytealg.CountString", "internal/bytealg.IndexByteString", "internal/bytealg.IndexString", "internal/abi.NoEscape", "internal/bytealg.MakeNoZero", "slices.overlaps[sennet/api.Mast]"], unfollowed := true, recurses := true, named := ["unicode/utf8.first", "unicode/utf8.acceptRanges", "internal/bytealg.MaxLen", "strconv.ErrSyntax", "strconv.ErrRange", "internal/strconv.uint64pow10", "math/bits.deBruijn32tab", "math/bits.deBruijn64tab"], apart := false, laid := [("math/bits.deBruijn32tab", laid_math_bits_deBruijn32tab), ("math/bits.deBruijn64tab", laid_math_bits_deBruijn64tab), ("internal/strconv.uint64pow10", laid_internal_strconv_uint64pow10), ("unicode/utf8.acceptRanges", laid_unicode_utf8_acceptRanges), ("strconv.ErrRange", laid_strconv_ErrRange), ("strconv.ErrSyntax", laid_strconv_ErrSyntax), ("unicode/utf8.first", laid_unicode_utf8_first)] }
def HonoursTunesSaid : Prop := honoursTunesRow.holds Tryz.pinned (OpenSpec.ofChange honoursTunesSpec)

/-- ITS FALSE NEIGHBOUR: 'it returns false'. Refute it at one input. -/
def honoursTunesWrong : ChangeSpec := { name := "honoursTunes", fn := fun _ => fun
  | [d1, d2, d3] => { results := [.lit (.bool false)], args := [d1, d2, d3] }
  | _ => none }
def HonoursTunesWrongFalsely : Prop := honoursTunesRow.holds Tryz.pinned (OpenSpec.ofChange honoursTunesWrong)

/-- 'sennetlaw05.HonoursTurns': WHATEVER THE INPUT: true; the input reads as it did. -/
def honoursTurnsSpec : ChangeSpec := { name := "honoursTurns", fn := fun _ => fun
  | [d1, d2, d3, d4, d5] => { results := [.lit (.bool true)], args := [d1, d2, d3, d4, d5] }
  | _ => none }
def honoursTurnsRow : OpenClaim := { program := "ytdpfgjljehajbaagreatdoor", sum := "98b2e11f0198dbd9bd284ede28c421b538bbbf55ca7c876f3edfa28baf9e1d4d", func := "sennet/sennetlaw05.HonoursTurns", spec := "honoursTurns", inPlace := ["internal/bytealg.CountString", "internal/bytealg.IndexByteString", "internal/bytealg.IndexString", "internal/abi.NoEscape", "internal/bytealg.MakeNoZero", "slices.overlaps[sennet/api.Mast]"], unfollowed := true, recurses := true, named := ["unicode/utf8.first", "unicode/utf8.acceptRanges", "internal/bytealg.MaxLen", "strconv.ErrSyntax", "strconv.ErrRange", "internal/strconv.uint64pow10", "math/bits.deBruijn32tab", "math/bits.deBruijn64tab"], apart := false, laid := [("math/bits.deBruijn32tab", laid_math_bits_deBruijn32tab), ("math/bits.deBruijn64tab", laid_math_bits_deBruijn64tab), ("internal/strconv.uint64pow10", laid_internal_strconv_uint64pow10), ("unicode/utf8.acceptRanges", laid_unicode_utf8_acceptRanges), ("strconv.ErrRange", laid_strconv_ErrRange), ("strconv.ErrSyntax", laid_strconv_ErrSyntax), ("unicode/utf8.first", laid_unicode_utf8_first)] }
def HonoursTurnsSaid : Prop := honoursTurnsRow.holds Tryz.pinned (OpenSpec.ofChange honoursTurnsSpec)

/-- ITS FALSE NEIGHBOUR: 'it returns false'. Refute it at one input. -/
def honoursTurnsWrong : ChangeSpec := { name := "honoursTurns", fn := fun _ => fun
  | [d1, d2, d3, d4, d5] => { results := [.lit (.bool false)], args := [d1, d2, d3, d4, d5] }
  | _ => none }
def HonoursTurnsWrongFalsely : Prop := honoursTurnsRow.holds Tryz.pinned (OpenSpec.ofChange honoursTurnsWrong)

/-- 'sennetlaw05.HonoursTimesSpent': WHATEVER THE INPUT: true; the input reads as it did. -/
def honoursTimesSpentSpec : ChangeSpec := { name := "honoursTimesSpent", fn := fun _ => fun
  | [d1, d2, d3] => { results := [.lit (.bool true)], args := [d1, d2, d3] }
  | _ => none }
def honoursTimesSpentRow : OpenClaim := { program := "ytdpfgjljehajbaagreatdoor", sum := "98b2e11f0198dbd9bd284ede28c421b538bbbf55ca7c876f3edfa28baf9e1d4d", func := "sennet/sennetlaw05.HonoursTimesSpent", spec := "honoursTimesSpent", inPlace := ["internal/bytealg.CountString", "internal/bytealg.IndexByteString", "internal/bytealg.IndexString", "internal/abi.NoEscape", "internal/bytealg.MakeNoZero", "slices.overlaps[sennet/api.Mast]"], unfollowed := true, recurses := true, named := ["unicode/utf8.first", "unicode/utf8.acceptRanges", "internal/bytealg.MaxLen", "strconv.ErrSyntax", "strconv.ErrRange", "internal/strconv.uint64pow10", "math/bits.deBruijn32tab", "math/bits.deBruijn64tab"], apart := false, laid := [("math/bits.deBruijn32tab", laid_math_bits_deBruijn32tab), ("math/bits.deBruijn64tab", laid_math_bits_deBruijn64tab), ("internal/strconv.uint64pow10", laid_internal_strconv_uint64pow10), ("unicode/utf8.acceptRanges", laid_unicode_utf8_acceptRanges), ("strconv.ErrRange", laid_strconv_ErrRange), ("strconv.ErrSyntax", laid_strconv_ErrSyntax), ("unicode/utf8.first", laid_unicode_utf8_first)] }
def HonoursTimesSpentSaid : Prop := honoursTimesSpentRow.holds Tryz.pinned (OpenSpec.ofChange honoursTimesSpentSpec)

/-- ITS FALSE NEIGHBOUR: 'it returns false'. Refute it at one input. -/
def honoursTimesSpentWrong : ChangeSpec := { name := "honoursTimesSpent", fn := fun _ => fun
  | [d1, d2, d3] => { results := [.lit (.bool false)], args := [d1, d2, d3] }
  | _ => none }
def HonoursTimesSpentWrongFalsely : Prop := honoursTimesSpentRow.holds Tryz.pinned (OpenSpec.ofChange honoursTimesSpentWrong)

/-- 'sennetlaw05.HonoursGaps': WHATEVER THE INPUT: true; the input reads as it did. -/
def honoursGapsSpec : ChangeSpec := { name := "honoursGaps", fn := fun _ => fun
  | [d1, d2, d3, d4] => { results := [.lit (.bool true)], args := [d1, d2, d3, d4] }
  | _ => none }
def honoursGapsRow : OpenClaim := { program := "ytdpfgjljehajbaagreatdoor", sum := "98b2e11f0198dbd9bd284ede28c421b538bbbf55ca7c876f3edfa28baf9e1d4d", func := "sennet/sennetlaw05.HonoursGaps", spec := "honoursGaps", inPlace := ["internal/bytealg.CountString", "internal/bytealg.IndexByteString", "internal/bytealg.IndexString", "internal/abi.NoEscape", "internal/bytealg.MakeNoZero", "slices.overlaps[sennet/api.Mast]"], unfollowed := true, recurses := true, named := ["unicode/utf8.first", "unicode/utf8.acceptRanges", "internal/bytealg.MaxLen", "strconv.ErrSyntax", "strconv.ErrRange", "internal/strconv.uint64pow10", "math/bits.deBruijn32tab", "math/bits.deBruijn64tab"], apart := false, laid := [("math/bits.deBruijn32tab", laid_math_bits_deBruijn32tab), ("math/bits.deBruijn64tab", laid_math_bits_deBruijn64tab), ("internal/strconv.uint64pow10", laid_internal_strconv_uint64pow10), ("unicode/utf8.acceptRanges", laid_unicode_utf8_acceptRanges), ("strconv.ErrRange", laid_strconv_ErrRange), ("strconv.ErrSyntax", laid_strconv_ErrSyntax), ("unicode/utf8.first", laid_unicode_utf8_first)] }
def HonoursGapsSaid : Prop := honoursGapsRow.holds Tryz.pinned (OpenSpec.ofChange honoursGapsSpec)

/-- ITS FALSE NEIGHBOUR: 'it returns false'. Refute it at one input. -/
def honoursGapsWrong : ChangeSpec := { name := "honoursGaps", fn := fun _ => fun
  | [d1, d2, d3, d4] => { results := [.lit (.bool false)], args := [d1, d2, d3, d4] }
  | _ => none }
def HonoursGapsWrongFalsely : Prop := honoursGapsRow.holds Tryz.pinned (OpenSpec.ofChange honoursGapsWrong)

/-- 'sennetlaw05.HonoursMemory': WHATEVER THE INPUT: true; the input reads as it did. -/
def honoursMemorySpec : ChangeSpec := { name := "honoursMemory", fn := fun _ => fun
  | [d1, d2, d3, d4, d5] => { results := [.lit (.bool true)], args := [d1, d2, d3, d4, d5] }
  | _ => none }
def honoursMemoryRow : OpenClaim := { program := "ytdpfgjljehajbaagreatdoor", sum := "98b2e11f0198dbd9bd284ede28c421b538bbbf55ca7c876f3edfa28baf9e1d4d", func := "sennet/sennetlaw05.HonoursMemory", spec := "honoursMemory", inPlace := ["internal/bytealg.CountString", "internal/bytealg.IndexByteString", "internal/bytealg.IndexString", "internal/abi.NoEscape", "internal/bytealg.MakeNoZero", "slices.overlaps[sennet/api.Mast]"], unfollowed := true, recurses := true, named := ["unicode/utf8.first", "unicode/utf8.acceptRanges", "internal/bytealg.MaxLen", "strconv.ErrSyntax", "strconv.ErrRange", "internal/strconv.uint64pow10", "math/bits.deBruijn32tab", "math/bits.deBruijn64tab"], apart := false, laid := [("math/bits.deBruijn32tab", laid_math_bits_deBruijn32tab), ("math/bits.deBruijn64tab", laid_math_bits_deBruijn64tab), ("internal/strconv.uint64pow10", laid_internal_strconv_uint64pow10), ("unicode/utf8.acceptRanges", laid_unicode_utf8_acceptRanges), ("strconv.ErrRange", laid_strconv_ErrRange), ("strconv.ErrSyntax", laid_strconv_ErrSyntax), ("unicode/utf8.first", laid_unicode_utf8_first)] }
def HonoursMemorySaid : Prop := honoursMemoryRow.holds Tryz.pinned (OpenSpec.ofChange honoursMemorySpec)

/-- ITS FALSE NEIGHBOUR: 'it returns false'. Refute it at one input. -/
def honoursMemoryWrong : ChangeSpec := { name := "honoursMemory", fn := fun _ => fun
  | [d1, d2, d3, d4, d5] => { results := [.lit (.bool false)], args := [d1, d2, d3, d4, d5] }
  | _ => none }
def HonoursMemoryWrongFalsely : Prop := honoursMemoryRow.holds Tryz.pinned (OpenSpec.ofChange honoursMemoryWrong)

/-- 'sennetlaw05.HonoursDiffer': WHATEVER THE INPUT: true; the input reads as it did. -/
def honoursDifferSpec : ChangeSpec := { name := "honoursDiffer", fn := fun _ => fun
  | [d1, d2, d3, d4] => { results := [.lit (.bool true)], args := [d1, d2, d3, d4] }
  | _ => none }
def honoursDifferRow : OpenClaim := { program := "ytdpfgjljehajbaagreatdoor", sum := "98b2e11f0198dbd9bd284ede28c421b538bbbf55ca7c876f3edfa28baf9e1d4d", func := "sennet/sennetlaw05.HonoursDiffer", spec := "honoursDiffer", inPlace := ["internal/bytealg.CountString", "internal/bytealg.IndexByteString", "internal/bytealg.IndexString", "internal/abi.NoEscape", "internal/bytealg.MakeNoZero", "slices.overlaps[sennet/api.Mast]"], unfollowed := true, recurses := true, named := ["unicode/utf8.first", "unicode/utf8.acceptRanges", "internal/bytealg.MaxLen", "strconv.ErrSyntax", "strconv.ErrRange", "internal/strconv.uint64pow10", "math/bits.deBruijn32tab", "math/bits.deBruijn64tab"], apart := false, laid := [("math/bits.deBruijn32tab", laid_math_bits_deBruijn32tab), ("math/bits.deBruijn64tab", laid_math_bits_deBruijn64tab), ("internal/strconv.uint64pow10", laid_internal_strconv_uint64pow10), ("unicode/utf8.acceptRanges", laid_unicode_utf8_acceptRanges), ("strconv.ErrRange", laid_strconv_ErrRange), ("strconv.ErrSyntax", laid_strconv_ErrSyntax), ("unicode/utf8.first", laid_unicode_utf8_first)] }
def HonoursDifferSaid : Prop := honoursDifferRow.holds Tryz.pinned (OpenSpec.ofChange honoursDifferSpec)

/-- ITS FALSE NEIGHBOUR: 'it returns false'. Refute it at one input. -/
def honoursDifferWrong : ChangeSpec := { name := "honoursDiffer", fn := fun _ => fun
  | [d1, d2, d3, d4] => { results := [.lit (.bool false)], args := [d1, d2, d3, d4] }
  | _ => none }
def HonoursDifferWrongFalsely : Prop := honoursDifferRow.holds Tryz.pinned (OpenSpec.ofChange honoursDifferWrong)

/-- 'sennetlaw05.HonoursWitness': WHATEVER THE INPUT: true; the input reads as it did. -/
def honoursWitnessSpec : ChangeSpec := { name := "honoursWitness", fn := fun _ => fun
  | [d1, d2, d3, d4] => { results := [.lit (.bool true)], args := [d1, d2, d3, d4] }
  | _ => none }
def honoursWitnessRow : OpenClaim := { program := "ytdpfgjljehajbaagreatdoor", sum := "98b2e11f0198dbd9bd284ede28c421b538bbbf55ca7c876f3edfa28baf9e1d4d", func := "sennet/sennetlaw05.HonoursWitness", spec := "honoursWitness", inPlace := ["internal/bytealg.CountString", "internal/bytealg.IndexByteString", "internal/bytealg.IndexString", "internal/abi.NoEscape", "internal/bytealg.MakeNoZero", "slices.overlaps[sennet/api.Mast]"], unfollowed := true, recurses := true, named := ["unicode/utf8.first", "unicode/utf8.acceptRanges", "internal/bytealg.MaxLen", "strconv.ErrSyntax", "strconv.ErrRange", "internal/strconv.uint64pow10", "math/bits.deBruijn32tab", "math/bits.deBruijn64tab"], apart := false, laid := [("math/bits.deBruijn32tab", laid_math_bits_deBruijn32tab), ("math/bits.deBruijn64tab", laid_math_bits_deBruijn64tab), ("internal/strconv.uint64pow10", laid_internal_strconv_uint64pow10), ("unicode/utf8.acceptRanges", laid_unicode_utf8_acceptRanges), ("strconv.ErrRange", laid_strconv_ErrRange), ("strconv.ErrSyntax", laid_strconv_ErrSyntax), ("unicode/utf8.first", laid_unicode_utf8_first)] }
def HonoursWitnessSaid : Prop := honoursWitnessRow.holds Tryz.pinned (OpenSpec.ofChange honoursWitnessSpec)

/-- ITS FALSE NEIGHBOUR: 'it returns false'. Refute it at one input. -/
def honoursWitnessWrong : ChangeSpec := { name := "honoursWitness", fn := fun _ => fun
  | [d1, d2, d3, d4] => { results := [.lit (.bool false)], args := [d1, d2, d3, d4] }
  | _ => none }
def HonoursWitnessWrongFalsely : Prop := honoursWitnessRow.holds Tryz.pinned (OpenSpec.ofChange honoursWitnessWrong)

/-- 'sennetlaw05.HonoursLeave': WHATEVER THE INPUT: true; the input reads as it did. -/
def honoursLeaveSpec : ChangeSpec := { name := "honoursLeave", fn := fun _ => fun
  | [d1, d2, d3] => { results := [.lit (.bool true)], args := [d1, d2, d3] }
  | _ => none }
def honoursLeaveRow : OpenClaim := { program := "ytdpfgjljehajbaagreatdoor", sum := "98b2e11f0198dbd9bd284ede28c421b538bbbf55ca7c876f3edfa28baf9e1d4d", func := "sennet/sennetlaw05.HonoursLeave", spec := "honoursLeave", inPlace := ["internal/bytealg.CountString", "internal/bytealg.IndexByteString", "internal/bytealg.IndexString", "internal/abi.NoEscape", "internal/bytealg.MakeNoZero", "slices.overlaps[sennet/api.Mast]"], unfollowed := true, recurses := true, named := ["unicode/utf8.first", "unicode/utf8.acceptRanges", "internal/bytealg.MaxLen", "strconv.ErrSyntax", "strconv.ErrRange", "internal/strconv.uint64pow10", "math/bits.deBruijn32tab", "math/bits.deBruijn64tab"], apart := false, laid := [("math/bits.deBruijn32tab", laid_math_bits_deBruijn32tab), ("math/bits.deBruijn64tab", laid_math_bits_deBruijn64tab), ("internal/strconv.uint64pow10", laid_internal_strconv_uint64pow10), ("unicode/utf8.acceptRanges", laid_unicode_utf8_acceptRanges), ("strconv.ErrRange", laid_strconv_ErrRange), ("strconv.ErrSyntax", laid_strconv_ErrSyntax), ("unicode/utf8.first", laid_unicode_utf8_first)] }
def HonoursLeaveSaid : Prop := honoursLeaveRow.holds Tryz.pinned (OpenSpec.ofChange honoursLeaveSpec)

/-- ITS FALSE NEIGHBOUR: 'it returns false'. Refute it at one input. -/
def honoursLeaveWrong : ChangeSpec := { name := "honoursLeave", fn := fun _ => fun
  | [d1, d2, d3] => { results := [.lit (.bool false)], args := [d1, d2, d3] }
  | _ => none }
def HonoursLeaveWrongFalsely : Prop := honoursLeaveRow.holds Tryz.pinned (OpenSpec.ofChange honoursLeaveWrong)

/- THE SECOND FORM. 'bulk': how many values and letters a reading holds, each counted each time it is reached (what is shared counts as often as it is met; a slice's spare places count too). A statement '..UptoSaid' is the law's where the arguments, and the package variables that the reading takes, are together of bulk at most 1048576: NARROWER than '..Said'. Prove '..Said' where nothing that the law and all that it calls make is longer than what came in: it says more and counts as full. Else prove '..UptoSaid'. A law counts once. -/
mutual
def uptoBulk {H : Type} : DataW H → Nat
  | .lit (.string bytes) => bytes.length + 1
  | .lit _ => 1
  | .nil => 1
  | .ptr d => uptoBulk d + 1
  | .slice elems spare => uptoBulkAll elems + uptoBulkAll spare + 1
  | .agg parts => uptoBulkAll parts + 1
  | .iface _ d => uptoBulk d + 1
  | .map entries => uptoBulkEntries entries + 1
  | .held _ => 1
def uptoBulkAll {H : Type} : List (DataW H) → Nat
  | [] => 0
  | d :: r => uptoBulk d + uptoBulkAll r
def uptoBulkEntries {H : Type} : List (Lit × DataW H) → Nat
  | [] => 0
  | x :: r => uptoBulkEntry x + uptoBulkEntries r
def uptoBulkEntry {H : Type} : Lit × DataW H → Nat
  | (.string bytes, d) => bytes.length + uptoBulk d + 1
  | (_, d) => uptoBulk d + 1
 end
def uptoSmall : (H : Type) → List (DataW H) → Bool := fun _ ds => decide (uptoBulkAll ds ≤ 1048576)
def OpenSpec.upto (s : _root_.Go.ChangeSpec) : _root_.Go.OpenSpec := { _root_.Go.OpenSpec.ofChange s with cond := some uptoSmall }

/-- 'sennetlaw05.HonoursAt', WHERE WHAT IT READS IS OF BULK AT MOST 1048576: true; the input reads as it did. -/
def honoursAtUptoRow : OpenClaim := { program := "ytdpfgjljehajbaagreatdoor", sum := "98b2e11f0198dbd9bd284ede28c421b538bbbf55ca7c876f3edfa28baf9e1d4d", func := "sennet/sennetlaw05.HonoursAt", spec := "honoursAt", inPlace := ["internal/bytealg.CountString", "internal/bytealg.IndexByteString", "internal/bytealg.IndexString", "internal/abi.NoEscape", "internal/bytealg.MakeNoZero", "slices.overlaps[sennet/api.Mast]"], unfollowed := true, recurses := true, named := ["unicode/utf8.first", "unicode/utf8.acceptRanges", "internal/bytealg.MaxLen", "strconv.ErrSyntax", "strconv.ErrRange", "internal/strconv.uint64pow10", "math/bits.deBruijn32tab", "math/bits.deBruijn64tab"], apart := false, laid := [("math/bits.deBruijn32tab", laid_math_bits_deBruijn32tab), ("math/bits.deBruijn64tab", laid_math_bits_deBruijn64tab), ("internal/strconv.uint64pow10", laid_internal_strconv_uint64pow10), ("unicode/utf8.acceptRanges", laid_unicode_utf8_acceptRanges), ("strconv.ErrRange", laid_strconv_ErrRange), ("strconv.ErrSyntax", laid_strconv_ErrSyntax), ("unicode/utf8.first", laid_unicode_utf8_first)], narrowed := true }
def HonoursAtUptoSaid : Prop := honoursAtUptoRow.holds Tryz.pinned (OpenSpec.upto honoursAtSpec)

/-- 'sennetlaw05.HonoursNext', WHERE WHAT IT READS IS OF BULK AT MOST 1048576: true; the input reads as it did. -/
def honoursNextUptoRow : OpenClaim := { program := "ytdpfgjljehajbaagreatdoor", sum := "98b2e11f0198dbd9bd284ede28c421b538bbbf55ca7c876f3edfa28baf9e1d4d", func := "sennet/sennetlaw05.HonoursNext", spec := "honoursNext", inPlace := ["internal/bytealg.CountString", "internal/bytealg.IndexByteString", "internal/bytealg.IndexString", "internal/abi.NoEscape", "internal/bytealg.MakeNoZero", "slices.overlaps[sennet/api.Mast]"], unfollowed := true, recurses := true, named := ["unicode/utf8.first", "unicode/utf8.acceptRanges", "internal/bytealg.MaxLen", "strconv.ErrSyntax", "strconv.ErrRange", "internal/strconv.uint64pow10", "math/bits.deBruijn32tab", "math/bits.deBruijn64tab"], apart := false, laid := [("math/bits.deBruijn32tab", laid_math_bits_deBruijn32tab), ("math/bits.deBruijn64tab", laid_math_bits_deBruijn64tab), ("internal/strconv.uint64pow10", laid_internal_strconv_uint64pow10), ("unicode/utf8.acceptRanges", laid_unicode_utf8_acceptRanges), ("strconv.ErrRange", laid_strconv_ErrRange), ("strconv.ErrSyntax", laid_strconv_ErrSyntax), ("unicode/utf8.first", laid_unicode_utf8_first)], narrowed := true }
def HonoursNextUptoSaid : Prop := honoursNextUptoRow.holds Tryz.pinned (OpenSpec.upto honoursNextSpec)

/-- 'sennetlaw05.HonoursIdle', WHERE WHAT IT READS IS OF BULK AT MOST 1048576: true; the input reads as it did. -/
def honoursIdleUptoRow : OpenClaim := { program := "ytdpfgjljehajbaagreatdoor", sum := "98b2e11f0198dbd9bd284ede28c421b538bbbf55ca7c876f3edfa28baf9e1d4d", func := "sennet/sennetlaw05.HonoursIdle", spec := "honoursIdle", inPlace := ["internal/bytealg.CountString", "internal/bytealg.IndexByteString", "internal/bytealg.IndexString", "internal/abi.NoEscape", "internal/bytealg.MakeNoZero", "slices.overlaps[sennet/api.Mast]"], unfollowed := true, recurses := true, named := ["unicode/utf8.first", "unicode/utf8.acceptRanges", "internal/bytealg.MaxLen", "strconv.ErrSyntax", "strconv.ErrRange", "internal/strconv.uint64pow10", "math/bits.deBruijn32tab", "math/bits.deBruijn64tab"], apart := false, laid := [("math/bits.deBruijn32tab", laid_math_bits_deBruijn32tab), ("math/bits.deBruijn64tab", laid_math_bits_deBruijn64tab), ("internal/strconv.uint64pow10", laid_internal_strconv_uint64pow10), ("unicode/utf8.acceptRanges", laid_unicode_utf8_acceptRanges), ("strconv.ErrRange", laid_strconv_ErrRange), ("strconv.ErrSyntax", laid_strconv_ErrSyntax), ("unicode/utf8.first", laid_unicode_utf8_first)], narrowed := true }
def HonoursIdleUptoSaid : Prop := honoursIdleUptoRow.holds Tryz.pinned (OpenSpec.upto honoursIdleSpec)

/-- 'sennetlaw05.HonoursGuns', WHERE WHAT IT READS IS OF BULK AT MOST 1048576: true; the input reads as it did. -/
def honoursGunsUptoRow : OpenClaim := { program := "ytdpfgjljehajbaagreatdoor", sum := "98b2e11f0198dbd9bd284ede28c421b538bbbf55ca7c876f3edfa28baf9e1d4d", func := "sennet/sennetlaw05.HonoursGuns", spec := "honoursGuns", inPlace := ["internal/bytealg.CountString", "internal/bytealg.IndexByteString", "internal/bytealg.IndexString", "internal/abi.NoEscape", "internal/bytealg.MakeNoZero", "slices.overlaps[sennet/api.Mast]"], unfollowed := true, recurses := true, named := ["unicode/utf8.first", "unicode/utf8.acceptRanges", "internal/bytealg.MaxLen", "strconv.ErrSyntax", "strconv.ErrRange", "internal/strconv.uint64pow10", "math/bits.deBruijn32tab", "math/bits.deBruijn64tab"], apart := false, laid := [("math/bits.deBruijn32tab", laid_math_bits_deBruijn32tab), ("math/bits.deBruijn64tab", laid_math_bits_deBruijn64tab), ("internal/strconv.uint64pow10", laid_internal_strconv_uint64pow10), ("unicode/utf8.acceptRanges", laid_unicode_utf8_acceptRanges), ("strconv.ErrRange", laid_strconv_ErrRange), ("strconv.ErrSyntax", laid_strconv_ErrSyntax), ("unicode/utf8.first", laid_unicode_utf8_first)], narrowed := true }
def HonoursGunsUptoSaid : Prop := honoursGunsUptoRow.holds Tryz.pinned (OpenSpec.upto honoursGunsSpec)

/-- 'sennetlaw05.HonoursWrites', WHERE WHAT IT READS IS OF BULK AT MOST 1048576: true; the input reads as it did. -/
def honoursWritesUptoRow : OpenClaim := { program := "ytdpfgjljehajbaagreatdoor", sum := "98b2e11f0198dbd9bd284ede28c421b538bbbf55ca7c876f3edfa28baf9e1d4d", func := "sennet/sennetlaw05.HonoursWrites", spec := "honoursWrites", inPlace := ["internal/abi.NoEscape", "internal/bytealg.MakeNoZero", "internal/bytealg.CountString", "internal/bytealg.IndexByteString", "internal/bytealg.IndexString", "slices.overlaps[sennet/api.Mast]"], unfollowed := true, recurses := true, named := ["internal/strconv.uint64pow10", "math/bits.deBruijn32tab", "math/bits.deBruijn64tab", "unicode/utf8.first", "unicode/utf8.acceptRanges", "internal/bytealg.MaxLen", "strconv.ErrSyntax", "strconv.ErrRange"], apart := false, laid := [("math/bits.deBruijn32tab", laid_math_bits_deBruijn32tab), ("math/bits.deBruijn64tab", laid_math_bits_deBruijn64tab), ("internal/strconv.uint64pow10", laid_internal_strconv_uint64pow10), ("unicode/utf8.acceptRanges", laid_unicode_utf8_acceptRanges), ("strconv.ErrRange", laid_strconv_ErrRange), ("strconv.ErrSyntax", laid_strconv_ErrSyntax), ("unicode/utf8.first", laid_unicode_utf8_first)], narrowed := true }
def HonoursWritesUptoSaid : Prop := honoursWritesUptoRow.holds Tryz.pinned (OpenSpec.upto honoursWritesSpec)

/-- 'sennetlaw05.HonoursEnters', WHERE WHAT IT READS IS OF BULK AT MOST 1048576: true; the input reads as it did. -/
def honoursEntersUptoRow : OpenClaim := { program := "ytdpfgjljehajbaagreatdoor", sum := "98b2e11f0198dbd9bd284ede28c421b538bbbf55ca7c876f3edfa28baf9e1d4d", func := "sennet/sennetlaw05.HonoursEnters", spec := "honoursEnters", inPlace := ["internal/bytealg.CountString", "internal/bytealg.IndexByteString", "internal/bytealg.IndexString", "internal/abi.NoEscape", "internal/bytealg.MakeNoZero", "slices.overlaps[sennet/api.Mast]"], unfollowed := true, recurses := true, named := ["unicode/utf8.first", "unicode/utf8.acceptRanges", "internal/bytealg.MaxLen", "strconv.ErrSyntax", "strconv.ErrRange", "internal/strconv.uint64pow10", "math/bits.deBruijn32tab", "math/bits.deBruijn64tab"], apart := false, laid := [("math/bits.deBruijn32tab", laid_math_bits_deBruijn32tab), ("math/bits.deBruijn64tab", laid_math_bits_deBruijn64tab), ("internal/strconv.uint64pow10", laid_internal_strconv_uint64pow10), ("unicode/utf8.acceptRanges", laid_unicode_utf8_acceptRanges), ("strconv.ErrRange", laid_strconv_ErrRange), ("strconv.ErrSyntax", laid_strconv_ErrSyntax), ("unicode/utf8.first", laid_unicode_utf8_first)], narrowed := true }
def HonoursEntersUptoSaid : Prop := honoursEntersUptoRow.holds Tryz.pinned (OpenSpec.upto honoursEntersSpec)

/-- 'sennetlaw05.HonoursZones', WHERE WHAT IT READS IS OF BULK AT MOST 1048576: true; the input reads as it did. -/
def honoursZonesUptoRow : OpenClaim := { program := "ytdpfgjljehajbaagreatdoor", sum := "98b2e11f0198dbd9bd284ede28c421b538bbbf55ca7c876f3edfa28baf9e1d4d", func := "sennet/sennetlaw05.HonoursZones", spec := "honoursZones", inPlace := ["internal/bytealg.CountString", "internal/bytealg.IndexByteString", "internal/bytealg.IndexString", "internal/abi.NoEscape", "internal/bytealg.MakeNoZero", "slices.overlaps[sennet/api.Mast]"], unfollowed := true, recurses := true, named := ["unicode/utf8.first", "unicode/utf8.acceptRanges", "internal/bytealg.MaxLen", "strconv.ErrSyntax", "strconv.ErrRange", "internal/strconv.uint64pow10", "math/bits.deBruijn32tab", "math/bits.deBruijn64tab"], apart := false, laid := [("math/bits.deBruijn32tab", laid_math_bits_deBruijn32tab), ("math/bits.deBruijn64tab", laid_math_bits_deBruijn64tab), ("internal/strconv.uint64pow10", laid_internal_strconv_uint64pow10), ("unicode/utf8.acceptRanges", laid_unicode_utf8_acceptRanges), ("strconv.ErrRange", laid_strconv_ErrRange), ("strconv.ErrSyntax", laid_strconv_ErrSyntax), ("unicode/utf8.first", laid_unicode_utf8_first)], narrowed := true }
def HonoursZonesUptoSaid : Prop := honoursZonesUptoRow.holds Tryz.pinned (OpenSpec.upto honoursZonesSpec)

/-- 'sennetlaw05.HonoursChecks', WHERE WHAT IT READS IS OF BULK AT MOST 1048576: true; the input reads as it did. -/
def honoursChecksUptoRow : OpenClaim := { program := "ytdpfgjljehajbaagreatdoor", sum := "98b2e11f0198dbd9bd284ede28c421b538bbbf55ca7c876f3edfa28baf9e1d4d", func := "sennet/sennetlaw05.HonoursChecks", spec := "honoursChecks", inPlace := ["internal/bytealg.CountString", "internal/bytealg.IndexByteString", "internal/bytealg.IndexString", "internal/abi.NoEscape", "internal/bytealg.MakeNoZero", "slices.overlaps[sennet/api.Mast]"], unfollowed := true, recurses := true, named := ["unicode/utf8.first", "unicode/utf8.acceptRanges", "internal/bytealg.MaxLen", "strconv.ErrSyntax", "strconv.ErrRange", "internal/strconv.uint64pow10", "math/bits.deBruijn32tab", "math/bits.deBruijn64tab"], apart := false, laid := [("math/bits.deBruijn32tab", laid_math_bits_deBruijn32tab), ("math/bits.deBruijn64tab", laid_math_bits_deBruijn64tab), ("internal/strconv.uint64pow10", laid_internal_strconv_uint64pow10), ("unicode/utf8.acceptRanges", laid_unicode_utf8_acceptRanges), ("strconv.ErrRange", laid_strconv_ErrRange), ("strconv.ErrSyntax", laid_strconv_ErrSyntax), ("unicode/utf8.first", laid_unicode_utf8_first)], narrowed := true }
def HonoursChecksUptoSaid : Prop := honoursChecksUptoRow.holds Tryz.pinned (OpenSpec.upto honoursChecksSpec)

/-- 'sennetlaw05.HonoursRanks', WHERE WHAT IT READS IS OF BULK AT MOST 1048576: true; the input reads as it did. -/
def honoursRanksUptoRow : OpenClaim := { program := "ytdpfgjljehajbaagreatdoor", sum := "98b2e11f0198dbd9bd284ede28c421b538bbbf55ca7c876f3edfa28baf9e1d4d", func := "sennet/sennetlaw05.HonoursRanks", spec := "honoursRanks", inPlace := ["internal/abi.NoEscape", "internal/bytealg.MakeNoZero", "internal/bytealg.CountString", "internal/bytealg.IndexByteString", "internal/bytealg.IndexString", "slices.overlaps[sennet/api.Mast]"], unfollowed := true, recurses := true, named := ["internal/strconv.uint64pow10", "math/bits.deBruijn32tab", "math/bits.deBruijn64tab", "unicode/utf8.first", "unicode/utf8.acceptRanges", "internal/bytealg.MaxLen", "strconv.ErrSyntax", "strconv.ErrRange"], apart := false, laid := [("math/bits.deBruijn32tab", laid_math_bits_deBruijn32tab), ("math/bits.deBruijn64tab", laid_math_bits_deBruijn64tab), ("internal/strconv.uint64pow10", laid_internal_strconv_uint64pow10), ("unicode/utf8.acceptRanges", laid_unicode_utf8_acceptRanges), ("strconv.ErrRange", laid_strconv_ErrRange), ("strconv.ErrSyntax", laid_strconv_ErrSyntax), ("unicode/utf8.first", laid_unicode_utf8_first)], narrowed := true }
def HonoursRanksUptoSaid : Prop := honoursRanksUptoRow.holds Tryz.pinned (OpenSpec.upto honoursRanksSpec)

/-- 'sennetlaw05.HonoursTimes', WHERE WHAT IT READS IS OF BULK AT MOST 1048576: true; the input reads as it did. -/
def honoursTimesUptoRow : OpenClaim := { program := "ytdpfgjljehajbaagreatdoor", sum := "98b2e11f0198dbd9bd284ede28c421b538bbbf55ca7c876f3edfa28baf9e1d4d", func := "sennet/sennetlaw05.HonoursTimes", spec := "honoursTimes", inPlace := ["internal/bytealg.CountString", "internal/bytealg.IndexByteString", "internal/bytealg.IndexString", "internal/abi.NoEscape", "internal/bytealg.MakeNoZero", "slices.overlaps[sennet/api.Mast]"], unfollowed := true, recurses := true, named := ["unicode/utf8.first", "unicode/utf8.acceptRanges", "internal/bytealg.MaxLen", "strconv.ErrSyntax", "strconv.ErrRange", "internal/strconv.uint64pow10", "math/bits.deBruijn32tab", "math/bits.deBruijn64tab"], apart := false, laid := [("math/bits.deBruijn32tab", laid_math_bits_deBruijn32tab), ("math/bits.deBruijn64tab", laid_math_bits_deBruijn64tab), ("internal/strconv.uint64pow10", laid_internal_strconv_uint64pow10), ("unicode/utf8.acceptRanges", laid_unicode_utf8_acceptRanges), ("strconv.ErrRange", laid_strconv_ErrRange), ("strconv.ErrSyntax", laid_strconv_ErrSyntax), ("unicode/utf8.first", laid_unicode_utf8_first)], narrowed := true }
def HonoursTimesUptoSaid : Prop := honoursTimesUptoRow.holds Tryz.pinned (OpenSpec.upto honoursTimesSpec)

/-- 'sennetlaw05.HonoursLines', WHERE WHAT IT READS IS OF BULK AT MOST 1048576: true; the input reads as it did. -/
def honoursLinesUptoRow : OpenClaim := { program := "ytdpfgjljehajbaagreatdoor", sum := "98b2e11f0198dbd9bd284ede28c421b538bbbf55ca7c876f3edfa28baf9e1d4d", func := "sennet/sennetlaw05.HonoursLines", spec := "honoursLines", inPlace := ["internal/bytealg.CountString", "internal/bytealg.IndexByteString", "internal/bytealg.IndexString", "internal/abi.NoEscape", "internal/bytealg.MakeNoZero", "slices.overlaps[sennet/api.Mast]"], unfollowed := true, recurses := true, named := ["unicode/utf8.first", "unicode/utf8.acceptRanges", "internal/bytealg.MaxLen", "strconv.ErrSyntax", "strconv.ErrRange", "internal/strconv.uint64pow10", "math/bits.deBruijn32tab", "math/bits.deBruijn64tab"], apart := false, laid := [("math/bits.deBruijn32tab", laid_math_bits_deBruijn32tab), ("math/bits.deBruijn64tab", laid_math_bits_deBruijn64tab), ("internal/strconv.uint64pow10", laid_internal_strconv_uint64pow10), ("unicode/utf8.acceptRanges", laid_unicode_utf8_acceptRanges), ("strconv.ErrRange", laid_strconv_ErrRange), ("strconv.ErrSyntax", laid_strconv_ErrSyntax), ("unicode/utf8.first", laid_unicode_utf8_first)], narrowed := true }
def HonoursLinesUptoSaid : Prop := honoursLinesUptoRow.holds Tryz.pinned (OpenSpec.upto honoursLinesSpec)

/-- 'sennetlaw05.HonoursMinutes', WHERE WHAT IT READS IS OF BULK AT MOST 1048576: true; the input reads as it did. -/
def honoursMinutesUptoRow : OpenClaim := { program := "ytdpfgjljehajbaagreatdoor", sum := "98b2e11f0198dbd9bd284ede28c421b538bbbf55ca7c876f3edfa28baf9e1d4d", func := "sennet/sennetlaw05.HonoursMinutes", spec := "honoursMinutes", inPlace := ["internal/bytealg.CountString", "internal/bytealg.IndexByteString", "internal/bytealg.IndexString", "internal/abi.NoEscape", "internal/bytealg.MakeNoZero", "slices.overlaps[sennet/api.Mast]"], unfollowed := true, recurses := true, named := ["unicode/utf8.first", "unicode/utf8.acceptRanges", "internal/bytealg.MaxLen", "strconv.ErrSyntax", "strconv.ErrRange", "internal/strconv.uint64pow10", "math/bits.deBruijn32tab", "math/bits.deBruijn64tab"], apart := false, laid := [("math/bits.deBruijn32tab", laid_math_bits_deBruijn32tab), ("math/bits.deBruijn64tab", laid_math_bits_deBruijn64tab), ("internal/strconv.uint64pow10", laid_internal_strconv_uint64pow10), ("unicode/utf8.acceptRanges", laid_unicode_utf8_acceptRanges), ("strconv.ErrRange", laid_strconv_ErrRange), ("strconv.ErrSyntax", laid_strconv_ErrSyntax), ("unicode/utf8.first", laid_unicode_utf8_first)], narrowed := true }
def HonoursMinutesUptoSaid : Prop := honoursMinutesUptoRow.holds Tryz.pinned (OpenSpec.upto honoursMinutesSpec)

/-- 'sennetlaw05.HonoursBattery', WHERE WHAT IT READS IS OF BULK AT MOST 1048576: true; the input reads as it did. -/
def honoursBatteryUptoRow : OpenClaim := { program := "ytdpfgjljehajbaagreatdoor", sum := "98b2e11f0198dbd9bd284ede28c421b538bbbf55ca7c876f3edfa28baf9e1d4d", func := "sennet/sennetlaw05.HonoursBattery", spec := "honoursBattery", inPlace := ["internal/bytealg.CountString", "internal/bytealg.IndexByteString", "internal/bytealg.IndexString", "internal/abi.NoEscape", "internal/bytealg.MakeNoZero", "slices.overlaps[sennet/api.Mast]"], unfollowed := true, recurses := true, named := ["unicode/utf8.first", "unicode/utf8.acceptRanges", "internal/bytealg.MaxLen", "strconv.ErrSyntax", "strconv.ErrRange", "internal/strconv.uint64pow10", "math/bits.deBruijn32tab", "math/bits.deBruijn64tab"], apart := false, laid := [("math/bits.deBruijn32tab", laid_math_bits_deBruijn32tab), ("math/bits.deBruijn64tab", laid_math_bits_deBruijn64tab), ("internal/strconv.uint64pow10", laid_internal_strconv_uint64pow10), ("unicode/utf8.acceptRanges", laid_unicode_utf8_acceptRanges), ("strconv.ErrRange", laid_strconv_ErrRange), ("strconv.ErrSyntax", laid_strconv_ErrSyntax), ("unicode/utf8.first", laid_unicode_utf8_first)], narrowed := true }
def HonoursBatteryUptoSaid : Prop := honoursBatteryUptoRow.holds Tryz.pinned (OpenSpec.upto honoursBatterySpec)

/-- 'sennetlaw05.HonoursFirst', WHERE WHAT IT READS IS OF BULK AT MOST 1048576: true; the input reads as it did. -/
def honoursFirstUptoRow : OpenClaim := { program := "ytdpfgjljehajbaagreatdoor", sum := "98b2e11f0198dbd9bd284ede28c421b538bbbf55ca7c876f3edfa28baf9e1d4d", func := "sennet/sennetlaw05.HonoursFirst", spec := "honoursFirst", inPlace := ["internal/bytealg.CountString", "internal/bytealg.IndexByteString", "internal/bytealg.IndexString", "internal/abi.NoEscape", "internal/bytealg.MakeNoZero", "slices.overlaps[sennet/api.Mast]"], unfollowed := true, recurses := true, named := ["unicode/utf8.first", "unicode/utf8.acceptRanges", "internal/bytealg.MaxLen", "strconv.ErrSyntax", "strconv.ErrRange", "internal/strconv.uint64pow10", "math/bits.deBruijn32tab", "math/bits.deBruijn64tab"], apart := false, laid := [("math/bits.deBruijn32tab", laid_math_bits_deBruijn32tab), ("math/bits.deBruijn64tab", laid_math_bits_deBruijn64tab), ("internal/strconv.uint64pow10", laid_internal_strconv_uint64pow10), ("unicode/utf8.acceptRanges", laid_unicode_utf8_acceptRanges), ("strconv.ErrRange", laid_strconv_ErrRange), ("strconv.ErrSyntax", laid_strconv_ErrSyntax), ("unicode/utf8.first", laid_unicode_utf8_first)], narrowed := true }
def HonoursFirstUptoSaid : Prop := honoursFirstUptoRow.holds Tryz.pinned (OpenSpec.upto honoursFirstSpec)

/-- 'sennetlaw05.HonoursTunes', WHERE WHAT IT READS IS OF BULK AT MOST 1048576: true; the input reads as it did. -/
def honoursTunesUptoRow : OpenClaim := { program := "ytdpfgjljehajbaagreatdoor", sum := "98b2e11f0198dbd9bd284ede28c421b538bbbf55ca7c876f3edfa28baf9e1d4d", func := "sennet/sennetlaw05.HonoursTunes", spec := "honoursTunes", inPlace := ["internal/bytealg.CountString", "internal/bytealg.IndexByteString", "internal/bytealg.IndexString", "internal/abi.NoEscape", "internal/bytealg.MakeNoZero", "slices.overlaps[sennet/api.Mast]"], unfollowed := true, recurses := true, named := ["unicode/utf8.first", "unicode/utf8.acceptRanges", "internal/bytealg.MaxLen", "strconv.ErrSyntax", "strconv.ErrRange", "internal/strconv.uint64pow10", "math/bits.deBruijn32tab", "math/bits.deBruijn64tab"], apart := false, laid := [("math/bits.deBruijn32tab", laid_math_bits_deBruijn32tab), ("math/bits.deBruijn64tab", laid_math_bits_deBruijn64tab), ("internal/strconv.uint64pow10", laid_internal_strconv_uint64pow10), ("unicode/utf8.acceptRanges", laid_unicode_utf8_acceptRanges), ("strconv.ErrRange", laid_strconv_ErrRange), ("strconv.ErrSyntax", laid_strconv_ErrSyntax), ("unicode/utf8.first", laid_unicode_utf8_first)], narrowed := true }
def HonoursTunesUptoSaid : Prop := honoursTunesUptoRow.holds Tryz.pinned (OpenSpec.upto honoursTunesSpec)

/-- 'sennetlaw05.HonoursTurns', WHERE WHAT IT READS IS OF BULK AT MOST 1048576: true; the input reads as it did. -/
def honoursTurnsUptoRow : OpenClaim := { program := "ytdpfgjljehajbaagreatdoor", sum := "98b2e11f0198dbd9bd284ede28c421b538bbbf55ca7c876f3edfa28baf9e1d4d", func := "sennet/sennetlaw05.HonoursTurns", spec := "honoursTurns", inPlace := ["internal/bytealg.CountString", "internal/bytealg.IndexByteString", "internal/bytealg.IndexString", "internal/abi.NoEscape", "internal/bytealg.MakeNoZero", "slices.overlaps[sennet/api.Mast]"], unfollowed := true, recurses := true, named := ["unicode/utf8.first", "unicode/utf8.acceptRanges", "internal/bytealg.MaxLen", "strconv.ErrSyntax", "strconv.ErrRange", "internal/strconv.uint64pow10", "math/bits.deBruijn32tab", "math/bits.deBruijn64tab"], apart := false, laid := [("math/bits.deBruijn32tab", laid_math_bits_deBruijn32tab), ("math/bits.deBruijn64tab", laid_math_bits_deBruijn64tab), ("internal/strconv.uint64pow10", laid_internal_strconv_uint64pow10), ("unicode/utf8.acceptRanges", laid_unicode_utf8_acceptRanges), ("strconv.ErrRange", laid_strconv_ErrRange), ("strconv.ErrSyntax", laid_strconv_ErrSyntax), ("unicode/utf8.first", laid_unicode_utf8_first)], narrowed := true }
def HonoursTurnsUptoSaid : Prop := honoursTurnsUptoRow.holds Tryz.pinned (OpenSpec.upto honoursTurnsSpec)

/-- 'sennetlaw05.HonoursTimesSpent', WHERE WHAT IT READS IS OF BULK AT MOST 1048576: true; the input reads as it did. -/
def honoursTimesSpentUptoRow : OpenClaim := { program := "ytdpfgjljehajbaagreatdoor", sum := "98b2e11f0198dbd9bd284ede28c421b538bbbf55ca7c876f3edfa28baf9e1d4d", func := "sennet/sennetlaw05.HonoursTimesSpent", spec := "honoursTimesSpent", inPlace := ["internal/bytealg.CountString", "internal/bytealg.IndexByteString", "internal/bytealg.IndexString", "internal/abi.NoEscape", "internal/bytealg.MakeNoZero", "slices.overlaps[sennet/api.Mast]"], unfollowed := true, recurses := true, named := ["unicode/utf8.first", "unicode/utf8.acceptRanges", "internal/bytealg.MaxLen", "strconv.ErrSyntax", "strconv.ErrRange", "internal/strconv.uint64pow10", "math/bits.deBruijn32tab", "math/bits.deBruijn64tab"], apart := false, laid := [("math/bits.deBruijn32tab", laid_math_bits_deBruijn32tab), ("math/bits.deBruijn64tab", laid_math_bits_deBruijn64tab), ("internal/strconv.uint64pow10", laid_internal_strconv_uint64pow10), ("unicode/utf8.acceptRanges", laid_unicode_utf8_acceptRanges), ("strconv.ErrRange", laid_strconv_ErrRange), ("strconv.ErrSyntax", laid_strconv_ErrSyntax), ("unicode/utf8.first", laid_unicode_utf8_first)], narrowed := true }
def HonoursTimesSpentUptoSaid : Prop := honoursTimesSpentUptoRow.holds Tryz.pinned (OpenSpec.upto honoursTimesSpentSpec)

/-- 'sennetlaw05.HonoursGaps', WHERE WHAT IT READS IS OF BULK AT MOST 1048576: true; the input reads as it did. -/
def honoursGapsUptoRow : OpenClaim := { program := "ytdpfgjljehajbaagreatdoor", sum := "98b2e11f0198dbd9bd284ede28c421b538bbbf55ca7c876f3edfa28baf9e1d4d", func := "sennet/sennetlaw05.HonoursGaps", spec := "honoursGaps", inPlace := ["internal/bytealg.CountString", "internal/bytealg.IndexByteString", "internal/bytealg.IndexString", "internal/abi.NoEscape", "internal/bytealg.MakeNoZero", "slices.overlaps[sennet/api.Mast]"], unfollowed := true, recurses := true, named := ["unicode/utf8.first", "unicode/utf8.acceptRanges", "internal/bytealg.MaxLen", "strconv.ErrSyntax", "strconv.ErrRange", "internal/strconv.uint64pow10", "math/bits.deBruijn32tab", "math/bits.deBruijn64tab"], apart := false, laid := [("math/bits.deBruijn32tab", laid_math_bits_deBruijn32tab), ("math/bits.deBruijn64tab", laid_math_bits_deBruijn64tab), ("internal/strconv.uint64pow10", laid_internal_strconv_uint64pow10), ("unicode/utf8.acceptRanges", laid_unicode_utf8_acceptRanges), ("strconv.ErrRange", laid_strconv_ErrRange), ("strconv.ErrSyntax", laid_strconv_ErrSyntax), ("unicode/utf8.first", laid_unicode_utf8_first)], narrowed := true }
def HonoursGapsUptoSaid : Prop := honoursGapsUptoRow.holds Tryz.pinned (OpenSpec.upto honoursGapsSpec)

/-- 'sennetlaw05.HonoursMemory', WHERE WHAT IT READS IS OF BULK AT MOST 1048576: true; the input reads as it did. -/
def honoursMemoryUptoRow : OpenClaim := { program := "ytdpfgjljehajbaagreatdoor", sum := "98b2e11f0198dbd9bd284ede28c421b538bbbf55ca7c876f3edfa28baf9e1d4d", func := "sennet/sennetlaw05.HonoursMemory", spec := "honoursMemory", inPlace := ["internal/bytealg.CountString", "internal/bytealg.IndexByteString", "internal/bytealg.IndexString", "internal/abi.NoEscape", "internal/bytealg.MakeNoZero", "slices.overlaps[sennet/api.Mast]"], unfollowed := true, recurses := true, named := ["unicode/utf8.first", "unicode/utf8.acceptRanges", "internal/bytealg.MaxLen", "strconv.ErrSyntax", "strconv.ErrRange", "internal/strconv.uint64pow10", "math/bits.deBruijn32tab", "math/bits.deBruijn64tab"], apart := false, laid := [("math/bits.deBruijn32tab", laid_math_bits_deBruijn32tab), ("math/bits.deBruijn64tab", laid_math_bits_deBruijn64tab), ("internal/strconv.uint64pow10", laid_internal_strconv_uint64pow10), ("unicode/utf8.acceptRanges", laid_unicode_utf8_acceptRanges), ("strconv.ErrRange", laid_strconv_ErrRange), ("strconv.ErrSyntax", laid_strconv_ErrSyntax), ("unicode/utf8.first", laid_unicode_utf8_first)], narrowed := true }
def HonoursMemoryUptoSaid : Prop := honoursMemoryUptoRow.holds Tryz.pinned (OpenSpec.upto honoursMemorySpec)

/-- 'sennetlaw05.HonoursDiffer', WHERE WHAT IT READS IS OF BULK AT MOST 1048576: true; the input reads as it did. -/
def honoursDifferUptoRow : OpenClaim := { program := "ytdpfgjljehajbaagreatdoor", sum := "98b2e11f0198dbd9bd284ede28c421b538bbbf55ca7c876f3edfa28baf9e1d4d", func := "sennet/sennetlaw05.HonoursDiffer", spec := "honoursDiffer", inPlace := ["internal/bytealg.CountString", "internal/bytealg.IndexByteString", "internal/bytealg.IndexString", "internal/abi.NoEscape", "internal/bytealg.MakeNoZero", "slices.overlaps[sennet/api.Mast]"], unfollowed := true, recurses := true, named := ["unicode/utf8.first", "unicode/utf8.acceptRanges", "internal/bytealg.MaxLen", "strconv.ErrSyntax", "strconv.ErrRange", "internal/strconv.uint64pow10", "math/bits.deBruijn32tab", "math/bits.deBruijn64tab"], apart := false, laid := [("math/bits.deBruijn32tab", laid_math_bits_deBruijn32tab), ("math/bits.deBruijn64tab", laid_math_bits_deBruijn64tab), ("internal/strconv.uint64pow10", laid_internal_strconv_uint64pow10), ("unicode/utf8.acceptRanges", laid_unicode_utf8_acceptRanges), ("strconv.ErrRange", laid_strconv_ErrRange), ("strconv.ErrSyntax", laid_strconv_ErrSyntax), ("unicode/utf8.first", laid_unicode_utf8_first)], narrowed := true }
def HonoursDifferUptoSaid : Prop := honoursDifferUptoRow.holds Tryz.pinned (OpenSpec.upto honoursDifferSpec)

/-- 'sennetlaw05.HonoursWitness', WHERE WHAT IT READS IS OF BULK AT MOST 1048576: true; the input reads as it did. -/
def honoursWitnessUptoRow : OpenClaim := { program := "ytdpfgjljehajbaagreatdoor", sum := "98b2e11f0198dbd9bd284ede28c421b538bbbf55ca7c876f3edfa28baf9e1d4d", func := "sennet/sennetlaw05.HonoursWitness", spec := "honoursWitness", inPlace := ["internal/bytealg.CountString", "internal/bytealg.IndexByteString", "internal/bytealg.IndexString", "internal/abi.NoEscape", "internal/bytealg.MakeNoZero", "slices.overlaps[sennet/api.Mast]"], unfollowed := true, recurses := true, named := ["unicode/utf8.first", "unicode/utf8.acceptRanges", "internal/bytealg.MaxLen", "strconv.ErrSyntax", "strconv.ErrRange", "internal/strconv.uint64pow10", "math/bits.deBruijn32tab", "math/bits.deBruijn64tab"], apart := false, laid := [("math/bits.deBruijn32tab", laid_math_bits_deBruijn32tab), ("math/bits.deBruijn64tab", laid_math_bits_deBruijn64tab), ("internal/strconv.uint64pow10", laid_internal_strconv_uint64pow10), ("unicode/utf8.acceptRanges", laid_unicode_utf8_acceptRanges), ("strconv.ErrRange", laid_strconv_ErrRange), ("strconv.ErrSyntax", laid_strconv_ErrSyntax), ("unicode/utf8.first", laid_unicode_utf8_first)], narrowed := true }
def HonoursWitnessUptoSaid : Prop := honoursWitnessUptoRow.holds Tryz.pinned (OpenSpec.upto honoursWitnessSpec)

/-- 'sennetlaw05.HonoursLeave', WHERE WHAT IT READS IS OF BULK AT MOST 1048576: true; the input reads as it did. -/
def honoursLeaveUptoRow : OpenClaim := { program := "ytdpfgjljehajbaagreatdoor", sum := "98b2e11f0198dbd9bd284ede28c421b538bbbf55ca7c876f3edfa28baf9e1d4d", func := "sennet/sennetlaw05.HonoursLeave", spec := "honoursLeave", inPlace := ["internal/bytealg.CountString", "internal/bytealg.IndexByteString", "internal/bytealg.IndexString", "internal/abi.NoEscape", "internal/bytealg.MakeNoZero", "slices.overlaps[sennet/api.Mast]"], unfollowed := true, recurses := true, named := ["unicode/utf8.first", "unicode/utf8.acceptRanges", "internal/bytealg.MaxLen", "strconv.ErrSyntax", "strconv.ErrRange", "internal/strconv.uint64pow10", "math/bits.deBruijn32tab", "math/bits.deBruijn64tab"], apart := false, laid := [("math/bits.deBruijn32tab", laid_math_bits_deBruijn32tab), ("math/bits.deBruijn64tab", laid_math_bits_deBruijn64tab), ("internal/strconv.uint64pow10", laid_internal_strconv_uint64pow10), ("unicode/utf8.acceptRanges", laid_unicode_utf8_acceptRanges), ("strconv.ErrRange", laid_strconv_ErrRange), ("strconv.ErrSyntax", laid_strconv_ErrSyntax), ("unicode/utf8.first", laid_unicode_utf8_first)], narrowed := true }
def HonoursLeaveUptoSaid : Prop := honoursLeaveUptoRow.holds Tryz.pinned (OpenSpec.upto honoursLeaveSpec)

end Rows
end Go.Proofs.YtdpfgjljehajbaaGreatDoor
