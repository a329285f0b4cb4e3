/-
  NARROWER THAN 'FOR EVERY INPUT', by the rows' own cells (each row's printed sentence says how): FleetNames: laid · SpecParses: laid · SpecTexts: laid · SpecBack: laid · SpecStops: laid · FleetReads: laid · FleetMakes: laid · SpecExpands: laid · SpecSmaller: laid · EventBack: laid · EventOne: laid · EventCut: laid · FleetTexts: laid · FleetBack: laid · FleetOwn: laid.
  DERIVED. THE GIVEN ROWS OF THIS SEAT. 15 by the template 'for every input the law returns true; each argument reads behind the call as it read before'; 0 by the template 'total and deterministic' (their statements: YteoihdkaoipocaaDoorTotals.lean).
  GIVEN WITH THE SEED: the statements are not yours to turn. If you find one false, say at which input.
  Laid BY PROGRAM, IN A SANDBOX (cutbox-rows.mjs): the forced cells as the released guide's own fill.sh prints them over the translation e59ebe15ae093024… (all of the seat's roots in one cut). By AI agents, Wed Nov 11 2026. No macro, syntax, notation, axiom, sorry.
-/
import Derived.Test.YteoihdkaoipocaaDoorChecked
import GoSem.PinnedTables
import GoSem.Claim
import GoSem.ClaimJoined
import GoSem.ClaimMapViews
import Derived.JoinedTies
import Derived.KernelRfl
namespace Go.Proofs.YteoihdkaoipocaaDoor
/- THE CELL 'sum', in the pinned program and in every row, IS THE sha256 OF THE DUMP (.gsa) THAT YteoihdkaoipocaaDoorProg.lean LOADS. Nothing in Lean hashes anything: it is a label: what it is worth is what the hold of that sum in a sandbox is worth. -/
noncomputable def Tryd.pinned : Pinned := { name := "yteoihdkaoipocaadoor", sum := "e59ebe15ae093024ddf157d509bd3e6112447d1952d304d256055d7936983668", checked := Tryd.checked }
namespace Rows
def none {H : Type} : Left H := { results := [], args := [] }

/- WHAT THE LISTED PACKAGE-LEVEL VARIABLES READ AS WHEN THE CALL BEGINS. Each datum BY PROGRAM (the guide's laid-datum.mjs) off the statement by which the dump's own 'gosem.cut.vars' lays the variable. In a bare row this is a premise. The card (YteoihdkaoipocaaDoorCards.lean) ties it to the program's text. -/
def laid_unicode_utf8_acceptRanges {H : Type} : DataW H := .agg [.agg [.lit (.int .u8 128), .lit (.int .u8 191)], .agg [.lit (.int .u8 160), .lit (.int .u8 191)], .agg [.lit (.int .u8 128), .lit (.int .u8 159)], .agg [.lit (.int .u8 144), .lit (.int .u8 191)], .agg [.lit (.int .u8 128), .lit (.int .u8 143)], .agg [.lit (.int .u8 0), .lit (.int .u8 0)], .agg [.lit (.int .u8 0), .lit (.int .u8 0)], .agg [.lit (.int .u8 0), .lit (.int .u8 0)], .agg [.lit (.int .u8 0), .lit (.int .u8 0)], .agg [.lit (.int .u8 0), .lit (.int .u8 0)], .agg [.lit (.int .u8 0), .lit (.int .u8 0)], .agg [.lit (.int .u8 0), .lit (.int .u8 0)], .agg [.lit (.int .u8 0), .lit (.int .u8 0)], .agg [.lit (.int .u8 0), .lit (.int .u8 0)], .agg [.lit (.int .u8 0), .lit (.int .u8 0)], .agg [.lit (.int .u8 0), .lit (.int .u8 0)]]
/-- One of Go's own tables, pinned by name: the form's constant. -/
def laid_unicode_utf8_first : DataW Unit := Go.Pinned.utf8First
def laid_math_bits_deBruijn32tab {H : Type} : DataW H := .agg [.lit (.int .u8 0), .lit (.int .u8 1), .lit (.int .u8 28), .lit (.int .u8 2), .lit (.int .u8 29), .lit (.int .u8 14), .lit (.int .u8 24), .lit (.int .u8 3), .lit (.int .u8 30), .lit (.int .u8 22), .lit (.int .u8 20), .lit (.int .u8 15), .lit (.int .u8 25), .lit (.int .u8 17), .lit (.int .u8 4), .lit (.int .u8 8), .lit (.int .u8 31), .lit (.int .u8 27), .lit (.int .u8 13), .lit (.int .u8 23), .lit (.int .u8 21), .lit (.int .u8 19), .lit (.int .u8 16), .lit (.int .u8 7), .lit (.int .u8 26), .lit (.int .u8 12), .lit (.int .u8 18), .lit (.int .u8 6), .lit (.int .u8 11), .lit (.int .u8 5), .lit (.int .u8 10), .lit (.int .u8 9)]
def laid_math_bits_deBruijn64tab {H : Type} : DataW H := .agg [.lit (.int .u8 0), .lit (.int .u8 1), .lit (.int .u8 56), .lit (.int .u8 2), .lit (.int .u8 57), .lit (.int .u8 49), .lit (.int .u8 28), .lit (.int .u8 3), .lit (.int .u8 61), .lit (.int .u8 58), .lit (.int .u8 42), .lit (.int .u8 50), .lit (.int .u8 38), .lit (.int .u8 29), .lit (.int .u8 17), .lit (.int .u8 4), .lit (.int .u8 62), .lit (.int .u8 47), .lit (.int .u8 59), .lit (.int .u8 36), .lit (.int .u8 45), .lit (.int .u8 43), .lit (.int .u8 51), .lit (.int .u8 22), .lit (.int .u8 53), .lit (.int .u8 39), .lit (.int .u8 33), .lit (.int .u8 30), .lit (.int .u8 24), .lit (.int .u8 18), .lit (.int .u8 12), .lit (.int .u8 5), .lit (.int .u8 63), .lit (.int .u8 55), .lit (.int .u8 48), .lit (.int .u8 27), .lit (.int .u8 60), .lit (.int .u8 41), .lit (.int .u8 37), .lit (.int .u8 16), .lit (.int .u8 46), .lit (.int .u8 35), .lit (.int .u8 44), .lit (.int .u8 21), .lit (.int .u8 52), .lit (.int .u8 32), .lit (.int .u8 23), .lit (.int .u8 11), .lit (.int .u8 54), .lit (.int .u8 26), .lit (.int .u8 40), .lit (.int .u8 15), .lit (.int .u8 34), .lit (.int .u8 20), .lit (.int .u8 31), .lit (.int .u8 10), .lit (.int .u8 25), .lit (.int .u8 14), .lit (.int .u8 19), .lit (.int .u8 9), .lit (.int .u8 13), .lit (.int .u8 8), .lit (.int .u8 7), .lit (.int .u8 6)]
def laid_internal_strconv_uint64pow10 {H : Type} : DataW H := .agg [.lit (.int .u64 1), .lit (.int .u64 10), .lit (.int .u64 100), .lit (.int .u64 1000), .lit (.int .u64 10000), .lit (.int .u64 100000), .lit (.int .u64 1000000), .lit (.int .u64 10000000), .lit (.int .u64 100000000), .lit (.int .u64 1000000000), .lit (.int .u64 10000000000), .lit (.int .u64 100000000000), .lit (.int .u64 1000000000000), .lit (.int .u64 10000000000000), .lit (.int .u64 100000000000000), .lit (.int .u64 1000000000000000), .lit (.int .u64 10000000000000000), .lit (.int .u64 100000000000000000), .lit (.int .u64 1000000000000000000), .lit (.int .u64 10000000000000000000)]

/-- 'corveelaw05.FleetNames': WHATEVER THE INPUT: true; the input reads as it did. -/
def fleetNamesSpec : ChangeSpec := { name := "fleetNames", fn := fun _ => fun
  | [d] => { results := [.lit (.bool true)], args := [d] }
  | _ => none }
def fleetNamesRow : OpenClaim := { program := "yteoihdkaoipocaadoor", sum := "e59ebe15ae093024ddf157d509bd3e6112447d1952d304d256055d7936983668", func := "corvee/corveelaw05.FleetNames", spec := "fleetNames", inPlace := ["internal/bytealg.IndexByteString", "internal/bytealg.IndexString", "internal/bytealg.CountString"], unfollowed := true, recurses := true, named := ["internal/bytealg.MaxLen", "unicode/utf8.first", "unicode/utf8.acceptRanges"], apart := false, laid := [("unicode/utf8.acceptRanges", laid_unicode_utf8_acceptRanges), ("unicode/utf8.first", laid_unicode_utf8_first)] }
def FleetNamesSaid : Prop := fleetNamesRow.holds Tryd.pinned (OpenSpec.ofChange fleetNamesSpec)

/-- ITS FALSE NEIGHBOUR: 'it returns false'. Refute it at one input. -/
def fleetNamesWrong : ChangeSpec := { name := "fleetNames", fn := fun _ => fun
  | [d] => { results := [.lit (.bool false)], args := [d] }
  | _ => none }
def FleetNamesWrongFalsely : Prop := fleetNamesRow.holds Tryd.pinned (OpenSpec.ofChange fleetNamesWrong)

/-- 'corveelaw08.SpecParses': WHATEVER THE INPUT: true; the input reads as it did. -/
def specParsesSpec : ChangeSpec := { name := "specParses", fn := fun _ => fun
  | [d] => { results := [.lit (.bool true)], args := [d] }
  | _ => none }
def specParsesRow : OpenClaim := { program := "yteoihdkaoipocaadoor", sum := "e59ebe15ae093024ddf157d509bd3e6112447d1952d304d256055d7936983668", func := "corvee/corveelaw08.SpecParses", spec := "specParses", inPlace := ["internal/bytealg.CountString", "internal/bytealg.IndexByteString", "internal/bytealg.IndexString", "internal/abi.NoEscape", "internal/bytealg.MakeNoZero"], unfollowed := true, recurses := true, named := ["unicode/utf8.first", "unicode/utf8.acceptRanges", "internal/bytealg.MaxLen", "internal/strconv.uint64pow10", "math/bits.deBruijn32tab", "math/bits.deBruijn64tab"], apart := false, laid := [("math/bits.deBruijn32tab", laid_math_bits_deBruijn32tab), ("math/bits.deBruijn64tab", laid_math_bits_deBruijn64tab), ("internal/strconv.uint64pow10", laid_internal_strconv_uint64pow10), ("unicode/utf8.acceptRanges", laid_unicode_utf8_acceptRanges), ("unicode/utf8.first", laid_unicode_utf8_first)] }
def SpecParsesSaid : Prop := specParsesRow.holds Tryd.pinned (OpenSpec.ofChange specParsesSpec)

/-- ITS FALSE NEIGHBOUR: 'it returns false'. Refute it at one input. -/
def specParsesWrong : ChangeSpec := { name := "specParses", fn := fun _ => fun
  | [d] => { results := [.lit (.bool false)], args := [d] }
  | _ => none }
def SpecParsesWrongFalsely : Prop := specParsesRow.holds Tryd.pinned (OpenSpec.ofChange specParsesWrong)

/-- 'corveelaw08.SpecTexts': WHATEVER THE INPUT: true; the input reads as it did. -/
def specTextsSpec : ChangeSpec := { name := "specTexts", fn := fun _ => fun
  | [d] => { results := [.lit (.bool true)], args := [d] }
  | _ => none }
def specTextsRow : OpenClaim := { program := "yteoihdkaoipocaadoor", sum := "e59ebe15ae093024ddf157d509bd3e6112447d1952d304d256055d7936983668", func := "corvee/corveelaw08.SpecTexts", spec := "specTexts", inPlace := ["internal/bytealg.CountString", "internal/bytealg.IndexByteString", "internal/bytealg.IndexString", "internal/abi.NoEscape", "internal/bytealg.MakeNoZero"], unfollowed := true, recurses := true, named := ["unicode/utf8.first", "unicode/utf8.acceptRanges", "internal/bytealg.MaxLen", "internal/strconv.uint64pow10", "math/bits.deBruijn32tab", "math/bits.deBruijn64tab"], apart := false, laid := [("math/bits.deBruijn32tab", laid_math_bits_deBruijn32tab), ("math/bits.deBruijn64tab", laid_math_bits_deBruijn64tab), ("internal/strconv.uint64pow10", laid_internal_strconv_uint64pow10), ("unicode/utf8.acceptRanges", laid_unicode_utf8_acceptRanges), ("unicode/utf8.first", laid_unicode_utf8_first)] }
def SpecTextsSaid : Prop := specTextsRow.holds Tryd.pinned (OpenSpec.ofChange specTextsSpec)

/-- ITS FALSE NEIGHBOUR: 'it returns false'. Refute it at one input. -/
def specTextsWrong : ChangeSpec := { name := "specTexts", fn := fun _ => fun
  | [d] => { results := [.lit (.bool false)], args := [d] }
  | _ => none }
def SpecTextsWrongFalsely : Prop := specTextsRow.holds Tryd.pinned (OpenSpec.ofChange specTextsWrong)

/-- 'corveelaw08.SpecBack': WHATEVER THE INPUT: true; the input reads as it did. -/
def specBackSpec : ChangeSpec := { name := "specBack", fn := fun _ => fun
  | [d1, d2] => { results := [.lit (.bool true)], args := [d1, d2] }
  | _ => none }
def specBackRow : OpenClaim := { program := "yteoihdkaoipocaadoor", sum := "e59ebe15ae093024ddf157d509bd3e6112447d1952d304d256055d7936983668", func := "corvee/corveelaw08.SpecBack", spec := "specBack", inPlace := ["internal/bytealg.CountString", "internal/bytealg.IndexByteString", "internal/bytealg.IndexString", "internal/abi.NoEscape", "internal/bytealg.MakeNoZero"], unfollowed := true, recurses := true, named := ["unicode/utf8.first", "unicode/utf8.acceptRanges", "internal/bytealg.MaxLen", "internal/strconv.uint64pow10", "math/bits.deBruijn32tab", "math/bits.deBruijn64tab"], apart := false, laid := [("math/bits.deBruijn32tab", laid_math_bits_deBruijn32tab), ("math/bits.deBruijn64tab", laid_math_bits_deBruijn64tab), ("internal/strconv.uint64pow10", laid_internal_strconv_uint64pow10), ("unicode/utf8.acceptRanges", laid_unicode_utf8_acceptRanges), ("unicode/utf8.first", laid_unicode_utf8_first)] }
def SpecBackSaid : Prop := specBackRow.holds Tryd.pinned (OpenSpec.ofChange specBackSpec)

/-- ITS FALSE NEIGHBOUR: 'it returns false'. Refute it at one input. -/
def specBackWrong : ChangeSpec := { name := "specBack", fn := fun _ => fun
  | [d1, d2] => { results := [.lit (.bool false)], args := [d1, d2] }
  | _ => none }
def SpecBackWrongFalsely : Prop := specBackRow.holds Tryd.pinned (OpenSpec.ofChange specBackWrong)

/-- 'corveelaw08.SpecStops': WHATEVER THE INPUT: true; the input reads as it did. -/
def specStopsSpec : ChangeSpec := { name := "specStops", fn := fun _ => fun
  | [d] => { results := [.lit (.bool true)], args := [d] }
  | _ => none }
def specStopsRow : OpenClaim := { program := "yteoihdkaoipocaadoor", sum := "e59ebe15ae093024ddf157d509bd3e6112447d1952d304d256055d7936983668", func := "corvee/corveelaw08.SpecStops", spec := "specStops", inPlace := ["internal/bytealg.CountString", "internal/bytealg.IndexByteString", "internal/bytealg.IndexString", "internal/abi.NoEscape", "internal/bytealg.MakeNoZero"], unfollowed := true, recurses := true, named := ["unicode/utf8.first", "unicode/utf8.acceptRanges", "internal/bytealg.MaxLen", "internal/strconv.uint64pow10", "math/bits.deBruijn32tab", "math/bits.deBruijn64tab"], apart := false, laid := [("math/bits.deBruijn32tab", laid_math_bits_deBruijn32tab), ("math/bits.deBruijn64tab", laid_math_bits_deBruijn64tab), ("internal/strconv.uint64pow10", laid_internal_strconv_uint64pow10), ("unicode/utf8.acceptRanges", laid_unicode_utf8_acceptRanges), ("unicode/utf8.first", laid_unicode_utf8_first)] }
def SpecStopsSaid : Prop := specStopsRow.holds Tryd.pinned (OpenSpec.ofChange specStopsSpec)

/-- ITS FALSE NEIGHBOUR: 'it returns false'. Refute it at one input. -/
def specStopsWrong : ChangeSpec := { name := "specStops", fn := fun _ => fun
  | [d] => { results := [.lit (.bool false)], args := [d] }
  | _ => none }
def SpecStopsWrongFalsely : Prop := specStopsRow.holds Tryd.pinned (OpenSpec.ofChange specStopsWrong)

/-- 'corveelaw05.FleetReads': WHATEVER THE INPUT: true; the input reads as it did. -/
def fleetReadsSpec : ChangeSpec := { name := "fleetReads", fn := fun _ => fun
  | [d1, d2, d3] => { results := [.lit (.bool true)], args := [d1, d2, d3] }
  | _ => none }
def fleetReadsRow : OpenClaim := { program := "yteoihdkaoipocaadoor", sum := "e59ebe15ae093024ddf157d509bd3e6112447d1952d304d256055d7936983668", func := "corvee/corveelaw05.FleetReads", spec := "fleetReads", inPlace := ["internal/bytealg.IndexByteString", "internal/bytealg.IndexString", "internal/bytealg.CountString"], unfollowed := true, recurses := true, named := ["internal/bytealg.MaxLen", "unicode/utf8.first", "unicode/utf8.acceptRanges"], apart := false, laid := [("unicode/utf8.acceptRanges", laid_unicode_utf8_acceptRanges), ("unicode/utf8.first", laid_unicode_utf8_first)] }
def FleetReadsSaid : Prop := fleetReadsRow.holds Tryd.pinned (OpenSpec.ofChange fleetReadsSpec)

/-- ITS FALSE NEIGHBOUR: 'it returns false'. Refute it at one input. -/
def fleetReadsWrong : ChangeSpec := { name := "fleetReads", fn := fun _ => fun
  | [d1, d2, d3] => { results := [.lit (.bool false)], args := [d1, d2, d3] }
  | _ => none }
def FleetReadsWrongFalsely : Prop := fleetReadsRow.holds Tryd.pinned (OpenSpec.ofChange fleetReadsWrong)

/-- 'corveelaw05.FleetMakes': WHATEVER THE INPUT: true; the input reads as it did. -/
def fleetMakesSpec : ChangeSpec := { name := "fleetMakes", fn := fun _ => fun
  | [d] => { results := [.lit (.bool true)], args := [d] }
  | _ => none }
def fleetMakesRow : OpenClaim := { program := "yteoihdkaoipocaadoor", sum := "e59ebe15ae093024ddf157d509bd3e6112447d1952d304d256055d7936983668", func := "corvee/corveelaw05.FleetMakes", spec := "fleetMakes", inPlace := ["internal/bytealg.IndexByteString", "internal/bytealg.IndexString", "internal/bytealg.CountString"], unfollowed := true, recurses := true, named := ["internal/bytealg.MaxLen", "unicode/utf8.first", "unicode/utf8.acceptRanges"], apart := false, laid := [("unicode/utf8.acceptRanges", laid_unicode_utf8_acceptRanges), ("unicode/utf8.first", laid_unicode_utf8_first)] }
def FleetMakesSaid : Prop := fleetMakesRow.holds Tryd.pinned (OpenSpec.ofChange fleetMakesSpec)

/-- ITS FALSE NEIGHBOUR: 'it returns false'. Refute it at one input. -/
def fleetMakesWrong : ChangeSpec := { name := "fleetMakes", fn := fun _ => fun
  | [d] => { results := [.lit (.bool false)], args := [d] }
  | _ => none }
def FleetMakesWrongFalsely : Prop := fleetMakesRow.holds Tryd.pinned (OpenSpec.ofChange fleetMakesWrong)

/-- 'corveelaw08.SpecExpands': WHATEVER THE INPUT: true; the input reads as it did. -/
def specExpandsSpec : ChangeSpec := { name := "specExpands", fn := fun _ => fun
  | [d] => { results := [.lit (.bool true)], args := [d] }
  | _ => none }
def specExpandsRow : OpenClaim := { program := "yteoihdkaoipocaadoor", sum := "e59ebe15ae093024ddf157d509bd3e6112447d1952d304d256055d7936983668", func := "corvee/corveelaw08.SpecExpands", spec := "specExpands", inPlace := ["internal/bytealg.CountString", "internal/bytealg.IndexByteString", "internal/bytealg.IndexString", "internal/abi.NoEscape", "internal/bytealg.MakeNoZero"], unfollowed := true, recurses := true, named := ["unicode/utf8.first", "unicode/utf8.acceptRanges", "internal/bytealg.MaxLen", "internal/strconv.uint64pow10", "math/bits.deBruijn32tab", "math/bits.deBruijn64tab"], apart := false, laid := [("math/bits.deBruijn32tab", laid_math_bits_deBruijn32tab), ("math/bits.deBruijn64tab", laid_math_bits_deBruijn64tab), ("internal/strconv.uint64pow10", laid_internal_strconv_uint64pow10), ("unicode/utf8.acceptRanges", laid_unicode_utf8_acceptRanges), ("unicode/utf8.first", laid_unicode_utf8_first)] }
def SpecExpandsSaid : Prop := specExpandsRow.holds Tryd.pinned (OpenSpec.ofChange specExpandsSpec)

/-- ITS FALSE NEIGHBOUR: 'it returns false'. Refute it at one input. -/
def specExpandsWrong : ChangeSpec := { name := "specExpands", fn := fun _ => fun
  | [d] => { results := [.lit (.bool false)], args := [d] }
  | _ => none }
def SpecExpandsWrongFalsely : Prop := specExpandsRow.holds Tryd.pinned (OpenSpec.ofChange specExpandsWrong)

/-- 'corveelaw08.SpecSmaller': WHATEVER THE INPUT: true; the input reads as it did. -/
def specSmallerSpec : ChangeSpec := { name := "specSmaller", fn := fun _ => fun
  | [d1, d2, d3] => { results := [.lit (.bool true)], args := [d1, d2, d3] }
  | _ => none }
def specSmallerRow : OpenClaim := { program := "yteoihdkaoipocaadoor", sum := "e59ebe15ae093024ddf157d509bd3e6112447d1952d304d256055d7936983668", func := "corvee/corveelaw08.SpecSmaller", spec := "specSmaller", inPlace := ["internal/bytealg.CountString", "internal/bytealg.IndexByteString", "internal/bytealg.IndexString", "internal/abi.NoEscape", "internal/bytealg.MakeNoZero"], unfollowed := true, recurses := true, named := ["unicode/utf8.first", "unicode/utf8.acceptRanges", "internal/bytealg.MaxLen", "internal/strconv.uint64pow10", "math/bits.deBruijn32tab", "math/bits.deBruijn64tab"], apart := false, laid := [("math/bits.deBruijn32tab", laid_math_bits_deBruijn32tab), ("math/bits.deBruijn64tab", laid_math_bits_deBruijn64tab), ("internal/strconv.uint64pow10", laid_internal_strconv_uint64pow10), ("unicode/utf8.acceptRanges", laid_unicode_utf8_acceptRanges), ("unicode/utf8.first", laid_unicode_utf8_first)] }
def SpecSmallerSaid : Prop := specSmallerRow.holds Tryd.pinned (OpenSpec.ofChange specSmallerSpec)

/-- ITS FALSE NEIGHBOUR: 'it returns false'. Refute it at one input. -/
def specSmallerWrong : ChangeSpec := { name := "specSmaller", fn := fun _ => fun
  | [d1, d2, d3] => { results := [.lit (.bool false)], args := [d1, d2, d3] }
  | _ => none }
def SpecSmallerWrongFalsely : Prop := specSmallerRow.holds Tryd.pinned (OpenSpec.ofChange specSmallerWrong)

/-- 'corveelaw13.EventBack': WHATEVER THE INPUT: true; the input reads as it did. -/
def eventBackSpec : ChangeSpec := { name := "eventBack", fn := fun _ => fun
  | [d] => { results := [.lit (.bool true)], args := [d] }
  | _ => none }
def eventBackRow : OpenClaim := { program := "yteoihdkaoipocaadoor", sum := "e59ebe15ae093024ddf157d509bd3e6112447d1952d304d256055d7936983668", func := "corvee/corveelaw13.EventBack", spec := "eventBack", inPlace := ["internal/bytealg.CountString", "internal/bytealg.IndexByteString", "internal/bytealg.IndexString", "internal/abi.NoEscape", "internal/bytealg.MakeNoZero"], unfollowed := true, recurses := true, named := ["unicode/utf8.first", "unicode/utf8.acceptRanges", "internal/bytealg.MaxLen", "internal/strconv.uint64pow10", "math/bits.deBruijn32tab", "math/bits.deBruijn64tab"], apart := false, laid := [("math/bits.deBruijn32tab", laid_math_bits_deBruijn32tab), ("math/bits.deBruijn64tab", laid_math_bits_deBruijn64tab), ("internal/strconv.uint64pow10", laid_internal_strconv_uint64pow10), ("unicode/utf8.acceptRanges", laid_unicode_utf8_acceptRanges), ("unicode/utf8.first", laid_unicode_utf8_first)] }
def EventBackSaid : Prop := eventBackRow.holds Tryd.pinned (OpenSpec.ofChange eventBackSpec)

/-- ITS FALSE NEIGHBOUR: 'it returns false'. Refute it at one input. -/
def eventBackWrong : ChangeSpec := { name := "eventBack", fn := fun _ => fun
  | [d] => { results := [.lit (.bool false)], args := [d] }
  | _ => none }
def EventBackWrongFalsely : Prop := eventBackRow.holds Tryd.pinned (OpenSpec.ofChange eventBackWrong)

/-- 'corveelaw13.EventOne': WHATEVER THE INPUT: true; the input reads as it did. -/
def eventOneSpec : ChangeSpec := { name := "eventOne", fn := fun _ => fun
  | [d] => { results := [.lit (.bool true)], args := [d] }
  | _ => none }
def eventOneRow : OpenClaim := { program := "yteoihdkaoipocaadoor", sum := "e59ebe15ae093024ddf157d509bd3e6112447d1952d304d256055d7936983668", func := "corvee/corveelaw13.EventOne", spec := "eventOne", inPlace := ["internal/bytealg.CountString", "internal/bytealg.IndexByteString", "internal/bytealg.IndexString", "internal/abi.NoEscape", "internal/bytealg.MakeNoZero"], unfollowed := true, recurses := true, named := ["unicode/utf8.first", "unicode/utf8.acceptRanges", "internal/bytealg.MaxLen", "internal/strconv.uint64pow10", "math/bits.deBruijn32tab", "math/bits.deBruijn64tab"], apart := false, laid := [("math/bits.deBruijn32tab", laid_math_bits_deBruijn32tab), ("math/bits.deBruijn64tab", laid_math_bits_deBruijn64tab), ("internal/strconv.uint64pow10", laid_internal_strconv_uint64pow10), ("unicode/utf8.acceptRanges", laid_unicode_utf8_acceptRanges), ("unicode/utf8.first", laid_unicode_utf8_first)] }
def EventOneSaid : Prop := eventOneRow.holds Tryd.pinned (OpenSpec.ofChange eventOneSpec)

/-- ITS FALSE NEIGHBOUR: 'it returns false'. Refute it at one input. -/
def eventOneWrong : ChangeSpec := { name := "eventOne", fn := fun _ => fun
  | [d] => { results := [.lit (.bool false)], args := [d] }
  | _ => none }
def EventOneWrongFalsely : Prop := eventOneRow.holds Tryd.pinned (OpenSpec.ofChange eventOneWrong)

/-- 'corveelaw13.EventCut': WHATEVER THE INPUT: true; the input reads as it did. -/
def eventCutSpec : ChangeSpec := { name := "eventCut", fn := fun _ => fun
  | [d1, d2] => { results := [.lit (.bool true)], args := [d1, d2] }
  | _ => none }
def eventCutRow : OpenClaim := { program := "yteoihdkaoipocaadoor", sum := "e59ebe15ae093024ddf157d509bd3e6112447d1952d304d256055d7936983668", func := "corvee/corveelaw13.EventCut", spec := "eventCut", inPlace := ["internal/bytealg.CountString", "internal/bytealg.IndexByteString", "internal/bytealg.IndexString", "internal/abi.NoEscape", "internal/bytealg.MakeNoZero"], unfollowed := true, recurses := true, named := ["unicode/utf8.first", "unicode/utf8.acceptRanges", "internal/bytealg.MaxLen", "internal/strconv.uint64pow10", "math/bits.deBruijn32tab", "math/bits.deBruijn64tab"], apart := false, laid := [("math/bits.deBruijn32tab", laid_math_bits_deBruijn32tab), ("math/bits.deBruijn64tab", laid_math_bits_deBruijn64tab), ("internal/strconv.uint64pow10", laid_internal_strconv_uint64pow10), ("unicode/utf8.acceptRanges", laid_unicode_utf8_acceptRanges), ("unicode/utf8.first", laid_unicode_utf8_first)] }
def EventCutSaid : Prop := eventCutRow.holds Tryd.pinned (OpenSpec.ofChange eventCutSpec)

/-- ITS FALSE NEIGHBOUR: 'it returns false'. Refute it at one input. -/
def eventCutWrong : ChangeSpec := { name := "eventCut", fn := fun _ => fun
  | [d1, d2] => { results := [.lit (.bool false)], args := [d1, d2] }
  | _ => none }
def EventCutWrongFalsely : Prop := eventCutRow.holds Tryd.pinned (OpenSpec.ofChange eventCutWrong)

/-- 'corveelaw05.FleetTexts': WHATEVER THE INPUT: true; the input reads as it did. -/
def fleetTextsSpec : ChangeSpec := { name := "fleetTexts", fn := fun _ => fun
  | [d] => { results := [.lit (.bool true)], args := [d] }
  | _ => none }
def fleetTextsRow : OpenClaim := { program := "yteoihdkaoipocaadoor", sum := "e59ebe15ae093024ddf157d509bd3e6112447d1952d304d256055d7936983668", func := "corvee/corveelaw05.FleetTexts", spec := "fleetTexts", inPlace := ["internal/bytealg.IndexByteString", "internal/bytealg.IndexString", "internal/bytealg.CountString", "internal/abi.NoEscape", "internal/bytealg.MakeNoZero"], unfollowed := true, recurses := true, named := ["internal/bytealg.MaxLen", "unicode/utf8.first", "unicode/utf8.acceptRanges", "internal/strconv.uint64pow10", "math/bits.deBruijn32tab", "math/bits.deBruijn64tab"], apart := false, laid := [("math/bits.deBruijn32tab", laid_math_bits_deBruijn32tab), ("math/bits.deBruijn64tab", laid_math_bits_deBruijn64tab), ("internal/strconv.uint64pow10", laid_internal_strconv_uint64pow10), ("unicode/utf8.acceptRanges", laid_unicode_utf8_acceptRanges), ("unicode/utf8.first", laid_unicode_utf8_first)] }
def FleetTextsSaid : Prop := fleetTextsRow.holds Tryd.pinned (OpenSpec.ofChange fleetTextsSpec)

/-- ITS FALSE NEIGHBOUR: 'it returns false'. Refute it at one input. -/
def fleetTextsWrong : ChangeSpec := { name := "fleetTexts", fn := fun _ => fun
  | [d] => { results := [.lit (.bool false)], args := [d] }
  | _ => none }
def FleetTextsWrongFalsely : Prop := fleetTextsRow.holds Tryd.pinned (OpenSpec.ofChange fleetTextsWrong)

/-- 'corveelaw05.FleetBack': WHATEVER THE INPUT: true; the input reads as it did. -/
def fleetBackSpec : ChangeSpec := { name := "fleetBack", fn := fun _ => fun
  | [d] => { results := [.lit (.bool true)], args := [d] }
  | _ => none }
def fleetBackRow : OpenClaim := { program := "yteoihdkaoipocaadoor", sum := "e59ebe15ae093024ddf157d509bd3e6112447d1952d304d256055d7936983668", func := "corvee/corveelaw05.FleetBack", spec := "fleetBack", inPlace := ["internal/bytealg.IndexByteString", "internal/bytealg.IndexString", "internal/bytealg.CountString", "internal/abi.NoEscape", "internal/bytealg.MakeNoZero"], unfollowed := true, recurses := true, named := ["internal/bytealg.MaxLen", "unicode/utf8.first", "unicode/utf8.acceptRanges", "internal/strconv.uint64pow10", "math/bits.deBruijn32tab", "math/bits.deBruijn64tab"], apart := false, laid := [("math/bits.deBruijn32tab", laid_math_bits_deBruijn32tab), ("math/bits.deBruijn64tab", laid_math_bits_deBruijn64tab), ("internal/strconv.uint64pow10", laid_internal_strconv_uint64pow10), ("unicode/utf8.acceptRanges", laid_unicode_utf8_acceptRanges), ("unicode/utf8.first", laid_unicode_utf8_first)] }
def FleetBackSaid : Prop := fleetBackRow.holds Tryd.pinned (OpenSpec.ofChange fleetBackSpec)

/-- ITS FALSE NEIGHBOUR: 'it returns false'. Refute it at one input. -/
def fleetBackWrong : ChangeSpec := { name := "fleetBack", fn := fun _ => fun
  | [d] => { results := [.lit (.bool false)], args := [d] }
  | _ => none }
def FleetBackWrongFalsely : Prop := fleetBackRow.holds Tryd.pinned (OpenSpec.ofChange fleetBackWrong)

/-- 'corveelaw05.FleetOwn': WHATEVER THE INPUT: true; the input reads as it did. -/
def fleetOwnSpec : ChangeSpec := { name := "fleetOwn", fn := fun _ => fun
  | [d1, d2] => { results := [.lit (.bool true)], args := [d1, d2] }
  | _ => none }
def fleetOwnRow : OpenClaim := { program := "yteoihdkaoipocaadoor", sum := "e59ebe15ae093024ddf157d509bd3e6112447d1952d304d256055d7936983668", func := "corvee/corveelaw05.FleetOwn", spec := "fleetOwn", inPlace := ["internal/bytealg.IndexByteString", "internal/bytealg.IndexString", "internal/bytealg.CountString", "internal/abi.NoEscape", "internal/bytealg.MakeNoZero"], unfollowed := true, recurses := true, named := ["internal/bytealg.MaxLen", "unicode/utf8.first", "unicode/utf8.acceptRanges", "internal/strconv.uint64pow10", "math/bits.deBruijn32tab", "math/bits.deBruijn64tab"], apart := false, laid := [("math/bits.deBruijn32tab", laid_math_bits_deBruijn32tab), ("math/bits.deBruijn64tab", laid_math_bits_deBruijn64tab), ("internal/strconv.uint64pow10", laid_internal_strconv_uint64pow10), ("unicode/utf8.acceptRanges", laid_unicode_utf8_acceptRanges), ("unicode/utf8.first", laid_unicode_utf8_first)] }
def FleetOwnSaid : Prop := fleetOwnRow.holds Tryd.pinned (OpenSpec.ofChange fleetOwnSpec)

/-- ITS FALSE NEIGHBOUR: 'it returns false'. Refute it at one input. -/
def fleetOwnWrong : ChangeSpec := { name := "fleetOwn", fn := fun _ => fun
  | [d1, d2] => { results := [.lit (.bool false)], args := [d1, d2] }
  | _ => none }
def FleetOwnWrongFalsely : Prop := fleetOwnRow.holds Tryd.pinned (OpenSpec.ofChange fleetOwnWrong)

/- THE SECOND FORM. 'bulk': how many values and letters a reading holds, each counted each time it is reached (what is shared counts as often as it is met; a slice's spare places count too). A statement '..UptoSaid' is the law's where the arguments, and the package variables that the reading takes, are together of bulk at most 1048576: NARROWER than '..Said'. Prove '..Said' where nothing that the law and all that it calls make is longer than what came in: it says more and counts as full. Else prove '..UptoSaid'. A law counts once. -/
mutual
def uptoBulk {H : Type} : DataW H → Nat
  | .lit (.string bytes) => bytes.length + 1
  | .lit _ => 1
  | .nil => 1
  | .ptr d => uptoBulk d + 1
  | .slice elems spare => uptoBulkAll elems + uptoBulkAll spare + 1
  | .agg parts => uptoBulkAll parts + 1
  | .iface _ d => uptoBulk d + 1
  | .map entries => uptoBulkEntries entries + 1
  | .held _ => 1
def uptoBulkAll {H : Type} : List (DataW H) → Nat
  | [] => 0
  | d :: r => uptoBulk d + uptoBulkAll r
def uptoBulkEntries {H : Type} : List (Lit × DataW H) → Nat
  | [] => 0
  | x :: r => uptoBulkEntry x + uptoBulkEntries r
def uptoBulkEntry {H : Type} : Lit × DataW H → Nat
  | (.string bytes, d) => bytes.length + uptoBulk d + 1
  | (_, d) => uptoBulk d + 1
 end
def uptoSmall : (H : Type) → List (DataW H) → Bool := fun _ ds => decide (uptoBulkAll ds ≤ 1048576)
def OpenSpec.upto (s : _root_.Go.ChangeSpec) : _root_.Go.OpenSpec := { _root_.Go.OpenSpec.ofChange s with cond := some uptoSmall }

/-- 'corveelaw05.FleetNames', WHERE WHAT IT READS IS OF BULK AT MOST 1048576: true; the input reads as it did. -/
def fleetNamesUptoRow : OpenClaim := { program := "yteoihdkaoipocaadoor", sum := "e59ebe15ae093024ddf157d509bd3e6112447d1952d304d256055d7936983668", func := "corvee/corveelaw05.FleetNames", spec := "fleetNames", inPlace := ["internal/bytealg.IndexByteString", "internal/bytealg.IndexString", "internal/bytealg.CountString"], unfollowed := true, recurses := true, named := ["internal/bytealg.MaxLen", "unicode/utf8.first", "unicode/utf8.acceptRanges"], apart := false, laid := [("unicode/utf8.acceptRanges", laid_unicode_utf8_acceptRanges), ("unicode/utf8.first", laid_unicode_utf8_first)], narrowed := true }
def FleetNamesUptoSaid : Prop := fleetNamesUptoRow.holds Tryd.pinned (OpenSpec.upto fleetNamesSpec)

/-- 'corveelaw08.SpecParses', WHERE WHAT IT READS IS OF BULK AT MOST 1048576: true; the input reads as it did. -/
def specParsesUptoRow : OpenClaim := { program := "yteoihdkaoipocaadoor", sum := "e59ebe15ae093024ddf157d509bd3e6112447d1952d304d256055d7936983668", func := "corvee/corveelaw08.SpecParses", spec := "specParses", inPlace := ["internal/bytealg.CountString", "internal/bytealg.IndexByteString", "internal/bytealg.IndexString", "internal/abi.NoEscape", "internal/bytealg.MakeNoZero"], unfollowed := true, recurses := true, named := ["unicode/utf8.first", "unicode/utf8.acceptRanges", "internal/bytealg.MaxLen", "internal/strconv.uint64pow10", "math/bits.deBruijn32tab", "math/bits.deBruijn64tab"], apart := false, laid := [("math/bits.deBruijn32tab", laid_math_bits_deBruijn32tab), ("math/bits.deBruijn64tab", laid_math_bits_deBruijn64tab), ("internal/strconv.uint64pow10", laid_internal_strconv_uint64pow10), ("unicode/utf8.acceptRanges", laid_unicode_utf8_acceptRanges), ("unicode/utf8.first", laid_unicode_utf8_first)], narrowed := true }
def SpecParsesUptoSaid : Prop := specParsesUptoRow.holds Tryd.pinned (OpenSpec.upto specParsesSpec)

/-- 'corveelaw08.SpecTexts', WHERE WHAT IT READS IS OF BULK AT MOST 1048576: true; the input reads as it did. -/
def specTextsUptoRow : OpenClaim := { program := "yteoihdkaoipocaadoor", sum := "e59ebe15ae093024ddf157d509bd3e6112447d1952d304d256055d7936983668", func := "corvee/corveelaw08.SpecTexts", spec := "specTexts", inPlace := ["internal/bytealg.CountString", "internal/bytealg.IndexByteString", "internal/bytealg.IndexString", "internal/abi.NoEscape", "internal/bytealg.MakeNoZero"], unfollowed := true, recurses := true, named := ["unicode/utf8.first", "unicode/utf8.acceptRanges", "internal/bytealg.MaxLen", "internal/strconv.uint64pow10", "math/bits.deBruijn32tab", "math/bits.deBruijn64tab"], apart := false, laid := [("math/bits.deBruijn32tab", laid_math_bits_deBruijn32tab), ("math/bits.deBruijn64tab", laid_math_bits_deBruijn64tab), ("internal/strconv.uint64pow10", laid_internal_strconv_uint64pow10), ("unicode/utf8.acceptRanges", laid_unicode_utf8_acceptRanges), ("unicode/utf8.first", laid_unicode_utf8_first)], narrowed := true }
def SpecTextsUptoSaid : Prop := specTextsUptoRow.holds Tryd.pinned (OpenSpec.upto specTextsSpec)

/-- 'corveelaw08.SpecBack', WHERE WHAT IT READS IS OF BULK AT MOST 1048576: true; the input reads as it did. -/
def specBackUptoRow : OpenClaim := { program := "yteoihdkaoipocaadoor", sum := "e59ebe15ae093024ddf157d509bd3e6112447d1952d304d256055d7936983668", func := "corvee/corveelaw08.SpecBack", spec := "specBack", inPlace := ["internal/bytealg.CountString", "internal/bytealg.IndexByteString", "internal/bytealg.IndexString", "internal/abi.NoEscape", "internal/bytealg.MakeNoZero"], unfollowed := true, recurses := true, named := ["unicode/utf8.first", "unicode/utf8.acceptRanges", "internal/bytealg.MaxLen", "internal/strconv.uint64pow10", "math/bits.deBruijn32tab", "math/bits.deBruijn64tab"], apart := false, laid := [("math/bits.deBruijn32tab", laid_math_bits_deBruijn32tab), ("math/bits.deBruijn64tab", laid_math_bits_deBruijn64tab), ("internal/strconv.uint64pow10", laid_internal_strconv_uint64pow10), ("unicode/utf8.acceptRanges", laid_unicode_utf8_acceptRanges), ("unicode/utf8.first", laid_unicode_utf8_first)], narrowed := true }
def SpecBackUptoSaid : Prop := specBackUptoRow.holds Tryd.pinned (OpenSpec.upto specBackSpec)

/-- 'corveelaw08.SpecStops', WHERE WHAT IT READS IS OF BULK AT MOST 1048576: true; the input reads as it did. -/
def specStopsUptoRow : OpenClaim := { program := "yteoihdkaoipocaadoor", sum := "e59ebe15ae093024ddf157d509bd3e6112447d1952d304d256055d7936983668", func := "corvee/corveelaw08.SpecStops", spec := "specStops", inPlace := ["internal/bytealg.CountString", "internal/bytealg.IndexByteString", "internal/bytealg.IndexString", "internal/abi.NoEscape", "internal/bytealg.MakeNoZero"], unfollowed := true, recurses := true, named := ["unicode/utf8.first", "unicode/utf8.acceptRanges", "internal/bytealg.MaxLen", "internal/strconv.uint64pow10", "math/bits.deBruijn32tab", "math/bits.deBruijn64tab"], apart := false, laid := [("math/bits.deBruijn32tab", laid_math_bits_deBruijn32tab), ("math/bits.deBruijn64tab", laid_math_bits_deBruijn64tab), ("internal/strconv.uint64pow10", laid_internal_strconv_uint64pow10), ("unicode/utf8.acceptRanges", laid_unicode_utf8_acceptRanges), ("unicode/utf8.first", laid_unicode_utf8_first)], narrowed := true }
def SpecStopsUptoSaid : Prop := specStopsUptoRow.holds Tryd.pinned (OpenSpec.upto specStopsSpec)

/-- 'corveelaw05.FleetReads', WHERE WHAT IT READS IS OF BULK AT MOST 1048576: true; the input reads as it did. -/
def fleetReadsUptoRow : OpenClaim := { program := "yteoihdkaoipocaadoor", sum := "e59ebe15ae093024ddf157d509bd3e6112447d1952d304d256055d7936983668", func := "corvee/corveelaw05.FleetReads", spec := "fleetReads", inPlace := ["internal/bytealg.IndexByteString", "internal/bytealg.IndexString", "internal/bytealg.CountString"], unfollowed := true, recurses := true, named := ["internal/bytealg.MaxLen", "unicode/utf8.first", "unicode/utf8.acceptRanges"], apart := false, laid := [("unicode/utf8.acceptRanges", laid_unicode_utf8_acceptRanges), ("unicode/utf8.first", laid_unicode_utf8_first)], narrowed := true }
def FleetReadsUptoSaid : Prop := fleetReadsUptoRow.holds Tryd.pinned (OpenSpec.upto fleetReadsSpec)

/-- 'corveelaw05.FleetMakes', WHERE WHAT IT READS IS OF BULK AT MOST 1048576: true; the input reads as it did. -/
def fleetMakesUptoRow : OpenClaim := { program := "yteoihdkaoipocaadoor", sum := "e59ebe15ae093024ddf157d509bd3e6112447d1952d304d256055d7936983668", func := "corvee/corveelaw05.FleetMakes", spec := "fleetMakes", inPlace := ["internal/bytealg.IndexByteString", "internal/bytealg.IndexString", "internal/bytealg.CountString"], unfollowed := true, recurses := true, named := ["internal/bytealg.MaxLen", "unicode/utf8.first", "unicode/utf8.acceptRanges"], apart := false, laid := [("unicode/utf8.acceptRanges", laid_unicode_utf8_acceptRanges), ("unicode/utf8.first", laid_unicode_utf8_first)], narrowed := true }
def FleetMakesUptoSaid : Prop := fleetMakesUptoRow.holds Tryd.pinned (OpenSpec.upto fleetMakesSpec)

/-- 'corveelaw08.SpecExpands', WHERE WHAT IT READS IS OF BULK AT MOST 1048576: true; the input reads as it did. -/
def specExpandsUptoRow : OpenClaim := { program := "yteoihdkaoipocaadoor", sum := "e59ebe15ae093024ddf157d509bd3e6112447d1952d304d256055d7936983668", func := "corvee/corveelaw08.SpecExpands", spec := "specExpands", inPlace := ["internal/bytealg.CountString", "internal/bytealg.IndexByteString", "internal/bytealg.IndexString", "internal/abi.NoEscape", "internal/bytealg.MakeNoZero"], unfollowed := true, recurses := true, named := ["unicode/utf8.first", "unicode/utf8.acceptRanges", "internal/bytealg.MaxLen", "internal/strconv.uint64pow10", "math/bits.deBruijn32tab", "math/bits.deBruijn64tab"], apart := false, laid := [("math/bits.deBruijn32tab", laid_math_bits_deBruijn32tab), ("math/bits.deBruijn64tab", laid_math_bits_deBruijn64tab), ("internal/strconv.uint64pow10", laid_internal_strconv_uint64pow10), ("unicode/utf8.acceptRanges", laid_unicode_utf8_acceptRanges), ("unicode/utf8.first", laid_unicode_utf8_first)], narrowed := true }
def SpecExpandsUptoSaid : Prop := specExpandsUptoRow.holds Tryd.pinned (OpenSpec.upto specExpandsSpec)

/-- 'corveelaw08.SpecSmaller', WHERE WHAT IT READS IS OF BULK AT MOST 1048576: true; the input reads as it did. -/
def specSmallerUptoRow : OpenClaim := { program := "yteoihdkaoipocaadoor", sum := "e59ebe15ae093024ddf157d509bd3e6112447d1952d304d256055d7936983668", func := "corvee/corveelaw08.SpecSmaller", spec := "specSmaller", inPlace := ["internal/bytealg.CountString", "internal/bytealg.IndexByteString", "internal/bytealg.IndexString", "internal/abi.NoEscape", "internal/bytealg.MakeNoZero"], unfollowed := true, recurses := true, named := ["unicode/utf8.first", "unicode/utf8.acceptRanges", "internal/bytealg.MaxLen", "internal/strconv.uint64pow10", "math/bits.deBruijn32tab", "math/bits.deBruijn64tab"], apart := false, laid := [("math/bits.deBruijn32tab", laid_math_bits_deBruijn32tab), ("math/bits.deBruijn64tab", laid_math_bits_deBruijn64tab), ("internal/strconv.uint64pow10", laid_internal_strconv_uint64pow10), ("unicode/utf8.acceptRanges", laid_unicode_utf8_acceptRanges), ("unicode/utf8.first", laid_unicode_utf8_first)], narrowed := true }
def SpecSmallerUptoSaid : Prop := specSmallerUptoRow.holds Tryd.pinned (OpenSpec.upto specSmallerSpec)

/-- 'corveelaw13.EventBack', WHERE WHAT IT READS IS OF BULK AT MOST 1048576: true; the input reads as it did. -/
def eventBackUptoRow : OpenClaim := { program := "yteoihdkaoipocaadoor", sum := "e59ebe15ae093024ddf157d509bd3e6112447d1952d304d256055d7936983668", func := "corvee/corveelaw13.EventBack", spec := "eventBack", inPlace := ["internal/bytealg.CountString", "internal/bytealg.IndexByteString", "internal/bytealg.IndexString", "internal/abi.NoEscape", "internal/bytealg.MakeNoZero"], unfollowed := true, recurses := true, named := ["unicode/utf8.first", "unicode/utf8.acceptRanges", "internal/bytealg.MaxLen", "internal/strconv.uint64pow10", "math/bits.deBruijn32tab", "math/bits.deBruijn64tab"], apart := false, laid := [("math/bits.deBruijn32tab", laid_math_bits_deBruijn32tab), ("math/bits.deBruijn64tab", laid_math_bits_deBruijn64tab), ("internal/strconv.uint64pow10", laid_internal_strconv_uint64pow10), ("unicode/utf8.acceptRanges", laid_unicode_utf8_acceptRanges), ("unicode/utf8.first", laid_unicode_utf8_first)], narrowed := true }
def EventBackUptoSaid : Prop := eventBackUptoRow.holds Tryd.pinned (OpenSpec.upto eventBackSpec)

/-- 'corveelaw13.EventOne', WHERE WHAT IT READS IS OF BULK AT MOST 1048576: true; the input reads as it did. -/
def eventOneUptoRow : OpenClaim := { program := "yteoihdkaoipocaadoor", sum := "e59ebe15ae093024ddf157d509bd3e6112447d1952d304d256055d7936983668", func := "corvee/corveelaw13.EventOne", spec := "eventOne", inPlace := ["internal/bytealg.CountString", "internal/bytealg.IndexByteString", "internal/bytealg.IndexString", "internal/abi.NoEscape", "internal/bytealg.MakeNoZero"], unfollowed := true, recurses := true, named := ["unicode/utf8.first", "unicode/utf8.acceptRanges", "internal/bytealg.MaxLen", "internal/strconv.uint64pow10", "math/bits.deBruijn32tab", "math/bits.deBruijn64tab"], apart := false, laid := [("math/bits.deBruijn32tab", laid_math_bits_deBruijn32tab), ("math/bits.deBruijn64tab", laid_math_bits_deBruijn64tab), ("internal/strconv.uint64pow10", laid_internal_strconv_uint64pow10), ("unicode/utf8.acceptRanges", laid_unicode_utf8_acceptRanges), ("unicode/utf8.first", laid_unicode_utf8_first)], narrowed := true }
def EventOneUptoSaid : Prop := eventOneUptoRow.holds Tryd.pinned (OpenSpec.upto eventOneSpec)

/-- 'corveelaw13.EventCut', WHERE WHAT IT READS IS OF BULK AT MOST 1048576: true; the input reads as it did. -/
def eventCutUptoRow : OpenClaim := { program := "yteoihdkaoipocaadoor", sum := "e59ebe15ae093024ddf157d509bd3e6112447d1952d304d256055d7936983668", func := "corvee/corveelaw13.EventCut", spec := "eventCut", inPlace := ["internal/bytealg.CountString", "internal/bytealg.IndexByteString", "internal/bytealg.IndexString", "internal/abi.NoEscape", "internal/bytealg.MakeNoZero"], unfollowed := true, recurses := true, named := ["unicode/utf8.first", "unicode/utf8.acceptRanges", "internal/bytealg.MaxLen", "internal/strconv.uint64pow10", "math/bits.deBruijn32tab", "math/bits.deBruijn64tab"], apart := false, laid := [("math/bits.deBruijn32tab", laid_math_bits_deBruijn32tab), ("math/bits.deBruijn64tab", laid_math_bits_deBruijn64tab), ("internal/strconv.uint64pow10", laid_internal_strconv_uint64pow10), ("unicode/utf8.acceptRanges", laid_unicode_utf8_acceptRanges), ("unicode/utf8.first", laid_unicode_utf8_first)], narrowed := true }
def EventCutUptoSaid : Prop := eventCutUptoRow.holds Tryd.pinned (OpenSpec.upto eventCutSpec)

/-- 'corveelaw05.FleetTexts', WHERE WHAT IT READS IS OF BULK AT MOST 1048576: true; the input reads as it did. -/
def fleetTextsUptoRow : OpenClaim := { program := "yteoihdkaoipocaadoor", sum := "e59ebe15ae093024ddf157d509bd3e6112447d1952d304d256055d7936983668", func := "corvee/corveelaw05.FleetTexts", spec := "fleetTexts", inPlace := ["internal/bytealg.IndexByteString", "internal/bytealg.IndexString", "internal/bytealg.CountString", "internal/abi.NoEscape", "internal/bytealg.MakeNoZero"], unfollowed := true, recurses := true, named := ["internal/bytealg.MaxLen", "unicode/utf8.first", "unicode/utf8.acceptRanges", "internal/strconv.uint64pow10", "math/bits.deBruijn32tab", "math/bits.deBruijn64tab"], apart := false, laid := [("math/bits.deBruijn32tab", laid_math_bits_deBruijn32tab), ("math/bits.deBruijn64tab", laid_math_bits_deBruijn64tab), ("internal/strconv.uint64pow10", laid_internal_strconv_uint64pow10), ("unicode/utf8.acceptRanges", laid_unicode_utf8_acceptRanges), ("unicode/utf8.first", laid_unicode_utf8_first)], narrowed := true }
def FleetTextsUptoSaid : Prop := fleetTextsUptoRow.holds Tryd.pinned (OpenSpec.upto fleetTextsSpec)

/-- 'corveelaw05.FleetBack', WHERE WHAT IT READS IS OF BULK AT MOST 1048576: true; the input reads as it did. -/
def fleetBackUptoRow : OpenClaim := { program := "yteoihdkaoipocaadoor", sum := "e59ebe15ae093024ddf157d509bd3e6112447d1952d304d256055d7936983668", func := "corvee/corveelaw05.FleetBack", spec := "fleetBack", inPlace := ["internal/bytealg.IndexByteString", "internal/bytealg.IndexString", "internal/bytealg.CountString", "internal/abi.NoEscape", "internal/bytealg.MakeNoZero"], unfollowed := true, recurses := true, named := ["internal/bytealg.MaxLen", "unicode/utf8.first", "unicode/utf8.acceptRanges", "internal/strconv.uint64pow10", "math/bits.deBruijn32tab", "math/bits.deBruijn64tab"], apart := false, laid := [("math/bits.deBruijn32tab", laid_math_bits_deBruijn32tab), ("math/bits.deBruijn64tab", laid_math_bits_deBruijn64tab), ("internal/strconv.uint64pow10", laid_internal_strconv_uint64pow10), ("unicode/utf8.acceptRanges", laid_unicode_utf8_acceptRanges), ("unicode/utf8.first", laid_unicode_utf8_first)], narrowed := true }
def FleetBackUptoSaid : Prop := fleetBackUptoRow.holds Tryd.pinned (OpenSpec.upto fleetBackSpec)

/-- 'corveelaw05.FleetOwn', WHERE WHAT IT READS IS OF BULK AT MOST 1048576: true; the input reads as it did. -/
def fleetOwnUptoRow : OpenClaim := { program := "yteoihdkaoipocaadoor", sum := "e59ebe15ae093024ddf157d509bd3e6112447d1952d304d256055d7936983668", func := "corvee/corveelaw05.FleetOwn", spec := "fleetOwn", inPlace := ["internal/bytealg.IndexByteString", "internal/bytealg.IndexString", "internal/bytealg.CountString", "internal/abi.NoEscape", "internal/bytealg.MakeNoZero"], unfollowed := true, recurses := true, named := ["internal/bytealg.MaxLen", "unicode/utf8.first", "unicode/utf8.acceptRanges", "internal/strconv.uint64pow10", "math/bits.deBruijn32tab", "math/bits.deBruijn64tab"], apart := false, laid := [("math/bits.deBruijn32tab", laid_math_bits_deBruijn32tab), ("math/bits.deBruijn64tab", laid_math_bits_deBruijn64tab), ("internal/strconv.uint64pow10", laid_internal_strconv_uint64pow10), ("unicode/utf8.acceptRanges", laid_unicode_utf8_acceptRanges), ("unicode/utf8.first", laid_unicode_utf8_first)], narrowed := true }
def FleetOwnUptoSaid : Prop := fleetOwnUptoRow.holds Tryd.pinned (OpenSpec.upto fleetOwnSpec)

end Rows
end Go.Proofs.YteoihdkaoipocaaDoor
