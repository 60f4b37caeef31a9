/-
  NARROWER THAN 'FOR EVERY INPUT', by the rows' own cells (each row's printed sentence says how): NamesChecks: laid · NamesInterprets: laid · NamesThen: laid · RecordChecks: laid · RecordDiffer: laid · RecordGets: laid · RecordNames: laid · LogfileFrames: laid · SessionsOf: laid · SessionsSums: laid.
  DERIVED. THE GIVEN ROWS OF THIS SEAT. 10 by the template 'for every input the law returns true; each argument reads behind the call as it read before'; 0 by the template 'total and deterministic' (their statements: YtjnlmmjadlidlaaDoorTotals.lean).
  GIVEN WITH THE SEED: the statements are not yours to turn. If you find one false, say at which input.
  Laid BY PROGRAM, IN A SANDBOX (cutbox-rows.mjs): the forced cells as the released guide's own fill.sh prints them over the translation 5fbcf53d706222ba… (all of the seat's roots in one cut). By AI agents, Wed Nov 11 2026. No macro, syntax, notation, axiom, sorry.
-/
import Derived.Test.YtjnlmmjadlidlaaDoorChecked
import GoSem.Claim
import GoSem.ClaimJoined
import GoSem.ClaimMapViews
import Derived.JoinedTies
import Derived.KernelRfl
namespace Go.Proofs.YtjnlmmjadlidlaaDoor
/- THE CELL 'sum', in the pinned program and in every row, IS THE sha256 OF THE DUMP (.gsa) THAT YtjnlmmjadlidlaaDoorProg.lean LOADS. Nothing in Lean hashes anything: it is a label: what it is worth is what the hold of that sum in a sandbox is worth. -/
noncomputable def Tryd.pinned : Pinned := { name := "ytjnlmmjadlidlaadoor", sum := "5fbcf53d706222ba4e42234703efa72df19dee3a7e3fc9dfa8adf37b7b6729a2", checked := Tryd.checked }
namespace Rows
def none {H : Type} : Left H := { results := [], args := [] }

/- WHAT THE LISTED PACKAGE-LEVEL VARIABLES READ AS WHEN THE CALL BEGINS. Each datum BY PROGRAM (the guide's laid-datum.mjs) off the statement by which the dump's own 'gosem.cut.vars' lays the variable. In a bare row this is a premise. The card (YtjnlmmjadlidlaaDoorCards.lean) ties it to the program's text. -/
def laid_kaudit_access_letters {H : Type} : DataW H := .agg [.lit (.int .u8 114), .lit (.int .u8 119), .lit (.int .u8 120), .lit (.int .u8 114), .lit (.int .u8 119), .lit (.int .u8 120), .lit (.int .u8 114), .lit (.int .u8 119), .lit (.int .u8 120)]
def laid_math_bits_deBruijn32tab {H : Type} : DataW H := .agg [.lit (.int .u8 0), .lit (.int .u8 1), .lit (.int .u8 28), .lit (.int .u8 2), .lit (.int .u8 29), .lit (.int .u8 14), .lit (.int .u8 24), .lit (.int .u8 3), .lit (.int .u8 30), .lit (.int .u8 22), .lit (.int .u8 20), .lit (.int .u8 15), .lit (.int .u8 25), .lit (.int .u8 17), .lit (.int .u8 4), .lit (.int .u8 8), .lit (.int .u8 31), .lit (.int .u8 27), .lit (.int .u8 13), .lit (.int .u8 23), .lit (.int .u8 21), .lit (.int .u8 19), .lit (.int .u8 16), .lit (.int .u8 7), .lit (.int .u8 26), .lit (.int .u8 12), .lit (.int .u8 18), .lit (.int .u8 6), .lit (.int .u8 11), .lit (.int .u8 5), .lit (.int .u8 10), .lit (.int .u8 9)]
def laid_math_bits_deBruijn64tab {H : Type} : DataW H := .agg [.lit (.int .u8 0), .lit (.int .u8 1), .lit (.int .u8 56), .lit (.int .u8 2), .lit (.int .u8 57), .lit (.int .u8 49), .lit (.int .u8 28), .lit (.int .u8 3), .lit (.int .u8 61), .lit (.int .u8 58), .lit (.int .u8 42), .lit (.int .u8 50), .lit (.int .u8 38), .lit (.int .u8 29), .lit (.int .u8 17), .lit (.int .u8 4), .lit (.int .u8 62), .lit (.int .u8 47), .lit (.int .u8 59), .lit (.int .u8 36), .lit (.int .u8 45), .lit (.int .u8 43), .lit (.int .u8 51), .lit (.int .u8 22), .lit (.int .u8 53), .lit (.int .u8 39), .lit (.int .u8 33), .lit (.int .u8 30), .lit (.int .u8 24), .lit (.int .u8 18), .lit (.int .u8 12), .lit (.int .u8 5), .lit (.int .u8 63), .lit (.int .u8 55), .lit (.int .u8 48), .lit (.int .u8 27), .lit (.int .u8 60), .lit (.int .u8 41), .lit (.int .u8 37), .lit (.int .u8 16), .lit (.int .u8 46), .lit (.int .u8 35), .lit (.int .u8 44), .lit (.int .u8 21), .lit (.int .u8 52), .lit (.int .u8 32), .lit (.int .u8 23), .lit (.int .u8 11), .lit (.int .u8 54), .lit (.int .u8 26), .lit (.int .u8 40), .lit (.int .u8 15), .lit (.int .u8 34), .lit (.int .u8 20), .lit (.int .u8 31), .lit (.int .u8 10), .lit (.int .u8 25), .lit (.int .u8 14), .lit (.int .u8 19), .lit (.int .u8 9), .lit (.int .u8 13), .lit (.int .u8 8), .lit (.int .u8 7), .lit (.int .u8 6)]
def laid_internal_strconv_uint64pow10 {H : Type} : DataW H := .agg [.lit (.int .u64 1), .lit (.int .u64 10), .lit (.int .u64 100), .lit (.int .u64 1000), .lit (.int .u64 10000), .lit (.int .u64 100000), .lit (.int .u64 1000000), .lit (.int .u64 10000000), .lit (.int .u64 100000000), .lit (.int .u64 1000000000), .lit (.int .u64 10000000000), .lit (.int .u64 100000000000), .lit (.int .u64 1000000000000), .lit (.int .u64 10000000000000), .lit (.int .u64 100000000000000), .lit (.int .u64 1000000000000000), .lit (.int .u64 10000000000000000), .lit (.int .u64 100000000000000000), .lit (.int .u64 1000000000000000000), .lit (.int .u64 10000000000000000000)]
def laid_kaudit_value_digits {H : Type} : DataW H := .agg [.lit (.int .u8 48), .lit (.int .u8 49), .lit (.int .u8 50), .lit (.int .u8 51), .lit (.int .u8 52), .lit (.int .u8 53), .lit (.int .u8 54), .lit (.int .u8 55), .lit (.int .u8 56), .lit (.int .u8 57), .lit (.int .u8 97), .lit (.int .u8 98), .lit (.int .u8 99), .lit (.int .u8 100), .lit (.int .u8 101), .lit (.int .u8 102)]
def laid_kaudit_record_types {H : Type} : DataW H := .agg [.agg [.lit (.string [85, 83, 69, 82]), .lit (.int .i64 1005), .lit (.bool true)], .agg [.lit (.string [68, 65, 69, 77, 79, 78]), .lit (.int .i64 1200), .lit (.bool true)], .agg [.lit (.string [83, 89, 83, 67, 65, 76, 76]), .lit (.int .i64 1300), .lit (.bool false)], .agg [.lit (.string [80, 65, 84, 72]), .lit (.int .i64 1302), .lit (.bool false)], .agg [.lit (.string [67, 79, 78, 70, 73, 71]), .lit (.int .i64 1305), .lit (.bool true)], .agg [.lit (.string [83, 79, 67, 75, 65, 68, 68, 82]), .lit (.int .i64 1306), .lit (.bool false)], .agg [.lit (.string [67, 87, 68]), .lit (.int .i64 1307), .lit (.bool false)], .agg [.lit (.string [69, 88, 69, 67, 86, 69]), .lit (.int .i64 1309), .lit (.bool false)], .agg [.lit (.string [69, 79, 69]), .lit (.int .i64 1320), .lit (.bool false)], .agg [.lit (.string [76, 79, 83, 83]), .lit (.int .i64 1331), .lit (.bool true)]]

/-- 'kauditlaw37.NamesChecks': WHATEVER THE INPUT: true; the input reads as it did. -/
def namesChecksSpec : ChangeSpec := { name := "namesChecks", fn := fun _ => fun
  | [d1, d2] => { results := [.lit (.bool true)], args := [d1, d2] }
  | _ => none }
def namesChecksRow : OpenClaim := { program := "ytjnlmmjadlidlaadoor", sum := "5fbcf53d706222ba4e42234703efa72df19dee3a7e3fc9dfa8adf37b7b6729a2", func := "kaudit/kauditlaw37.NamesChecks", spec := "namesChecks", unfollowed := true, recurses := true, named := ["internal/strconv.uint64pow10", "math/bits.deBruijn32tab", "math/bits.deBruijn64tab", "kaudit/access.letters"], apart := false, laid := [("kaudit/access.letters", laid_kaudit_access_letters), ("math/bits.deBruijn32tab", laid_math_bits_deBruijn32tab), ("math/bits.deBruijn64tab", laid_math_bits_deBruijn64tab), ("internal/strconv.uint64pow10", laid_internal_strconv_uint64pow10)] }
def NamesChecksSaid : Prop := namesChecksRow.holds Tryd.pinned (OpenSpec.ofChange namesChecksSpec)

/-- ITS FALSE NEIGHBOUR: 'it returns false'. Refute it at one input. -/
def namesChecksWrong : ChangeSpec := { name := "namesChecks", fn := fun _ => fun
  | [d1, d2] => { results := [.lit (.bool false)], args := [d1, d2] }
  | _ => none }
def NamesChecksWrongFalsely : Prop := namesChecksRow.holds Tryd.pinned (OpenSpec.ofChange namesChecksWrong)

/-- 'kauditlaw37.NamesInterprets': WHATEVER THE INPUT: true; the input reads as it did. -/
def namesInterpretsSpec : ChangeSpec := { name := "namesInterprets", fn := fun _ => fun
  | [d1, d2, d3, d4, d5] => { results := [.lit (.bool true)], args := [d1, d2, d3, d4, d5] }
  | _ => none }
def namesInterpretsRow : OpenClaim := { program := "ytjnlmmjadlidlaadoor", sum := "5fbcf53d706222ba4e42234703efa72df19dee3a7e3fc9dfa8adf37b7b6729a2", func := "kaudit/kauditlaw37.NamesInterprets", spec := "namesInterprets", unfollowed := true, recurses := true, named := ["internal/strconv.uint64pow10", "math/bits.deBruijn32tab", "math/bits.deBruijn64tab", "kaudit/access.letters"], apart := false, laid := [("kaudit/access.letters", laid_kaudit_access_letters), ("math/bits.deBruijn32tab", laid_math_bits_deBruijn32tab), ("math/bits.deBruijn64tab", laid_math_bits_deBruijn64tab), ("internal/strconv.uint64pow10", laid_internal_strconv_uint64pow10)] }
def NamesInterpretsSaid : Prop := namesInterpretsRow.holds Tryd.pinned (OpenSpec.ofChange namesInterpretsSpec)

/-- ITS FALSE NEIGHBOUR: 'it returns false'. Refute it at one input. -/
def namesInterpretsWrong : ChangeSpec := { name := "namesInterprets", fn := fun _ => fun
  | [d1, d2, d3, d4, d5] => { results := [.lit (.bool false)], args := [d1, d2, d3, d4, d5] }
  | _ => none }
def NamesInterpretsWrongFalsely : Prop := namesInterpretsRow.holds Tryd.pinned (OpenSpec.ofChange namesInterpretsWrong)

/-- 'kauditlaw37.NamesThen': WHATEVER THE INPUT: true; the input reads as it did. -/
def namesThenSpec : ChangeSpec := { name := "namesThen", fn := fun _ => fun
  | [d1, d2, d3] => { results := [.lit (.bool true)], args := [d1, d2, d3] }
  | _ => none }
def namesThenRow : OpenClaim := { program := "ytjnlmmjadlidlaadoor", sum := "5fbcf53d706222ba4e42234703efa72df19dee3a7e3fc9dfa8adf37b7b6729a2", func := "kaudit/kauditlaw37.NamesThen", spec := "namesThen", unfollowed := true, recurses := true, named := ["internal/strconv.uint64pow10", "math/bits.deBruijn32tab", "math/bits.deBruijn64tab", "kaudit/access.letters"], apart := false, laid := [("kaudit/access.letters", laid_kaudit_access_letters), ("math/bits.deBruijn32tab", laid_math_bits_deBruijn32tab), ("math/bits.deBruijn64tab", laid_math_bits_deBruijn64tab), ("internal/strconv.uint64pow10", laid_internal_strconv_uint64pow10)] }
def NamesThenSaid : Prop := namesThenRow.holds Tryd.pinned (OpenSpec.ofChange namesThenSpec)

/-- ITS FALSE NEIGHBOUR: 'it returns false'. Refute it at one input. -/
def namesThenWrong : ChangeSpec := { name := "namesThen", fn := fun _ => fun
  | [d1, d2, d3] => { results := [.lit (.bool false)], args := [d1, d2, d3] }
  | _ => none }
def NamesThenWrongFalsely : Prop := namesThenRow.holds Tryd.pinned (OpenSpec.ofChange namesThenWrong)

/-- 'kauditlaw03.RecordChecks': WHATEVER THE INPUT: true; the input reads as it did. -/
def recordChecksSpec : ChangeSpec := { name := "recordChecks", fn := fun _ => fun
  | [d] => { results := [.lit (.bool true)], args := [d] }
  | _ => none }
def recordChecksRow : OpenClaim := { program := "ytjnlmmjadlidlaadoor", sum := "5fbcf53d706222ba4e42234703efa72df19dee3a7e3fc9dfa8adf37b7b6729a2", func := "kaudit/kauditlaw03.RecordChecks", spec := "recordChecks", inPlace := ["internal/abi.NoEscape", "internal/bytealg.MakeNoZero"], named := ["kaudit/record.types", "internal/strconv.uint64pow10", "math/bits.deBruijn32tab", "math/bits.deBruijn64tab", "kaudit/value.digits"], apart := false, laid := [("math/bits.deBruijn32tab", laid_math_bits_deBruijn32tab), ("math/bits.deBruijn64tab", laid_math_bits_deBruijn64tab), ("internal/strconv.uint64pow10", laid_internal_strconv_uint64pow10), ("kaudit/value.digits", laid_kaudit_value_digits), ("kaudit/record.types", laid_kaudit_record_types)] }
def RecordChecksSaid : Prop := recordChecksRow.holds Tryd.pinned (OpenSpec.ofChange recordChecksSpec)

/-- ITS FALSE NEIGHBOUR: 'it returns false'. Refute it at one input. -/
def recordChecksWrong : ChangeSpec := { name := "recordChecks", fn := fun _ => fun
  | [d] => { results := [.lit (.bool false)], args := [d] }
  | _ => none }
def RecordChecksWrongFalsely : Prop := recordChecksRow.holds Tryd.pinned (OpenSpec.ofChange recordChecksWrong)

/-- 'kauditlaw03.RecordDiffer': WHATEVER THE INPUT: true; the input reads as it did. -/
def recordDifferSpec : ChangeSpec := { name := "recordDiffer", fn := fun _ => fun
  | [d] => { results := [.lit (.bool true)], args := [d] }
  | _ => none }
def recordDifferRow : OpenClaim := { program := "ytjnlmmjadlidlaadoor", sum := "5fbcf53d706222ba4e42234703efa72df19dee3a7e3fc9dfa8adf37b7b6729a2", func := "kaudit/kauditlaw03.RecordDiffer", spec := "recordDiffer", inPlace := ["internal/abi.NoEscape", "internal/bytealg.MakeNoZero"], named := ["kaudit/record.types", "internal/strconv.uint64pow10", "math/bits.deBruijn32tab", "math/bits.deBruijn64tab", "kaudit/value.digits"], apart := false, laid := [("math/bits.deBruijn32tab", laid_math_bits_deBruijn32tab), ("math/bits.deBruijn64tab", laid_math_bits_deBruijn64tab), ("internal/strconv.uint64pow10", laid_internal_strconv_uint64pow10), ("kaudit/value.digits", laid_kaudit_value_digits), ("kaudit/record.types", laid_kaudit_record_types)] }
def RecordDifferSaid : Prop := recordDifferRow.holds Tryd.pinned (OpenSpec.ofChange recordDifferSpec)

/-- ITS FALSE NEIGHBOUR: 'it returns false'. Refute it at one input. -/
def recordDifferWrong : ChangeSpec := { name := "recordDiffer", fn := fun _ => fun
  | [d] => { results := [.lit (.bool false)], args := [d] }
  | _ => none }
def RecordDifferWrongFalsely : Prop := recordDifferRow.holds Tryd.pinned (OpenSpec.ofChange recordDifferWrong)

/-- 'kauditlaw03.RecordGets': WHATEVER THE INPUT: true; the input reads as it did. -/
def recordGetsSpec : ChangeSpec := { name := "recordGets", fn := fun _ => fun
  | [d1, d2, d3] => { results := [.lit (.bool true)], args := [d1, d2, d3] }
  | _ => none }
def recordGetsRow : OpenClaim := { program := "ytjnlmmjadlidlaadoor", sum := "5fbcf53d706222ba4e42234703efa72df19dee3a7e3fc9dfa8adf37b7b6729a2", func := "kaudit/kauditlaw03.RecordGets", spec := "recordGets", inPlace := ["internal/abi.NoEscape", "internal/bytealg.MakeNoZero"], named := ["kaudit/record.types", "internal/strconv.uint64pow10", "math/bits.deBruijn32tab", "math/bits.deBruijn64tab", "kaudit/value.digits"], apart := false, laid := [("math/bits.deBruijn32tab", laid_math_bits_deBruijn32tab), ("math/bits.deBruijn64tab", laid_math_bits_deBruijn64tab), ("internal/strconv.uint64pow10", laid_internal_strconv_uint64pow10), ("kaudit/value.digits", laid_kaudit_value_digits), ("kaudit/record.types", laid_kaudit_record_types)] }
def RecordGetsSaid : Prop := recordGetsRow.holds Tryd.pinned (OpenSpec.ofChange recordGetsSpec)

/-- ITS FALSE NEIGHBOUR: 'it returns false'. Refute it at one input. -/
def recordGetsWrong : ChangeSpec := { name := "recordGets", fn := fun _ => fun
  | [d1, d2, d3] => { results := [.lit (.bool false)], args := [d1, d2, d3] }
  | _ => none }
def RecordGetsWrongFalsely : Prop := recordGetsRow.holds Tryd.pinned (OpenSpec.ofChange recordGetsWrong)

/-- 'kauditlaw03.RecordNames': WHATEVER THE INPUT: true; the input reads as it did. -/
def recordNamesSpec : ChangeSpec := { name := "recordNames", fn := fun _ => fun
  | [d1, d2] => { results := [.lit (.bool true)], args := [d1, d2] }
  | _ => none }
def recordNamesRow : OpenClaim := { program := "ytjnlmmjadlidlaadoor", sum := "5fbcf53d706222ba4e42234703efa72df19dee3a7e3fc9dfa8adf37b7b6729a2", func := "kaudit/kauditlaw03.RecordNames", spec := "recordNames", inPlace := ["internal/abi.NoEscape", "internal/bytealg.MakeNoZero"], named := ["kaudit/record.types", "internal/strconv.uint64pow10", "math/bits.deBruijn32tab", "math/bits.deBruijn64tab", "kaudit/value.digits"], apart := false, laid := [("math/bits.deBruijn32tab", laid_math_bits_deBruijn32tab), ("math/bits.deBruijn64tab", laid_math_bits_deBruijn64tab), ("internal/strconv.uint64pow10", laid_internal_strconv_uint64pow10), ("kaudit/value.digits", laid_kaudit_value_digits), ("kaudit/record.types", laid_kaudit_record_types)] }
def RecordNamesSaid : Prop := recordNamesRow.holds Tryd.pinned (OpenSpec.ofChange recordNamesSpec)

/-- ITS FALSE NEIGHBOUR: 'it returns false'. Refute it at one input. -/
def recordNamesWrong : ChangeSpec := { name := "recordNames", fn := fun _ => fun
  | [d1, d2] => { results := [.lit (.bool false)], args := [d1, d2] }
  | _ => none }
def RecordNamesWrongFalsely : Prop := recordNamesRow.holds Tryd.pinned (OpenSpec.ofChange recordNamesWrong)

/-- 'kauditlaw25.LogfileFrames': WHATEVER THE INPUT: true; the input reads as it did. -/
def logfileFramesSpec : ChangeSpec := { name := "logfileFrames", fn := fun _ => fun
  | [d1, d2, d3, d4, d5] => { results := [.lit (.bool true)], args := [d1, d2, d3, d4, d5] }
  | _ => none }
def logfileFramesRow : OpenClaim := { program := "ytjnlmmjadlidlaadoor", sum := "5fbcf53d706222ba4e42234703efa72df19dee3a7e3fc9dfa8adf37b7b6729a2", func := "kaudit/kauditlaw25.LogfileFrames", spec := "logfileFrames", inPlace := ["internal/abi.NoEscape", "internal/bytealg.MakeNoZero"], named := ["kaudit/record.types", "internal/strconv.uint64pow10", "math/bits.deBruijn32tab", "math/bits.deBruijn64tab", "kaudit/value.digits"], apart := false, laid := [("math/bits.deBruijn32tab", laid_math_bits_deBruijn32tab), ("math/bits.deBruijn64tab", laid_math_bits_deBruijn64tab), ("internal/strconv.uint64pow10", laid_internal_strconv_uint64pow10), ("kaudit/value.digits", laid_kaudit_value_digits), ("kaudit/record.types", laid_kaudit_record_types)] }
def LogfileFramesSaid : Prop := logfileFramesRow.holds Tryd.pinned (OpenSpec.ofChange logfileFramesSpec)

/-- ITS FALSE NEIGHBOUR: 'it returns false'. Refute it at one input. -/
def logfileFramesWrong : ChangeSpec := { name := "logfileFrames", fn := fun _ => fun
  | [d1, d2, d3, d4, d5] => { results := [.lit (.bool false)], args := [d1, d2, d3, d4, d5] }
  | _ => none }
def LogfileFramesWrongFalsely : Prop := logfileFramesRow.holds Tryd.pinned (OpenSpec.ofChange logfileFramesWrong)

/-- 'kauditlaw41.SessionsOf': WHATEVER THE INPUT: true; the input reads as it did. -/
def sessionsOfSpec : ChangeSpec := { name := "sessionsOf", fn := fun _ => fun
  | [d1, d2, d3, d4] => { results := [.lit (.bool true)], args := [d1, d2, d3, d4] }
  | _ => none }
def sessionsOfRow : OpenClaim := { program := "ytjnlmmjadlidlaadoor", sum := "5fbcf53d706222ba4e42234703efa72df19dee3a7e3fc9dfa8adf37b7b6729a2", func := "kaudit/kauditlaw41.SessionsOf", spec := "sessionsOf", unfollowed := true, recurses := true, named := ["internal/strconv.uint64pow10", "math/bits.deBruijn32tab", "math/bits.deBruijn64tab"], apart := false, laid := [("math/bits.deBruijn32tab", laid_math_bits_deBruijn32tab), ("math/bits.deBruijn64tab", laid_math_bits_deBruijn64tab), ("internal/strconv.uint64pow10", laid_internal_strconv_uint64pow10)] }
def SessionsOfSaid : Prop := sessionsOfRow.holds Tryd.pinned (OpenSpec.ofChange sessionsOfSpec)

/-- ITS FALSE NEIGHBOUR: 'it returns false'. Refute it at one input. -/
def sessionsOfWrong : ChangeSpec := { name := "sessionsOf", fn := fun _ => fun
  | [d1, d2, d3, d4] => { results := [.lit (.bool false)], args := [d1, d2, d3, d4] }
  | _ => none }
def SessionsOfWrongFalsely : Prop := sessionsOfRow.holds Tryd.pinned (OpenSpec.ofChange sessionsOfWrong)

/-- 'kauditlaw41.SessionsSums': WHATEVER THE INPUT: true; the input reads as it did. -/
def sessionsSumsSpec : ChangeSpec := { name := "sessionsSums", fn := fun _ => fun
  | [d1, d2] => { results := [.lit (.bool true)], args := [d1, d2] }
  | _ => none }
def sessionsSumsRow : OpenClaim := { program := "ytjnlmmjadlidlaadoor", sum := "5fbcf53d706222ba4e42234703efa72df19dee3a7e3fc9dfa8adf37b7b6729a2", func := "kaudit/kauditlaw41.SessionsSums", spec := "sessionsSums", unfollowed := true, recurses := true, named := ["internal/strconv.uint64pow10", "math/bits.deBruijn32tab", "math/bits.deBruijn64tab"], apart := false, laid := [("math/bits.deBruijn32tab", laid_math_bits_deBruijn32tab), ("math/bits.deBruijn64tab", laid_math_bits_deBruijn64tab), ("internal/strconv.uint64pow10", laid_internal_strconv_uint64pow10)] }
def SessionsSumsSaid : Prop := sessionsSumsRow.holds Tryd.pinned (OpenSpec.ofChange sessionsSumsSpec)

/-- ITS FALSE NEIGHBOUR: 'it returns false'. Refute it at one input. -/
def sessionsSumsWrong : ChangeSpec := { name := "sessionsSums", fn := fun _ => fun
  | [d1, d2] => { results := [.lit (.bool false)], args := [d1, d2] }
  | _ => none }
def SessionsSumsWrongFalsely : Prop := sessionsSumsRow.holds Tryd.pinned (OpenSpec.ofChange sessionsSumsWrong)

/- THE SECOND FORM. 'bulk': how many values and letters a reading holds, each counted each time it is reached (what is shared counts as often as it is met; a slice's spare places count too). A statement '..UptoSaid' is the law's where the arguments, and the package variables that the reading takes, are together of bulk at most 1048576: NARROWER than '..Said'. Prove '..Said' where nothing that the law and all that it calls make is longer than what came in: it says more and counts as full. Else prove '..UptoSaid'. A law counts once. -/
mutual
def uptoBulk {H : Type} : DataW H → Nat
  | .lit (.string bytes) => bytes.length + 1
  | .lit _ => 1
  | .nil => 1
  | .ptr d => uptoBulk d + 1
  | .slice elems spare => uptoBulkAll elems + uptoBulkAll spare + 1
  | .agg parts => uptoBulkAll parts + 1
  | .iface _ d => uptoBulk d + 1
  | .map entries => uptoBulkEntries entries + 1
  | .held _ => 1
def uptoBulkAll {H : Type} : List (DataW H) → Nat
  | [] => 0
  | d :: r => uptoBulk d + uptoBulkAll r
def uptoBulkEntries {H : Type} : List (Lit × DataW H) → Nat
  | [] => 0
  | x :: r => uptoBulkEntry x + uptoBulkEntries r
def uptoBulkEntry {H : Type} : Lit × DataW H → Nat
  | (.string bytes, d) => bytes.length + uptoBulk d + 1
  | (_, d) => uptoBulk d + 1
 end
def uptoSmall : (H : Type) → List (DataW H) → Bool := fun _ ds => decide (uptoBulkAll ds ≤ 1048576)
def OpenSpec.upto (s : _root_.Go.ChangeSpec) : _root_.Go.OpenSpec := { _root_.Go.OpenSpec.ofChange s with cond := some uptoSmall }

/-- 'kauditlaw37.NamesChecks', WHERE WHAT IT READS IS OF BULK AT MOST 1048576: true; the input reads as it did. -/
def namesChecksUptoRow : OpenClaim := { program := "ytjnlmmjadlidlaadoor", sum := "5fbcf53d706222ba4e42234703efa72df19dee3a7e3fc9dfa8adf37b7b6729a2", func := "kaudit/kauditlaw37.NamesChecks", spec := "namesChecks", unfollowed := true, recurses := true, named := ["internal/strconv.uint64pow10", "math/bits.deBruijn32tab", "math/bits.deBruijn64tab", "kaudit/access.letters"], apart := false, laid := [("kaudit/access.letters", laid_kaudit_access_letters), ("math/bits.deBruijn32tab", laid_math_bits_deBruijn32tab), ("math/bits.deBruijn64tab", laid_math_bits_deBruijn64tab), ("internal/strconv.uint64pow10", laid_internal_strconv_uint64pow10)], narrowed := true }
def NamesChecksUptoSaid : Prop := namesChecksUptoRow.holds Tryd.pinned (OpenSpec.upto namesChecksSpec)

/-- 'kauditlaw37.NamesInterprets', WHERE WHAT IT READS IS OF BULK AT MOST 1048576: true; the input reads as it did. -/
def namesInterpretsUptoRow : OpenClaim := { program := "ytjnlmmjadlidlaadoor", sum := "5fbcf53d706222ba4e42234703efa72df19dee3a7e3fc9dfa8adf37b7b6729a2", func := "kaudit/kauditlaw37.NamesInterprets", spec := "namesInterprets", unfollowed := true, recurses := true, named := ["internal/strconv.uint64pow10", "math/bits.deBruijn32tab", "math/bits.deBruijn64tab", "kaudit/access.letters"], apart := false, laid := [("kaudit/access.letters", laid_kaudit_access_letters), ("math/bits.deBruijn32tab", laid_math_bits_deBruijn32tab), ("math/bits.deBruijn64tab", laid_math_bits_deBruijn64tab), ("internal/strconv.uint64pow10", laid_internal_strconv_uint64pow10)], narrowed := true }
def NamesInterpretsUptoSaid : Prop := namesInterpretsUptoRow.holds Tryd.pinned (OpenSpec.upto namesInterpretsSpec)

/-- 'kauditlaw37.NamesThen', WHERE WHAT IT READS IS OF BULK AT MOST 1048576: true; the input reads as it did. -/
def namesThenUptoRow : OpenClaim := { program := "ytjnlmmjadlidlaadoor", sum := "5fbcf53d706222ba4e42234703efa72df19dee3a7e3fc9dfa8adf37b7b6729a2", func := "kaudit/kauditlaw37.NamesThen", spec := "namesThen", unfollowed := true, recurses := true, named := ["internal/strconv.uint64pow10", "math/bits.deBruijn32tab", "math/bits.deBruijn64tab", "kaudit/access.letters"], apart := false, laid := [("kaudit/access.letters", laid_kaudit_access_letters), ("math/bits.deBruijn32tab", laid_math_bits_deBruijn32tab), ("math/bits.deBruijn64tab", laid_math_bits_deBruijn64tab), ("internal/strconv.uint64pow10", laid_internal_strconv_uint64pow10)], narrowed := true }
def NamesThenUptoSaid : Prop := namesThenUptoRow.holds Tryd.pinned (OpenSpec.upto namesThenSpec)

/-- 'kauditlaw03.RecordChecks', WHERE WHAT IT READS IS OF BULK AT MOST 1048576: true; the input reads as it did. -/
def recordChecksUptoRow : OpenClaim := { program := "ytjnlmmjadlidlaadoor", sum := "5fbcf53d706222ba4e42234703efa72df19dee3a7e3fc9dfa8adf37b7b6729a2", func := "kaudit/kauditlaw03.RecordChecks", spec := "recordChecks", inPlace := ["internal/abi.NoEscape", "internal/bytealg.MakeNoZero"], named := ["kaudit/record.types", "internal/strconv.uint64pow10", "math/bits.deBruijn32tab", "math/bits.deBruijn64tab", "kaudit/value.digits"], apart := false, laid := [("math/bits.deBruijn32tab", laid_math_bits_deBruijn32tab), ("math/bits.deBruijn64tab", laid_math_bits_deBruijn64tab), ("internal/strconv.uint64pow10", laid_internal_strconv_uint64pow10), ("kaudit/value.digits", laid_kaudit_value_digits), ("kaudit/record.types", laid_kaudit_record_types)], narrowed := true }
def RecordChecksUptoSaid : Prop := recordChecksUptoRow.holds Tryd.pinned (OpenSpec.upto recordChecksSpec)

/-- 'kauditlaw03.RecordDiffer', WHERE WHAT IT READS IS OF BULK AT MOST 1048576: true; the input reads as it did. -/
def recordDifferUptoRow : OpenClaim := { program := "ytjnlmmjadlidlaadoor", sum := "5fbcf53d706222ba4e42234703efa72df19dee3a7e3fc9dfa8adf37b7b6729a2", func := "kaudit/kauditlaw03.RecordDiffer", spec := "recordDiffer", inPlace := ["internal/abi.NoEscape", "internal/bytealg.MakeNoZero"], named := ["kaudit/record.types", "internal/strconv.uint64pow10", "math/bits.deBruijn32tab", "math/bits.deBruijn64tab", "kaudit/value.digits"], apart := false, laid := [("math/bits.deBruijn32tab", laid_math_bits_deBruijn32tab), ("math/bits.deBruijn64tab", laid_math_bits_deBruijn64tab), ("internal/strconv.uint64pow10", laid_internal_strconv_uint64pow10), ("kaudit/value.digits", laid_kaudit_value_digits), ("kaudit/record.types", laid_kaudit_record_types)], narrowed := true }
def RecordDifferUptoSaid : Prop := recordDifferUptoRow.holds Tryd.pinned (OpenSpec.upto recordDifferSpec)

/-- 'kauditlaw03.RecordGets', WHERE WHAT IT READS IS OF BULK AT MOST 1048576: true; the input reads as it did. -/
def recordGetsUptoRow : OpenClaim := { program := "ytjnlmmjadlidlaadoor", sum := "5fbcf53d706222ba4e42234703efa72df19dee3a7e3fc9dfa8adf37b7b6729a2", func := "kaudit/kauditlaw03.RecordGets", spec := "recordGets", inPlace := ["internal/abi.NoEscape", "internal/bytealg.MakeNoZero"], named := ["kaudit/record.types", "internal/strconv.uint64pow10", "math/bits.deBruijn32tab", "math/bits.deBruijn64tab", "kaudit/value.digits"], apart := false, laid := [("math/bits.deBruijn32tab", laid_math_bits_deBruijn32tab), ("math/bits.deBruijn64tab", laid_math_bits_deBruijn64tab), ("internal/strconv.uint64pow10", laid_internal_strconv_uint64pow10), ("kaudit/value.digits", laid_kaudit_value_digits), ("kaudit/record.types", laid_kaudit_record_types)], narrowed := true }
def RecordGetsUptoSaid : Prop := recordGetsUptoRow.holds Tryd.pinned (OpenSpec.upto recordGetsSpec)

/-- 'kauditlaw03.RecordNames', WHERE WHAT IT READS IS OF BULK AT MOST 1048576: true; the input reads as it did. -/
def recordNamesUptoRow : OpenClaim := { program := "ytjnlmmjadlidlaadoor", sum := "5fbcf53d706222ba4e42234703efa72df19dee3a7e3fc9dfa8adf37b7b6729a2", func := "kaudit/kauditlaw03.RecordNames", spec := "recordNames", inPlace := ["internal/abi.NoEscape", "internal/bytealg.MakeNoZero"], named := ["kaudit/record.types", "internal/strconv.uint64pow10", "math/bits.deBruijn32tab", "math/bits.deBruijn64tab", "kaudit/value.digits"], apart := false, laid := [("math/bits.deBruijn32tab", laid_math_bits_deBruijn32tab), ("math/bits.deBruijn64tab", laid_math_bits_deBruijn64tab), ("internal/strconv.uint64pow10", laid_internal_strconv_uint64pow10), ("kaudit/value.digits", laid_kaudit_value_digits), ("kaudit/record.types", laid_kaudit_record_types)], narrowed := true }
def RecordNamesUptoSaid : Prop := recordNamesUptoRow.holds Tryd.pinned (OpenSpec.upto recordNamesSpec)

/-- 'kauditlaw25.LogfileFrames', WHERE WHAT IT READS IS OF BULK AT MOST 1048576: true; the input reads as it did. -/
def logfileFramesUptoRow : OpenClaim := { program := "ytjnlmmjadlidlaadoor", sum := "5fbcf53d706222ba4e42234703efa72df19dee3a7e3fc9dfa8adf37b7b6729a2", func := "kaudit/kauditlaw25.LogfileFrames", spec := "logfileFrames", inPlace := ["internal/abi.NoEscape", "internal/bytealg.MakeNoZero"], named := ["kaudit/record.types", "internal/strconv.uint64pow10", "math/bits.deBruijn32tab", "math/bits.deBruijn64tab", "kaudit/value.digits"], apart := false, laid := [("math/bits.deBruijn32tab", laid_math_bits_deBruijn32tab), ("math/bits.deBruijn64tab", laid_math_bits_deBruijn64tab), ("internal/strconv.uint64pow10", laid_internal_strconv_uint64pow10), ("kaudit/value.digits", laid_kaudit_value_digits), ("kaudit/record.types", laid_kaudit_record_types)], narrowed := true }
def LogfileFramesUptoSaid : Prop := logfileFramesUptoRow.holds Tryd.pinned (OpenSpec.upto logfileFramesSpec)

/-- 'kauditlaw41.SessionsOf', WHERE WHAT IT READS IS OF BULK AT MOST 1048576: true; the input reads as it did. -/
def sessionsOfUptoRow : OpenClaim := { program := "ytjnlmmjadlidlaadoor", sum := "5fbcf53d706222ba4e42234703efa72df19dee3a7e3fc9dfa8adf37b7b6729a2", func := "kaudit/kauditlaw41.SessionsOf", spec := "sessionsOf", unfollowed := true, recurses := true, named := ["internal/strconv.uint64pow10", "math/bits.deBruijn32tab", "math/bits.deBruijn64tab"], apart := false, laid := [("math/bits.deBruijn32tab", laid_math_bits_deBruijn32tab), ("math/bits.deBruijn64tab", laid_math_bits_deBruijn64tab), ("internal/strconv.uint64pow10", laid_internal_strconv_uint64pow10)], narrowed := true }
def SessionsOfUptoSaid : Prop := sessionsOfUptoRow.holds Tryd.pinned (OpenSpec.upto sessionsOfSpec)

/-- 'kauditlaw41.SessionsSums', WHERE WHAT IT READS IS OF BULK AT MOST 1048576: true; the input reads as it did. -/
def sessionsSumsUptoRow : OpenClaim := { program := "ytjnlmmjadlidlaadoor", sum := "5fbcf53d706222ba4e42234703efa72df19dee3a7e3fc9dfa8adf37b7b6729a2", func := "kaudit/kauditlaw41.SessionsSums", spec := "sessionsSums", unfollowed := true, recurses := true, named := ["internal/strconv.uint64pow10", "math/bits.deBruijn32tab", "math/bits.deBruijn64tab"], apart := false, laid := [("math/bits.deBruijn32tab", laid_math_bits_deBruijn32tab), ("math/bits.deBruijn64tab", laid_math_bits_deBruijn64tab), ("internal/strconv.uint64pow10", laid_internal_strconv_uint64pow10)], narrowed := true }
def SessionsSumsUptoSaid : Prop := sessionsSumsUptoRow.holds Tryd.pinned (OpenSpec.upto sessionsSumsSpec)

end Rows
end Go.Proofs.YtjnlmmjadlidlaaDoor
