/-
  NARROWER THAN 'FOR EVERY INPUT', by the rows' own cells (each row's printed sentence says how): HoursLight: laid · HoursLater: laid · HoursCycles: laid · HoursLines: laid · HoursTexts: laid · HoursDates: laid · HoursCalendars: laid · HoursFeasts: laid · HoursBothWays: laid · HoursTwelve: laid · HoursAdd: laid · HoursMoved: laid · HoursBegin: laid · HoursMoments: laid · HoursBells: laid.
  DERIVED. THE GIVEN ROWS OF THIS SEAT. 15 by the template 'for every input the law returns true; each argument reads behind the call as it read before'; 0 by the template 'total and deterministic' (their statements: YtomlfliebolkmaaDoorTotals.lean).
  GIVEN WITH THE SEED: the statements are not yours to turn. If you find one false, say at which input.
  Laid BY PROGRAM, IN A SANDBOX (cutbox-rows.mjs): the forced cells as the released guide's own fill.sh prints them over the translation 49affcf15a005aa9… (all of the seat's roots in one cut). By AI agents, Wed Nov 11 2026. No macro, syntax, notation, axiom, sorry.
-/
import Derived.Test.YtomlfliebolkmaaDoorChecked
import GoSem.Claim
import GoSem.ClaimJoined
import GoSem.ClaimMapViews
import Derived.JoinedTies
import Derived.KernelRfl
namespace Go.Proofs.YtomlfliebolkmaaDoor
/- THE CELL 'sum', in the pinned program and in every row, IS THE sha256 OF THE DUMP (.gsa) THAT YtomlfliebolkmaaDoorProg.lean LOADS. Nothing in Lean hashes anything: it is a label: what it is worth is what the hold of that sum in a sandbox is worth. -/
noncomputable def Tryd.pinned : Pinned := { name := "ytomlfliebolkmaadoor", sum := "49affcf15a005aa9732840cb8ed2109f60003b936ae9d747126f01ff2bfcb12e", checked := Tryd.checked }
namespace Rows
def none {H : Type} : Left H := { results := [], args := [] }

/- WHAT THE LISTED PACKAGE-LEVEL VARIABLES READ AS WHEN THE CALL BEGINS. Each datum BY PROGRAM (the guide's laid-datum.mjs) off the statement by which the dump's own 'gosem.cut.vars' lays the variable. In a bare row this is a premise. The card (YtomlfliebolkmaaDoorCards.lean) ties it to the program's text. -/
def laid_math_bits_deBruijn32tab {H : Type} : DataW H := .agg [.lit (.int .u8 0), .lit (.int .u8 1), .lit (.int .u8 28), .lit (.int .u8 2), .lit (.int .u8 29), .lit (.int .u8 14), .lit (.int .u8 24), .lit (.int .u8 3), .lit (.int .u8 30), .lit (.int .u8 22), .lit (.int .u8 20), .lit (.int .u8 15), .lit (.int .u8 25), .lit (.int .u8 17), .lit (.int .u8 4), .lit (.int .u8 8), .lit (.int .u8 31), .lit (.int .u8 27), .lit (.int .u8 13), .lit (.int .u8 23), .lit (.int .u8 21), .lit (.int .u8 19), .lit (.int .u8 16), .lit (.int .u8 7), .lit (.int .u8 26), .lit (.int .u8 12), .lit (.int .u8 18), .lit (.int .u8 6), .lit (.int .u8 11), .lit (.int .u8 5), .lit (.int .u8 10), .lit (.int .u8 9)]
def laid_math_bits_deBruijn64tab {H : Type} : DataW H := .agg [.lit (.int .u8 0), .lit (.int .u8 1), .lit (.int .u8 56), .lit (.int .u8 2), .lit (.int .u8 57), .lit (.int .u8 49), .lit (.int .u8 28), .lit (.int .u8 3), .lit (.int .u8 61), .lit (.int .u8 58), .lit (.int .u8 42), .lit (.int .u8 50), .lit (.int .u8 38), .lit (.int .u8 29), .lit (.int .u8 17), .lit (.int .u8 4), .lit (.int .u8 62), .lit (.int .u8 47), .lit (.int .u8 59), .lit (.int .u8 36), .lit (.int .u8 45), .lit (.int .u8 43), .lit (.int .u8 51), .lit (.int .u8 22), .lit (.int .u8 53), .lit (.int .u8 39), .lit (.int .u8 33), .lit (.int .u8 30), .lit (.int .u8 24), .lit (.int .u8 18), .lit (.int .u8 12), .lit (.int .u8 5), .lit (.int .u8 63), .lit (.int .u8 55), .lit (.int .u8 48), .lit (.int .u8 27), .lit (.int .u8 60), .lit (.int .u8 41), .lit (.int .u8 37), .lit (.int .u8 16), .lit (.int .u8 46), .lit (.int .u8 35), .lit (.int .u8 44), .lit (.int .u8 21), .lit (.int .u8 52), .lit (.int .u8 32), .lit (.int .u8 23), .lit (.int .u8 11), .lit (.int .u8 54), .lit (.int .u8 26), .lit (.int .u8 40), .lit (.int .u8 15), .lit (.int .u8 34), .lit (.int .u8 20), .lit (.int .u8 31), .lit (.int .u8 10), .lit (.int .u8 25), .lit (.int .u8 14), .lit (.int .u8 19), .lit (.int .u8 9), .lit (.int .u8 13), .lit (.int .u8 8), .lit (.int .u8 7), .lit (.int .u8 6)]
def laid_internal_strconv_uint64pow10 {H : Type} : DataW H := .agg [.lit (.int .u64 1), .lit (.int .u64 10), .lit (.int .u64 100), .lit (.int .u64 1000), .lit (.int .u64 10000), .lit (.int .u64 100000), .lit (.int .u64 1000000), .lit (.int .u64 10000000), .lit (.int .u64 100000000), .lit (.int .u64 1000000000), .lit (.int .u64 10000000000), .lit (.int .u64 100000000000), .lit (.int .u64 1000000000000), .lit (.int .u64 10000000000000), .lit (.int .u64 100000000000000), .lit (.int .u64 1000000000000000), .lit (.int .u64 10000000000000000), .lit (.int .u64 100000000000000000), .lit (.int .u64 1000000000000000000), .lit (.int .u64 10000000000000000000)]
def laid_strconv_ErrRange {H : Type} : DataW H := .iface "*errors.errorString" (.ptr (.agg [.lit (.string [118, 97, 108, 117, 101, 32, 111, 117, 116, 32, 111, 102, 32, 114, 97, 110, 103, 101])]))
def laid_strconv_ErrSyntax {H : Type} : DataW H := .iface "*errors.errorString" (.ptr (.agg [.lit (.string [105, 110, 118, 97, 108, 105, 100, 32, 115, 121, 110, 116, 97, 120])]))

/-- 'waterhourlaw05.HoursLight': WHATEVER THE INPUT: true; the input reads as it did. -/
def hoursLightSpec : ChangeSpec := { name := "hoursLight", fn := fun _ => fun
  | [d1, d2, d3] => { results := [.lit (.bool true)], args := [d1, d2, d3] }
  | _ => none }
def hoursLightRow : OpenClaim := { program := "ytomlfliebolkmaadoor", sum := "49affcf15a005aa9732840cb8ed2109f60003b936ae9d747126f01ff2bfcb12e", func := "waterhour/waterhourlaw05.HoursLight", spec := "hoursLight", unfollowed := true, recurses := true, named := ["internal/strconv.uint64pow10", "math/bits.deBruijn32tab", "math/bits.deBruijn64tab"], apart := false, laid := [("math/bits.deBruijn32tab", laid_math_bits_deBruijn32tab), ("math/bits.deBruijn64tab", laid_math_bits_deBruijn64tab), ("internal/strconv.uint64pow10", laid_internal_strconv_uint64pow10)] }
def HoursLightSaid : Prop := hoursLightRow.holds Tryd.pinned (OpenSpec.ofChange hoursLightSpec)

/-- ITS FALSE NEIGHBOUR: 'it returns false'. Refute it at one input. -/
def hoursLightWrong : ChangeSpec := { name := "hoursLight", fn := fun _ => fun
  | [d1, d2, d3] => { results := [.lit (.bool false)], args := [d1, d2, d3] }
  | _ => none }
def HoursLightWrongFalsely : Prop := hoursLightRow.holds Tryd.pinned (OpenSpec.ofChange hoursLightWrong)

/-- 'waterhourlaw05.HoursLater': WHATEVER THE INPUT: true; the input reads as it did. -/
def hoursLaterSpec : ChangeSpec := { name := "hoursLater", fn := fun _ => fun
  | [d1, d2, d3, d4, d5, d6] => { results := [.lit (.bool true)], args := [d1, d2, d3, d4, d5, d6] }
  | _ => none }
def hoursLaterRow : OpenClaim := { program := "ytomlfliebolkmaadoor", sum := "49affcf15a005aa9732840cb8ed2109f60003b936ae9d747126f01ff2bfcb12e", func := "waterhour/waterhourlaw05.HoursLater", spec := "hoursLater", unfollowed := true, recurses := true, named := ["internal/strconv.uint64pow10", "math/bits.deBruijn32tab", "math/bits.deBruijn64tab"], apart := false, laid := [("math/bits.deBruijn32tab", laid_math_bits_deBruijn32tab), ("math/bits.deBruijn64tab", laid_math_bits_deBruijn64tab), ("internal/strconv.uint64pow10", laid_internal_strconv_uint64pow10)] }
def HoursLaterSaid : Prop := hoursLaterRow.holds Tryd.pinned (OpenSpec.ofChange hoursLaterSpec)

/-- ITS FALSE NEIGHBOUR: 'it returns false'. Refute it at one input. -/
def hoursLaterWrong : ChangeSpec := { name := "hoursLater", fn := fun _ => fun
  | [d1, d2, d3, d4, d5, d6] => { results := [.lit (.bool false)], args := [d1, d2, d3, d4, d5, d6] }
  | _ => none }
def HoursLaterWrongFalsely : Prop := hoursLaterRow.holds Tryd.pinned (OpenSpec.ofChange hoursLaterWrong)

/-- 'waterhourlaw05.HoursCycles': WHATEVER THE INPUT: true; the input reads as it did. -/
def hoursCyclesSpec : ChangeSpec := { name := "hoursCycles", fn := fun _ => fun
  | [d1, d2] => { results := [.lit (.bool true)], args := [d1, d2] }
  | _ => none }
def hoursCyclesRow : OpenClaim := { program := "ytomlfliebolkmaadoor", sum := "49affcf15a005aa9732840cb8ed2109f60003b936ae9d747126f01ff2bfcb12e", func := "waterhour/waterhourlaw05.HoursCycles", spec := "hoursCycles", unfollowed := true, recurses := true, named := ["internal/strconv.uint64pow10", "math/bits.deBruijn32tab", "math/bits.deBruijn64tab"], apart := false, laid := [("math/bits.deBruijn32tab", laid_math_bits_deBruijn32tab), ("math/bits.deBruijn64tab", laid_math_bits_deBruijn64tab), ("internal/strconv.uint64pow10", laid_internal_strconv_uint64pow10)] }
def HoursCyclesSaid : Prop := hoursCyclesRow.holds Tryd.pinned (OpenSpec.ofChange hoursCyclesSpec)

/-- ITS FALSE NEIGHBOUR: 'it returns false'. Refute it at one input. -/
def hoursCyclesWrong : ChangeSpec := { name := "hoursCycles", fn := fun _ => fun
  | [d1, d2] => { results := [.lit (.bool false)], args := [d1, d2] }
  | _ => none }
def HoursCyclesWrongFalsely : Prop := hoursCyclesRow.holds Tryd.pinned (OpenSpec.ofChange hoursCyclesWrong)

/-- 'waterhourlaw05.HoursLines': WHATEVER THE INPUT: true; the input reads as it did. -/
def hoursLinesSpec : ChangeSpec := { name := "hoursLines", fn := fun _ => fun
  | [d1, d2] => { results := [.lit (.bool true)], args := [d1, d2] }
  | _ => none }
def hoursLinesRow : OpenClaim := { program := "ytomlfliebolkmaadoor", sum := "49affcf15a005aa9732840cb8ed2109f60003b936ae9d747126f01ff2bfcb12e", func := "waterhour/waterhourlaw05.HoursLines", spec := "hoursLines", unfollowed := true, recurses := true, named := ["internal/strconv.uint64pow10", "math/bits.deBruijn32tab", "math/bits.deBruijn64tab"], apart := false, laid := [("math/bits.deBruijn32tab", laid_math_bits_deBruijn32tab), ("math/bits.deBruijn64tab", laid_math_bits_deBruijn64tab), ("internal/strconv.uint64pow10", laid_internal_strconv_uint64pow10)] }
def HoursLinesSaid : Prop := hoursLinesRow.holds Tryd.pinned (OpenSpec.ofChange hoursLinesSpec)

/-- ITS FALSE NEIGHBOUR: 'it returns false'. Refute it at one input. -/
def hoursLinesWrong : ChangeSpec := { name := "hoursLines", fn := fun _ => fun
  | [d1, d2] => { results := [.lit (.bool false)], args := [d1, d2] }
  | _ => none }
def HoursLinesWrongFalsely : Prop := hoursLinesRow.holds Tryd.pinned (OpenSpec.ofChange hoursLinesWrong)

/-- 'waterhourlaw05.HoursTexts': WHATEVER THE INPUT: true; the input reads as it did. -/
def hoursTextsSpec : ChangeSpec := { name := "hoursTexts", fn := fun _ => fun
  | [d1, d2] => { results := [.lit (.bool true)], args := [d1, d2] }
  | _ => none }
def hoursTextsRow : OpenClaim := { program := "ytomlfliebolkmaadoor", sum := "49affcf15a005aa9732840cb8ed2109f60003b936ae9d747126f01ff2bfcb12e", func := "waterhour/waterhourlaw05.HoursTexts", spec := "hoursTexts", inPlace := ["internal/bytealg.IndexByteString", "internal/bytealg.IndexString"], unfollowed := true, recurses := true, named := ["internal/strconv.uint64pow10", "math/bits.deBruijn32tab", "math/bits.deBruijn64tab", "internal/bytealg.MaxLen", "strconv.ErrSyntax", "strconv.ErrRange"], apart := false, laid := [("math/bits.deBruijn32tab", laid_math_bits_deBruijn32tab), ("math/bits.deBruijn64tab", laid_math_bits_deBruijn64tab), ("internal/strconv.uint64pow10", laid_internal_strconv_uint64pow10), ("strconv.ErrRange", laid_strconv_ErrRange), ("strconv.ErrSyntax", laid_strconv_ErrSyntax)] }
def HoursTextsSaid : Prop := hoursTextsRow.holds Tryd.pinned (OpenSpec.ofChange hoursTextsSpec)

/-- ITS FALSE NEIGHBOUR: 'it returns false'. Refute it at one input. -/
def hoursTextsWrong : ChangeSpec := { name := "hoursTexts", fn := fun _ => fun
  | [d1, d2] => { results := [.lit (.bool false)], args := [d1, d2] }
  | _ => none }
def HoursTextsWrongFalsely : Prop := hoursTextsRow.holds Tryd.pinned (OpenSpec.ofChange hoursTextsWrong)

/-- 'waterhourlaw05.HoursDates': WHATEVER THE INPUT: true; the input reads as it did. -/
def hoursDatesSpec : ChangeSpec := { name := "hoursDates", fn := fun _ => fun
  | [d1, d2] => { results := [.lit (.bool true)], args := [d1, d2] }
  | _ => none }
def hoursDatesRow : OpenClaim := { program := "ytomlfliebolkmaadoor", sum := "49affcf15a005aa9732840cb8ed2109f60003b936ae9d747126f01ff2bfcb12e", func := "waterhour/waterhourlaw05.HoursDates", spec := "hoursDates", unfollowed := true, recurses := true, named := ["internal/strconv.uint64pow10", "math/bits.deBruijn32tab", "math/bits.deBruijn64tab"], apart := false, laid := [("math/bits.deBruijn32tab", laid_math_bits_deBruijn32tab), ("math/bits.deBruijn64tab", laid_math_bits_deBruijn64tab), ("internal/strconv.uint64pow10", laid_internal_strconv_uint64pow10)] }
def HoursDatesSaid : Prop := hoursDatesRow.holds Tryd.pinned (OpenSpec.ofChange hoursDatesSpec)

/-- ITS FALSE NEIGHBOUR: 'it returns false'. Refute it at one input. -/
def hoursDatesWrong : ChangeSpec := { name := "hoursDates", fn := fun _ => fun
  | [d1, d2] => { results := [.lit (.bool false)], args := [d1, d2] }
  | _ => none }
def HoursDatesWrongFalsely : Prop := hoursDatesRow.holds Tryd.pinned (OpenSpec.ofChange hoursDatesWrong)

/-- 'waterhourlaw05.HoursCalendars': WHATEVER THE INPUT: true; the input reads as it did. -/
def hoursCalendarsSpec : ChangeSpec := { name := "hoursCalendars", fn := fun _ => fun
  | [d1, d2] => { results := [.lit (.bool true)], args := [d1, d2] }
  | _ => none }
def hoursCalendarsRow : OpenClaim := { program := "ytomlfliebolkmaadoor", sum := "49affcf15a005aa9732840cb8ed2109f60003b936ae9d747126f01ff2bfcb12e", func := "waterhour/waterhourlaw05.HoursCalendars", spec := "hoursCalendars", unfollowed := true, recurses := true, named := ["internal/strconv.uint64pow10", "math/bits.deBruijn32tab", "math/bits.deBruijn64tab"], apart := false, laid := [("math/bits.deBruijn32tab", laid_math_bits_deBruijn32tab), ("math/bits.deBruijn64tab", laid_math_bits_deBruijn64tab), ("internal/strconv.uint64pow10", laid_internal_strconv_uint64pow10)] }
def HoursCalendarsSaid : Prop := hoursCalendarsRow.holds Tryd.pinned (OpenSpec.ofChange hoursCalendarsSpec)

/-- ITS FALSE NEIGHBOUR: 'it returns false'. Refute it at one input. -/
def hoursCalendarsWrong : ChangeSpec := { name := "hoursCalendars", fn := fun _ => fun
  | [d1, d2] => { results := [.lit (.bool false)], args := [d1, d2] }
  | _ => none }
def HoursCalendarsWrongFalsely : Prop := hoursCalendarsRow.holds Tryd.pinned (OpenSpec.ofChange hoursCalendarsWrong)

/-- 'waterhourlaw05.HoursFeasts': WHATEVER THE INPUT: true; the input reads as it did. -/
def hoursFeastsSpec : ChangeSpec := { name := "hoursFeasts", fn := fun _ => fun
  | [d1, d2] => { results := [.lit (.bool true)], args := [d1, d2] }
  | _ => none }
def hoursFeastsRow : OpenClaim := { program := "ytomlfliebolkmaadoor", sum := "49affcf15a005aa9732840cb8ed2109f60003b936ae9d747126f01ff2bfcb12e", func := "waterhour/waterhourlaw05.HoursFeasts", spec := "hoursFeasts", unfollowed := true, recurses := true, named := ["internal/strconv.uint64pow10", "math/bits.deBruijn32tab", "math/bits.deBruijn64tab"], apart := false, laid := [("math/bits.deBruijn32tab", laid_math_bits_deBruijn32tab), ("math/bits.deBruijn64tab", laid_math_bits_deBruijn64tab), ("internal/strconv.uint64pow10", laid_internal_strconv_uint64pow10)] }
def HoursFeastsSaid : Prop := hoursFeastsRow.holds Tryd.pinned (OpenSpec.ofChange hoursFeastsSpec)

/-- ITS FALSE NEIGHBOUR: 'it returns false'. Refute it at one input. -/
def hoursFeastsWrong : ChangeSpec := { name := "hoursFeasts", fn := fun _ => fun
  | [d1, d2] => { results := [.lit (.bool false)], args := [d1, d2] }
  | _ => none }
def HoursFeastsWrongFalsely : Prop := hoursFeastsRow.holds Tryd.pinned (OpenSpec.ofChange hoursFeastsWrong)

/-- 'waterhourlaw05.HoursBothWays': WHATEVER THE INPUT: true; the input reads as it did. -/
def hoursBothWaysSpec : ChangeSpec := { name := "hoursBothWays", fn := fun _ => fun
  | [d1, d2, d3, d4] => { results := [.lit (.bool true)], args := [d1, d2, d3, d4] }
  | _ => none }
def hoursBothWaysRow : OpenClaim := { program := "ytomlfliebolkmaadoor", sum := "49affcf15a005aa9732840cb8ed2109f60003b936ae9d747126f01ff2bfcb12e", func := "waterhour/waterhourlaw05.HoursBothWays", spec := "hoursBothWays", unfollowed := true, recurses := true, named := ["internal/strconv.uint64pow10", "math/bits.deBruijn32tab", "math/bits.deBruijn64tab"], apart := false, laid := [("math/bits.deBruijn32tab", laid_math_bits_deBruijn32tab), ("math/bits.deBruijn64tab", laid_math_bits_deBruijn64tab), ("internal/strconv.uint64pow10", laid_internal_strconv_uint64pow10)] }
def HoursBothWaysSaid : Prop := hoursBothWaysRow.holds Tryd.pinned (OpenSpec.ofChange hoursBothWaysSpec)

/-- ITS FALSE NEIGHBOUR: 'it returns false'. Refute it at one input. -/
def hoursBothWaysWrong : ChangeSpec := { name := "hoursBothWays", fn := fun _ => fun
  | [d1, d2, d3, d4] => { results := [.lit (.bool false)], args := [d1, d2, d3, d4] }
  | _ => none }
def HoursBothWaysWrongFalsely : Prop := hoursBothWaysRow.holds Tryd.pinned (OpenSpec.ofChange hoursBothWaysWrong)

/-- 'waterhourlaw05.HoursTwelve': WHATEVER THE INPUT: true; the input reads as it did. -/
def hoursTwelveSpec : ChangeSpec := { name := "hoursTwelve", fn := fun _ => fun
  | [d1, d2, d3] => { results := [.lit (.bool true)], args := [d1, d2, d3] }
  | _ => none }
def hoursTwelveRow : OpenClaim := { program := "ytomlfliebolkmaadoor", sum := "49affcf15a005aa9732840cb8ed2109f60003b936ae9d747126f01ff2bfcb12e", func := "waterhour/waterhourlaw05.HoursTwelve", spec := "hoursTwelve", unfollowed := true, recurses := true, named := ["internal/strconv.uint64pow10", "math/bits.deBruijn32tab", "math/bits.deBruijn64tab"], apart := false, laid := [("math/bits.deBruijn32tab", laid_math_bits_deBruijn32tab), ("math/bits.deBruijn64tab", laid_math_bits_deBruijn64tab), ("internal/strconv.uint64pow10", laid_internal_strconv_uint64pow10)] }
def HoursTwelveSaid : Prop := hoursTwelveRow.holds Tryd.pinned (OpenSpec.ofChange hoursTwelveSpec)

/-- ITS FALSE NEIGHBOUR: 'it returns false'. Refute it at one input. -/
def hoursTwelveWrong : ChangeSpec := { name := "hoursTwelve", fn := fun _ => fun
  | [d1, d2, d3] => { results := [.lit (.bool false)], args := [d1, d2, d3] }
  | _ => none }
def HoursTwelveWrongFalsely : Prop := hoursTwelveRow.holds Tryd.pinned (OpenSpec.ofChange hoursTwelveWrong)

/-- 'waterhourlaw05.HoursAdd': WHATEVER THE INPUT: true; the input reads as it did. -/
def hoursAddSpec : ChangeSpec := { name := "hoursAdd", fn := fun _ => fun
  | [d1, d2, d3, d4, d5] => { results := [.lit (.bool true)], args := [d1, d2, d3, d4, d5] }
  | _ => none }
def hoursAddRow : OpenClaim := { program := "ytomlfliebolkmaadoor", sum := "49affcf15a005aa9732840cb8ed2109f60003b936ae9d747126f01ff2bfcb12e", func := "waterhour/waterhourlaw05.HoursAdd", spec := "hoursAdd", unfollowed := true, recurses := true, named := ["internal/strconv.uint64pow10", "math/bits.deBruijn32tab", "math/bits.deBruijn64tab"], apart := false, laid := [("math/bits.deBruijn32tab", laid_math_bits_deBruijn32tab), ("math/bits.deBruijn64tab", laid_math_bits_deBruijn64tab), ("internal/strconv.uint64pow10", laid_internal_strconv_uint64pow10)] }
def HoursAddSaid : Prop := hoursAddRow.holds Tryd.pinned (OpenSpec.ofChange hoursAddSpec)

/-- ITS FALSE NEIGHBOUR: 'it returns false'. Refute it at one input. -/
def hoursAddWrong : ChangeSpec := { name := "hoursAdd", fn := fun _ => fun
  | [d1, d2, d3, d4, d5] => { results := [.lit (.bool false)], args := [d1, d2, d3, d4, d5] }
  | _ => none }
def HoursAddWrongFalsely : Prop := hoursAddRow.holds Tryd.pinned (OpenSpec.ofChange hoursAddWrong)

/-- 'waterhourlaw05.HoursMoved': WHATEVER THE INPUT: true; the input reads as it did. -/
def hoursMovedSpec : ChangeSpec := { name := "hoursMoved", fn := fun _ => fun
  | [d1, d2, d3, d4, d5] => { results := [.lit (.bool true)], args := [d1, d2, d3, d4, d5] }
  | _ => none }
def hoursMovedRow : OpenClaim := { program := "ytomlfliebolkmaadoor", sum := "49affcf15a005aa9732840cb8ed2109f60003b936ae9d747126f01ff2bfcb12e", func := "waterhour/waterhourlaw05.HoursMoved", spec := "hoursMoved", unfollowed := true, recurses := true, named := ["internal/strconv.uint64pow10", "math/bits.deBruijn32tab", "math/bits.deBruijn64tab"], apart := false, laid := [("math/bits.deBruijn32tab", laid_math_bits_deBruijn32tab), ("math/bits.deBruijn64tab", laid_math_bits_deBruijn64tab), ("internal/strconv.uint64pow10", laid_internal_strconv_uint64pow10)] }
def HoursMovedSaid : Prop := hoursMovedRow.holds Tryd.pinned (OpenSpec.ofChange hoursMovedSpec)

/-- ITS FALSE NEIGHBOUR: 'it returns false'. Refute it at one input. -/
def hoursMovedWrong : ChangeSpec := { name := "hoursMoved", fn := fun _ => fun
  | [d1, d2, d3, d4, d5] => { results := [.lit (.bool false)], args := [d1, d2, d3, d4, d5] }
  | _ => none }
def HoursMovedWrongFalsely : Prop := hoursMovedRow.holds Tryd.pinned (OpenSpec.ofChange hoursMovedWrong)

/-- 'waterhourlaw05.HoursBegin': WHATEVER THE INPUT: true; the input reads as it did. -/
def hoursBeginSpec : ChangeSpec := { name := "hoursBegin", fn := fun _ => fun
  | [d1, d2, d3] => { results := [.lit (.bool true)], args := [d1, d2, d3] }
  | _ => none }
def hoursBeginRow : OpenClaim := { program := "ytomlfliebolkmaadoor", sum := "49affcf15a005aa9732840cb8ed2109f60003b936ae9d747126f01ff2bfcb12e", func := "waterhour/waterhourlaw05.HoursBegin", spec := "hoursBegin", unfollowed := true, recurses := true, named := ["internal/strconv.uint64pow10", "math/bits.deBruijn32tab", "math/bits.deBruijn64tab"], apart := false, laid := [("math/bits.deBruijn32tab", laid_math_bits_deBruijn32tab), ("math/bits.deBruijn64tab", laid_math_bits_deBruijn64tab), ("internal/strconv.uint64pow10", laid_internal_strconv_uint64pow10)] }
def HoursBeginSaid : Prop := hoursBeginRow.holds Tryd.pinned (OpenSpec.ofChange hoursBeginSpec)

/-- ITS FALSE NEIGHBOUR: 'it returns false'. Refute it at one input. -/
def hoursBeginWrong : ChangeSpec := { name := "hoursBegin", fn := fun _ => fun
  | [d1, d2, d3] => { results := [.lit (.bool false)], args := [d1, d2, d3] }
  | _ => none }
def HoursBeginWrongFalsely : Prop := hoursBeginRow.holds Tryd.pinned (OpenSpec.ofChange hoursBeginWrong)

/-- 'waterhourlaw05.HoursMoments': WHATEVER THE INPUT: true; the input reads as it did. -/
def hoursMomentsSpec : ChangeSpec := { name := "hoursMoments", fn := fun _ => fun
  | [d1, d2, d3, d4] => { results := [.lit (.bool true)], args := [d1, d2, d3, d4] }
  | _ => none }
def hoursMomentsRow : OpenClaim := { program := "ytomlfliebolkmaadoor", sum := "49affcf15a005aa9732840cb8ed2109f60003b936ae9d747126f01ff2bfcb12e", func := "waterhour/waterhourlaw05.HoursMoments", spec := "hoursMoments", unfollowed := true, recurses := true, named := ["internal/strconv.uint64pow10", "math/bits.deBruijn32tab", "math/bits.deBruijn64tab"], apart := false, laid := [("math/bits.deBruijn32tab", laid_math_bits_deBruijn32tab), ("math/bits.deBruijn64tab", laid_math_bits_deBruijn64tab), ("internal/strconv.uint64pow10", laid_internal_strconv_uint64pow10)] }
def HoursMomentsSaid : Prop := hoursMomentsRow.holds Tryd.pinned (OpenSpec.ofChange hoursMomentsSpec)

/-- ITS FALSE NEIGHBOUR: 'it returns false'. Refute it at one input. -/
def hoursMomentsWrong : ChangeSpec := { name := "hoursMoments", fn := fun _ => fun
  | [d1, d2, d3, d4] => { results := [.lit (.bool false)], args := [d1, d2, d3, d4] }
  | _ => none }
def HoursMomentsWrongFalsely : Prop := hoursMomentsRow.holds Tryd.pinned (OpenSpec.ofChange hoursMomentsWrong)

/-- 'waterhourlaw05.HoursBells': WHATEVER THE INPUT: true; the input reads as it did. -/
def hoursBellsSpec : ChangeSpec := { name := "hoursBells", fn := fun _ => fun
  | [d1, d2] => { results := [.lit (.bool true)], args := [d1, d2] }
  | _ => none }
def hoursBellsRow : OpenClaim := { program := "ytomlfliebolkmaadoor", sum := "49affcf15a005aa9732840cb8ed2109f60003b936ae9d747126f01ff2bfcb12e", func := "waterhour/waterhourlaw05.HoursBells", spec := "hoursBells", unfollowed := true, recurses := true, named := ["internal/strconv.uint64pow10", "math/bits.deBruijn32tab", "math/bits.deBruijn64tab"], apart := false, laid := [("math/bits.deBruijn32tab", laid_math_bits_deBruijn32tab), ("math/bits.deBruijn64tab", laid_math_bits_deBruijn64tab), ("internal/strconv.uint64pow10", laid_internal_strconv_uint64pow10)] }
def HoursBellsSaid : Prop := hoursBellsRow.holds Tryd.pinned (OpenSpec.ofChange hoursBellsSpec)

/-- ITS FALSE NEIGHBOUR: 'it returns false'. Refute it at one input. -/
def hoursBellsWrong : ChangeSpec := { name := "hoursBells", fn := fun _ => fun
  | [d1, d2] => { results := [.lit (.bool false)], args := [d1, d2] }
  | _ => none }
def HoursBellsWrongFalsely : Prop := hoursBellsRow.holds Tryd.pinned (OpenSpec.ofChange hoursBellsWrong)

/- THE SECOND FORM. 'bulk': how many values and letters a reading holds, each counted each time it is reached (what is shared counts as often as it is met; a slice's spare places count too). A statement '..UptoSaid' is the law's where the arguments, and the package variables that the reading takes, are together of bulk at most 1048576: NARROWER than '..Said'. Prove '..Said' where nothing that the law and all that it calls make is longer than what came in: it says more and counts as full. Else prove '..UptoSaid'. A law counts once. -/
mutual
def uptoBulk {H : Type} : DataW H → Nat
  | .lit (.string bytes) => bytes.length + 1
  | .lit _ => 1
  | .nil => 1
  | .ptr d => uptoBulk d + 1
  | .slice elems spare => uptoBulkAll elems + uptoBulkAll spare + 1
  | .agg parts => uptoBulkAll parts + 1
  | .iface _ d => uptoBulk d + 1
  | .map entries => uptoBulkEntries entries + 1
  | .held _ => 1
def uptoBulkAll {H : Type} : List (DataW H) → Nat
  | [] => 0
  | d :: r => uptoBulk d + uptoBulkAll r
def uptoBulkEntries {H : Type} : List (Lit × DataW H) → Nat
  | [] => 0
  | x :: r => uptoBulkEntry x + uptoBulkEntries r
def uptoBulkEntry {H : Type} : Lit × DataW H → Nat
  | (.string bytes, d) => bytes.length + uptoBulk d + 1
  | (_, d) => uptoBulk d + 1
 end
def uptoSmall : (H : Type) → List (DataW H) → Bool := fun _ ds => decide (uptoBulkAll ds ≤ 1048576)
def OpenSpec.upto (s : _root_.Go.ChangeSpec) : _root_.Go.OpenSpec := { _root_.Go.OpenSpec.ofChange s with cond := some uptoSmall }

/-- 'waterhourlaw05.HoursLight', WHERE WHAT IT READS IS OF BULK AT MOST 1048576: true; the input reads as it did. -/
def hoursLightUptoRow : OpenClaim := { program := "ytomlfliebolkmaadoor", sum := "49affcf15a005aa9732840cb8ed2109f60003b936ae9d747126f01ff2bfcb12e", func := "waterhour/waterhourlaw05.HoursLight", spec := "hoursLight", unfollowed := true, recurses := true, named := ["internal/strconv.uint64pow10", "math/bits.deBruijn32tab", "math/bits.deBruijn64tab"], apart := false, laid := [("math/bits.deBruijn32tab", laid_math_bits_deBruijn32tab), ("math/bits.deBruijn64tab", laid_math_bits_deBruijn64tab), ("internal/strconv.uint64pow10", laid_internal_strconv_uint64pow10)], narrowed := true }
def HoursLightUptoSaid : Prop := hoursLightUptoRow.holds Tryd.pinned (OpenSpec.upto hoursLightSpec)

/-- 'waterhourlaw05.HoursLater', WHERE WHAT IT READS IS OF BULK AT MOST 1048576: true; the input reads as it did. -/
def hoursLaterUptoRow : OpenClaim := { program := "ytomlfliebolkmaadoor", sum := "49affcf15a005aa9732840cb8ed2109f60003b936ae9d747126f01ff2bfcb12e", func := "waterhour/waterhourlaw05.HoursLater", spec := "hoursLater", unfollowed := true, recurses := true, named := ["internal/strconv.uint64pow10", "math/bits.deBruijn32tab", "math/bits.deBruijn64tab"], apart := false, laid := [("math/bits.deBruijn32tab", laid_math_bits_deBruijn32tab), ("math/bits.deBruijn64tab", laid_math_bits_deBruijn64tab), ("internal/strconv.uint64pow10", laid_internal_strconv_uint64pow10)], narrowed := true }
def HoursLaterUptoSaid : Prop := hoursLaterUptoRow.holds Tryd.pinned (OpenSpec.upto hoursLaterSpec)

/-- 'waterhourlaw05.HoursCycles', WHERE WHAT IT READS IS OF BULK AT MOST 1048576: true; the input reads as it did. -/
def hoursCyclesUptoRow : OpenClaim := { program := "ytomlfliebolkmaadoor", sum := "49affcf15a005aa9732840cb8ed2109f60003b936ae9d747126f01ff2bfcb12e", func := "waterhour/waterhourlaw05.HoursCycles", spec := "hoursCycles", unfollowed := true, recurses := true, named := ["internal/strconv.uint64pow10", "math/bits.deBruijn32tab", "math/bits.deBruijn64tab"], apart := false, laid := [("math/bits.deBruijn32tab", laid_math_bits_deBruijn32tab), ("math/bits.deBruijn64tab", laid_math_bits_deBruijn64tab), ("internal/strconv.uint64pow10", laid_internal_strconv_uint64pow10)], narrowed := true }
def HoursCyclesUptoSaid : Prop := hoursCyclesUptoRow.holds Tryd.pinned (OpenSpec.upto hoursCyclesSpec)

/-- 'waterhourlaw05.HoursLines', WHERE WHAT IT READS IS OF BULK AT MOST 1048576: true; the input reads as it did. -/
def hoursLinesUptoRow : OpenClaim := { program := "ytomlfliebolkmaadoor", sum := "49affcf15a005aa9732840cb8ed2109f60003b936ae9d747126f01ff2bfcb12e", func := "waterhour/waterhourlaw05.HoursLines", spec := "hoursLines", unfollowed := true, recurses := true, named := ["internal/strconv.uint64pow10", "math/bits.deBruijn32tab", "math/bits.deBruijn64tab"], apart := false, laid := [("math/bits.deBruijn32tab", laid_math_bits_deBruijn32tab), ("math/bits.deBruijn64tab", laid_math_bits_deBruijn64tab), ("internal/strconv.uint64pow10", laid_internal_strconv_uint64pow10)], narrowed := true }
def HoursLinesUptoSaid : Prop := hoursLinesUptoRow.holds Tryd.pinned (OpenSpec.upto hoursLinesSpec)

/-- 'waterhourlaw05.HoursTexts', WHERE WHAT IT READS IS OF BULK AT MOST 1048576: true; the input reads as it did. -/
def hoursTextsUptoRow : OpenClaim := { program := "ytomlfliebolkmaadoor", sum := "49affcf15a005aa9732840cb8ed2109f60003b936ae9d747126f01ff2bfcb12e", func := "waterhour/waterhourlaw05.HoursTexts", spec := "hoursTexts", inPlace := ["internal/bytealg.IndexByteString", "internal/bytealg.IndexString"], unfollowed := true, recurses := true, named := ["internal/strconv.uint64pow10", "math/bits.deBruijn32tab", "math/bits.deBruijn64tab", "internal/bytealg.MaxLen", "strconv.ErrSyntax", "strconv.ErrRange"], apart := false, laid := [("math/bits.deBruijn32tab", laid_math_bits_deBruijn32tab), ("math/bits.deBruijn64tab", laid_math_bits_deBruijn64tab), ("internal/strconv.uint64pow10", laid_internal_strconv_uint64pow10), ("strconv.ErrRange", laid_strconv_ErrRange), ("strconv.ErrSyntax", laid_strconv_ErrSyntax)], narrowed := true }
def HoursTextsUptoSaid : Prop := hoursTextsUptoRow.holds Tryd.pinned (OpenSpec.upto hoursTextsSpec)

/-- 'waterhourlaw05.HoursDates', WHERE WHAT IT READS IS OF BULK AT MOST 1048576: true; the input reads as it did. -/
def hoursDatesUptoRow : OpenClaim := { program := "ytomlfliebolkmaadoor", sum := "49affcf15a005aa9732840cb8ed2109f60003b936ae9d747126f01ff2bfcb12e", func := "waterhour/waterhourlaw05.HoursDates", spec := "hoursDates", unfollowed := true, recurses := true, named := ["internal/strconv.uint64pow10", "math/bits.deBruijn32tab", "math/bits.deBruijn64tab"], apart := false, laid := [("math/bits.deBruijn32tab", laid_math_bits_deBruijn32tab), ("math/bits.deBruijn64tab", laid_math_bits_deBruijn64tab), ("internal/strconv.uint64pow10", laid_internal_strconv_uint64pow10)], narrowed := true }
def HoursDatesUptoSaid : Prop := hoursDatesUptoRow.holds Tryd.pinned (OpenSpec.upto hoursDatesSpec)

/-- 'waterhourlaw05.HoursCalendars', WHERE WHAT IT READS IS OF BULK AT MOST 1048576: true; the input reads as it did. -/
def hoursCalendarsUptoRow : OpenClaim := { program := "ytomlfliebolkmaadoor", sum := "49affcf15a005aa9732840cb8ed2109f60003b936ae9d747126f01ff2bfcb12e", func := "waterhour/waterhourlaw05.HoursCalendars", spec := "hoursCalendars", unfollowed := true, recurses := true, named := ["internal/strconv.uint64pow10", "math/bits.deBruijn32tab", "math/bits.deBruijn64tab"], apart := false, laid := [("math/bits.deBruijn32tab", laid_math_bits_deBruijn32tab), ("math/bits.deBruijn64tab", laid_math_bits_deBruijn64tab), ("internal/strconv.uint64pow10", laid_internal_strconv_uint64pow10)], narrowed := true }
def HoursCalendarsUptoSaid : Prop := hoursCalendarsUptoRow.holds Tryd.pinned (OpenSpec.upto hoursCalendarsSpec)

/-- 'waterhourlaw05.HoursFeasts', WHERE WHAT IT READS IS OF BULK AT MOST 1048576: true; the input reads as it did. -/
def hoursFeastsUptoRow : OpenClaim := { program := "ytomlfliebolkmaadoor", sum := "49affcf15a005aa9732840cb8ed2109f60003b936ae9d747126f01ff2bfcb12e", func := "waterhour/waterhourlaw05.HoursFeasts", spec := "hoursFeasts", unfollowed := true, recurses := true, named := ["internal/strconv.uint64pow10", "math/bits.deBruijn32tab", "math/bits.deBruijn64tab"], apart := false, laid := [("math/bits.deBruijn32tab", laid_math_bits_deBruijn32tab), ("math/bits.deBruijn64tab", laid_math_bits_deBruijn64tab), ("internal/strconv.uint64pow10", laid_internal_strconv_uint64pow10)], narrowed := true }
def HoursFeastsUptoSaid : Prop := hoursFeastsUptoRow.holds Tryd.pinned (OpenSpec.upto hoursFeastsSpec)

/-- 'waterhourlaw05.HoursBothWays', WHERE WHAT IT READS IS OF BULK AT MOST 1048576: true; the input reads as it did. -/
def hoursBothWaysUptoRow : OpenClaim := { program := "ytomlfliebolkmaadoor", sum := "49affcf15a005aa9732840cb8ed2109f60003b936ae9d747126f01ff2bfcb12e", func := "waterhour/waterhourlaw05.HoursBothWays", spec := "hoursBothWays", unfollowed := true, recurses := true, named := ["internal/strconv.uint64pow10", "math/bits.deBruijn32tab", "math/bits.deBruijn64tab"], apart := false, laid := [("math/bits.deBruijn32tab", laid_math_bits_deBruijn32tab), ("math/bits.deBruijn64tab", laid_math_bits_deBruijn64tab), ("internal/strconv.uint64pow10", laid_internal_strconv_uint64pow10)], narrowed := true }
def HoursBothWaysUptoSaid : Prop := hoursBothWaysUptoRow.holds Tryd.pinned (OpenSpec.upto hoursBothWaysSpec)

/-- 'waterhourlaw05.HoursTwelve', WHERE WHAT IT READS IS OF BULK AT MOST 1048576: true; the input reads as it did. -/
def hoursTwelveUptoRow : OpenClaim := { program := "ytomlfliebolkmaadoor", sum := "49affcf15a005aa9732840cb8ed2109f60003b936ae9d747126f01ff2bfcb12e", func := "waterhour/waterhourlaw05.HoursTwelve", spec := "hoursTwelve", unfollowed := true, recurses := true, named := ["internal/strconv.uint64pow10", "math/bits.deBruijn32tab", "math/bits.deBruijn64tab"], apart := false, laid := [("math/bits.deBruijn32tab", laid_math_bits_deBruijn32tab), ("math/bits.deBruijn64tab", laid_math_bits_deBruijn64tab), ("internal/strconv.uint64pow10", laid_internal_strconv_uint64pow10)], narrowed := true }
def HoursTwelveUptoSaid : Prop := hoursTwelveUptoRow.holds Tryd.pinned (OpenSpec.upto hoursTwelveSpec)

/-- 'waterhourlaw05.HoursAdd', WHERE WHAT IT READS IS OF BULK AT MOST 1048576: true; the input reads as it did. -/
def hoursAddUptoRow : OpenClaim := { program := "ytomlfliebolkmaadoor", sum := "49affcf15a005aa9732840cb8ed2109f60003b936ae9d747126f01ff2bfcb12e", func := "waterhour/waterhourlaw05.HoursAdd", spec := "hoursAdd", unfollowed := true, recurses := true, named := ["internal/strconv.uint64pow10", "math/bits.deBruijn32tab", "math/bits.deBruijn64tab"], apart := false, laid := [("math/bits.deBruijn32tab", laid_math_bits_deBruijn32tab), ("math/bits.deBruijn64tab", laid_math_bits_deBruijn64tab), ("internal/strconv.uint64pow10", laid_internal_strconv_uint64pow10)], narrowed := true }
def HoursAddUptoSaid : Prop := hoursAddUptoRow.holds Tryd.pinned (OpenSpec.upto hoursAddSpec)

/-- 'waterhourlaw05.HoursMoved', WHERE WHAT IT READS IS OF BULK AT MOST 1048576: true; the input reads as it did. -/
def hoursMovedUptoRow : OpenClaim := { program := "ytomlfliebolkmaadoor", sum := "49affcf15a005aa9732840cb8ed2109f60003b936ae9d747126f01ff2bfcb12e", func := "waterhour/waterhourlaw05.HoursMoved", spec := "hoursMoved", unfollowed := true, recurses := true, named := ["internal/strconv.uint64pow10", "math/bits.deBruijn32tab", "math/bits.deBruijn64tab"], apart := false, laid := [("math/bits.deBruijn32tab", laid_math_bits_deBruijn32tab), ("math/bits.deBruijn64tab", laid_math_bits_deBruijn64tab), ("internal/strconv.uint64pow10", laid_internal_strconv_uint64pow10)], narrowed := true }
def HoursMovedUptoSaid : Prop := hoursMovedUptoRow.holds Tryd.pinned (OpenSpec.upto hoursMovedSpec)

/-- 'waterhourlaw05.HoursBegin', WHERE WHAT IT READS IS OF BULK AT MOST 1048576: true; the input reads as it did. -/
def hoursBeginUptoRow : OpenClaim := { program := "ytomlfliebolkmaadoor", sum := "49affcf15a005aa9732840cb8ed2109f60003b936ae9d747126f01ff2bfcb12e", func := "waterhour/waterhourlaw05.HoursBegin", spec := "hoursBegin", unfollowed := true, recurses := true, named := ["internal/strconv.uint64pow10", "math/bits.deBruijn32tab", "math/bits.deBruijn64tab"], apart := false, laid := [("math/bits.deBruijn32tab", laid_math_bits_deBruijn32tab), ("math/bits.deBruijn64tab", laid_math_bits_deBruijn64tab), ("internal/strconv.uint64pow10", laid_internal_strconv_uint64pow10)], narrowed := true }
def HoursBeginUptoSaid : Prop := hoursBeginUptoRow.holds Tryd.pinned (OpenSpec.upto hoursBeginSpec)

/-- 'waterhourlaw05.HoursMoments', WHERE WHAT IT READS IS OF BULK AT MOST 1048576: true; the input reads as it did. -/
def hoursMomentsUptoRow : OpenClaim := { program := "ytomlfliebolkmaadoor", sum := "49affcf15a005aa9732840cb8ed2109f60003b936ae9d747126f01ff2bfcb12e", func := "waterhour/waterhourlaw05.HoursMoments", spec := "hoursMoments", unfollowed := true, recurses := true, named := ["internal/strconv.uint64pow10", "math/bits.deBruijn32tab", "math/bits.deBruijn64tab"], apart := false, laid := [("math/bits.deBruijn32tab", laid_math_bits_deBruijn32tab), ("math/bits.deBruijn64tab", laid_math_bits_deBruijn64tab), ("internal/strconv.uint64pow10", laid_internal_strconv_uint64pow10)], narrowed := true }
def HoursMomentsUptoSaid : Prop := hoursMomentsUptoRow.holds Tryd.pinned (OpenSpec.upto hoursMomentsSpec)

/-- 'waterhourlaw05.HoursBells', WHERE WHAT IT READS IS OF BULK AT MOST 1048576: true; the input reads as it did. -/
def hoursBellsUptoRow : OpenClaim := { program := "ytomlfliebolkmaadoor", sum := "49affcf15a005aa9732840cb8ed2109f60003b936ae9d747126f01ff2bfcb12e", func := "waterhour/waterhourlaw05.HoursBells", spec := "hoursBells", unfollowed := true, recurses := true, named := ["internal/strconv.uint64pow10", "math/bits.deBruijn32tab", "math/bits.deBruijn64tab"], apart := false, laid := [("math/bits.deBruijn32tab", laid_math_bits_deBruijn32tab), ("math/bits.deBruijn64tab", laid_math_bits_deBruijn64tab), ("internal/strconv.uint64pow10", laid_internal_strconv_uint64pow10)], narrowed := true }
def HoursBellsUptoSaid : Prop := hoursBellsUptoRow.holds Tryd.pinned (OpenSpec.upto hoursBellsSpec)

end Rows
end Go.Proofs.YtomlfliebolkmaaDoor
