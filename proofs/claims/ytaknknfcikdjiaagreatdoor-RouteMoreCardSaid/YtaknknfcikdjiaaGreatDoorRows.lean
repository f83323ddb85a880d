/-
  NARROWER THAN 'FOR EVERY INPUT', by the rows' own cells (each row's printed sentence says how): RoutePasses: laid · RouteMore: laid · RouteLess: laid · RouteSorted: laid · RouteEmpty: laid · RouteFinds: laid · RouteLongest: laid.
  DERIVED. THE GIVEN ROWS OF THIS SEAT. 7 by the template 'for every input the law returns true; each argument reads behind the call as it read before'; 0 by the template 'total and deterministic' (their statements: YtaknknfcikdjiaaGreatDoorTotals.lean).
  GIVEN WITH THE SEED: the statements are not yours to turn. If you find one false, say at which input.
  Laid BY PROGRAM, IN A SANDBOX (cutbox-rows.mjs): the forced cells as the released guide's own fill.sh prints them over the translation 9d7258913f53d69a… (all of the seat's roots in one cut). By AI agents, Wed Nov 11 2026. No macro, syntax, notation, axiom, sorry.
-/
import Derived.Test.YtaknknfcikdjiaaGreatDoorChecked
import GoSem.Claim
import GoSem.ClaimJoined
import GoSem.ClaimMapViews
import Derived.JoinedTies
import Derived.KernelRfl
namespace Go.Proofs.YtaknknfcikdjiaaGreatDoor
/- THE CELL 'sum', in the pinned program and in every row, IS THE sha256 OF THE DUMP (.gsa) THAT YtaknknfcikdjiaaGreatDoorProg.lean LOADS. Nothing in Lean hashes anything: it is a label: what it is worth is what the hold of that sum in a sandbox is worth. -/
noncomputable def Tryz.pinned : Pinned := { name := "ytaknknfcikdjiaagreatdoor", sum := "9d7258913f53d69a7aa4ea41306eabc6d93c5d0d9021fb222d35fa8ac20a9510", checked := Tryz.checked }
namespace Rows
def none {H : Type} : Left H := { results := [], args := [] }

/- WHAT THE LISTED PACKAGE-LEVEL VARIABLES READ AS WHEN THE CALL BEGINS. Each datum BY PROGRAM (the guide's laid-datum.mjs) off the statement by which the dump's own 'gosem.cut.vars' lays the variable. In a bare row this is a premise. The card (YtaknknfcikdjiaaGreatDoorCards.lean) ties it to the program's text. -/
def laid_math_bits_deBruijn32tab {H : Type} : DataW H := .agg [.lit (.int .u8 0), .lit (.int .u8 1), .lit (.int .u8 28), .lit (.int .u8 2), .lit (.int .u8 29), .lit (.int .u8 14), .lit (.int .u8 24), .lit (.int .u8 3), .lit (.int .u8 30), .lit (.int .u8 22), .lit (.int .u8 20), .lit (.int .u8 15), .lit (.int .u8 25), .lit (.int .u8 17), .lit (.int .u8 4), .lit (.int .u8 8), .lit (.int .u8 31), .lit (.int .u8 27), .lit (.int .u8 13), .lit (.int .u8 23), .lit (.int .u8 21), .lit (.int .u8 19), .lit (.int .u8 16), .lit (.int .u8 7), .lit (.int .u8 26), .lit (.int .u8 12), .lit (.int .u8 18), .lit (.int .u8 6), .lit (.int .u8 11), .lit (.int .u8 5), .lit (.int .u8 10), .lit (.int .u8 9)]
def laid_math_bits_deBruijn64tab {H : Type} : DataW H := .agg [.lit (.int .u8 0), .lit (.int .u8 1), .lit (.int .u8 56), .lit (.int .u8 2), .lit (.int .u8 57), .lit (.int .u8 49), .lit (.int .u8 28), .lit (.int .u8 3), .lit (.int .u8 61), .lit (.int .u8 58), .lit (.int .u8 42), .lit (.int .u8 50), .lit (.int .u8 38), .lit (.int .u8 29), .lit (.int .u8 17), .lit (.int .u8 4), .lit (.int .u8 62), .lit (.int .u8 47), .lit (.int .u8 59), .lit (.int .u8 36), .lit (.int .u8 45), .lit (.int .u8 43), .lit (.int .u8 51), .lit (.int .u8 22), .lit (.int .u8 53), .lit (.int .u8 39), .lit (.int .u8 33), .lit (.int .u8 30), .lit (.int .u8 24), .lit (.int .u8 18), .lit (.int .u8 12), .lit (.int .u8 5), .lit (.int .u8 63), .lit (.int .u8 55), .lit (.int .u8 48), .lit (.int .u8 27), .lit (.int .u8 60), .lit (.int .u8 41), .lit (.int .u8 37), .lit (.int .u8 16), .lit (.int .u8 46), .lit (.int .u8 35), .lit (.int .u8 44), .lit (.int .u8 21), .lit (.int .u8 52), .lit (.int .u8 32), .lit (.int .u8 23), .lit (.int .u8 11), .lit (.int .u8 54), .lit (.int .u8 26), .lit (.int .u8 40), .lit (.int .u8 15), .lit (.int .u8 34), .lit (.int .u8 20), .lit (.int .u8 31), .lit (.int .u8 10), .lit (.int .u8 25), .lit (.int .u8 14), .lit (.int .u8 19), .lit (.int .u8 9), .lit (.int .u8 13), .lit (.int .u8 8), .lit (.int .u8 7), .lit (.int .u8 6)]
def laid_internal_strconv_uint64pow10 {H : Type} : DataW H := .agg [.lit (.int .u64 1), .lit (.int .u64 10), .lit (.int .u64 100), .lit (.int .u64 1000), .lit (.int .u64 10000), .lit (.int .u64 100000), .lit (.int .u64 1000000), .lit (.int .u64 10000000), .lit (.int .u64 100000000), .lit (.int .u64 1000000000), .lit (.int .u64 10000000000), .lit (.int .u64 100000000000), .lit (.int .u64 1000000000000), .lit (.int .u64 10000000000000), .lit (.int .u64 100000000000000), .lit (.int .u64 1000000000000000), .lit (.int .u64 10000000000000000), .lit (.int .u64 100000000000000000), .lit (.int .u64 1000000000000000000), .lit (.int .u64 10000000000000000000)]
def laid_strconv_ErrRange {H : Type} : DataW H := .iface "*errors.errorString" (.ptr (.agg [.lit (.string [118, 97, 108, 117, 101, 32, 111, 117, 116, 32, 111, 102, 32, 114, 97, 110, 103, 101])]))
def laid_strconv_ErrSyntax {H : Type} : DataW H := .iface "*errors.errorString" (.ptr (.agg [.lit (.string [105, 110, 118, 97, 108, 105, 100, 32, 115, 121, 110, 116, 97, 120])]))
def laid_postrider_route_errRoutes {H : Type} : DataW H := .iface "*errors.errorString" (.ptr (.agg [.lit (.string [110, 111, 32, 114, 111, 117, 116, 101, 115])]))
def laid_postrider_route_errEid {H : Type} : DataW H := .iface "*errors.errorString" (.ptr (.agg [.lit (.string [110, 111, 32, 110, 97, 109, 101])]))
def laid_postrider_route_errDenied {H : Type} : DataW H := .iface "*errors.errorString" (.ptr (.agg [.lit (.string [100, 101, 110, 105, 101, 100])]))
def laid_postrider_route_errSize {H : Type} : DataW H := .iface "*errors.errorString" (.ptr (.agg [.lit (.string [116, 111, 111, 32, 103, 114, 101, 97, 116])]))
def laid_postrider_route_errLife {H : Type} : DataW H := .iface "*errors.errorString" (.ptr (.agg [.lit (.string [116, 111, 111, 32, 108, 111, 110, 103])]))
def laid_postrider_route_errNone {H : Type} : DataW H := .iface "*errors.errorString" (.ptr (.agg [.lit (.string [110, 111, 32, 99, 117, 115, 116, 111, 100, 121])]))

/-- 'postriderlaw16.RoutePasses': WHATEVER THE INPUT: true; the input reads as it did. -/
def routePassesSpec : ChangeSpec := { name := "routePasses", fn := fun _ => fun
  | [d1, d2, d3, d4, d5] => { results := [.lit (.bool true)], args := [d1, d2, d3, d4, d5] }
  | _ => none }
def routePassesRow : OpenClaim := { program := "ytaknknfcikdjiaagreatdoor", sum := "9d7258913f53d69a7aa4ea41306eabc6d93c5d0d9021fb222d35fa8ac20a9510", func := "postrider/postriderlaw16.RoutePasses", spec := "routePasses", inPlace := ["internal/reflectlite.TypeOf", "internal/bytealg.IndexByteString", "internal/bytealg.IndexString"], unfollowed := true, recurses := true, named := ["postrider/route.errRoutes", "postrider/route.errEid", "postrider/route.errDenied", "postrider/route.errSize", "postrider/route.errLife", "postrider/route.errNone", "internal/bytealg.MaxLen", "internal/strconv.uint64pow10", "math/bits.deBruijn32tab", "math/bits.deBruijn64tab", "strconv.ErrSyntax", "strconv.ErrRange"], apart := false, laid := [("math/bits.deBruijn32tab", laid_math_bits_deBruijn32tab), ("math/bits.deBruijn64tab", laid_math_bits_deBruijn64tab), ("internal/strconv.uint64pow10", laid_internal_strconv_uint64pow10), ("strconv.ErrRange", laid_strconv_ErrRange), ("strconv.ErrSyntax", laid_strconv_ErrSyntax), ("postrider/route.errRoutes", laid_postrider_route_errRoutes), ("postrider/route.errEid", laid_postrider_route_errEid), ("postrider/route.errDenied", laid_postrider_route_errDenied), ("postrider/route.errSize", laid_postrider_route_errSize), ("postrider/route.errLife", laid_postrider_route_errLife), ("postrider/route.errNone", laid_postrider_route_errNone)] }
def RoutePassesSaid : Prop := routePassesRow.holds Tryz.pinned (OpenSpec.ofChange routePassesSpec)

/-- ITS FALSE NEIGHBOUR: 'it returns false'. Refute it at one input. -/
def routePassesWrong : ChangeSpec := { name := "routePasses", fn := fun _ => fun
  | [d1, d2, d3, d4, d5] => { results := [.lit (.bool false)], args := [d1, d2, d3, d4, d5] }
  | _ => none }
def RoutePassesWrongFalsely : Prop := routePassesRow.holds Tryz.pinned (OpenSpec.ofChange routePassesWrong)

/-- 'postriderlaw16.RouteMore': WHATEVER THE INPUT: true; the input reads as it did. -/
def routeMoreSpec : ChangeSpec := { name := "routeMore", fn := fun _ => fun
  | [d1, d2, d3] => { results := [.lit (.bool true)], args := [d1, d2, d3] }
  | _ => none }
def routeMoreRow : OpenClaim := { program := "ytaknknfcikdjiaagreatdoor", sum := "9d7258913f53d69a7aa4ea41306eabc6d93c5d0d9021fb222d35fa8ac20a9510", func := "postrider/postriderlaw16.RouteMore", spec := "routeMore", inPlace := ["internal/reflectlite.TypeOf", "internal/bytealg.IndexByteString", "internal/bytealg.IndexString"], unfollowed := true, recurses := true, named := ["postrider/route.errRoutes", "postrider/route.errEid", "postrider/route.errDenied", "postrider/route.errSize", "postrider/route.errLife", "postrider/route.errNone", "internal/bytealg.MaxLen", "internal/strconv.uint64pow10", "math/bits.deBruijn32tab", "math/bits.deBruijn64tab", "strconv.ErrSyntax", "strconv.ErrRange"], apart := false, laid := [("math/bits.deBruijn32tab", laid_math_bits_deBruijn32tab), ("math/bits.deBruijn64tab", laid_math_bits_deBruijn64tab), ("internal/strconv.uint64pow10", laid_internal_strconv_uint64pow10), ("strconv.ErrRange", laid_strconv_ErrRange), ("strconv.ErrSyntax", laid_strconv_ErrSyntax), ("postrider/route.errRoutes", laid_postrider_route_errRoutes), ("postrider/route.errEid", laid_postrider_route_errEid), ("postrider/route.errDenied", laid_postrider_route_errDenied), ("postrider/route.errSize", laid_postrider_route_errSize), ("postrider/route.errLife", laid_postrider_route_errLife), ("postrider/route.errNone", laid_postrider_route_errNone)] }
def RouteMoreSaid : Prop := routeMoreRow.holds Tryz.pinned (OpenSpec.ofChange routeMoreSpec)

/-- ITS FALSE NEIGHBOUR: 'it returns false'. Refute it at one input. -/
def routeMoreWrong : ChangeSpec := { name := "routeMore", fn := fun _ => fun
  | [d1, d2, d3] => { results := [.lit (.bool false)], args := [d1, d2, d3] }
  | _ => none }
def RouteMoreWrongFalsely : Prop := routeMoreRow.holds Tryz.pinned (OpenSpec.ofChange routeMoreWrong)

/-- 'postriderlaw16.RouteLess': WHATEVER THE INPUT: true; the input reads as it did. -/
def routeLessSpec : ChangeSpec := { name := "routeLess", fn := fun _ => fun
  | [d1, d2, d3, d4, d5] => { results := [.lit (.bool true)], args := [d1, d2, d3, d4, d5] }
  | _ => none }
def routeLessRow : OpenClaim := { program := "ytaknknfcikdjiaagreatdoor", sum := "9d7258913f53d69a7aa4ea41306eabc6d93c5d0d9021fb222d35fa8ac20a9510", func := "postrider/postriderlaw16.RouteLess", spec := "routeLess", inPlace := ["internal/reflectlite.TypeOf", "internal/bytealg.IndexByteString", "internal/bytealg.IndexString"], unfollowed := true, recurses := true, named := ["postrider/route.errRoutes", "postrider/route.errEid", "postrider/route.errDenied", "postrider/route.errSize", "postrider/route.errLife", "postrider/route.errNone", "internal/bytealg.MaxLen", "internal/strconv.uint64pow10", "math/bits.deBruijn32tab", "math/bits.deBruijn64tab", "strconv.ErrSyntax", "strconv.ErrRange"], apart := false, laid := [("math/bits.deBruijn32tab", laid_math_bits_deBruijn32tab), ("math/bits.deBruijn64tab", laid_math_bits_deBruijn64tab), ("internal/strconv.uint64pow10", laid_internal_strconv_uint64pow10), ("strconv.ErrRange", laid_strconv_ErrRange), ("strconv.ErrSyntax", laid_strconv_ErrSyntax), ("postrider/route.errRoutes", laid_postrider_route_errRoutes), ("postrider/route.errEid", laid_postrider_route_errEid), ("postrider/route.errDenied", laid_postrider_route_errDenied), ("postrider/route.errSize", laid_postrider_route_errSize), ("postrider/route.errLife", laid_postrider_route_errLife), ("postrider/route.errNone", laid_postrider_route_errNone)] }
def RouteLessSaid : Prop := routeLessRow.holds Tryz.pinned (OpenSpec.ofChange routeLessSpec)

/-- ITS FALSE NEIGHBOUR: 'it returns false'. Refute it at one input. -/
def routeLessWrong : ChangeSpec := { name := "routeLess", fn := fun _ => fun
  | [d1, d2, d3, d4, d5] => { results := [.lit (.bool false)], args := [d1, d2, d3, d4, d5] }
  | _ => none }
def RouteLessWrongFalsely : Prop := routeLessRow.holds Tryz.pinned (OpenSpec.ofChange routeLessWrong)

/-- 'postriderlaw16.RouteSorted': WHATEVER THE INPUT: true; the input reads as it did. -/
def routeSortedSpec : ChangeSpec := { name := "routeSorted", fn := fun _ => fun
  | [d1, d2, d3] => { results := [.lit (.bool true)], args := [d1, d2, d3] }
  | _ => none }
def routeSortedRow : OpenClaim := { program := "ytaknknfcikdjiaagreatdoor", sum := "9d7258913f53d69a7aa4ea41306eabc6d93c5d0d9021fb222d35fa8ac20a9510", func := "postrider/postriderlaw16.RouteSorted", spec := "routeSorted", inPlace := ["internal/reflectlite.TypeOf", "internal/bytealg.IndexByteString", "internal/bytealg.IndexString"], unfollowed := true, recurses := true, named := ["postrider/route.errRoutes", "postrider/route.errEid", "postrider/route.errDenied", "postrider/route.errSize", "postrider/route.errLife", "postrider/route.errNone", "internal/bytealg.MaxLen", "internal/strconv.uint64pow10", "math/bits.deBruijn32tab", "math/bits.deBruijn64tab", "strconv.ErrSyntax", "strconv.ErrRange"], apart := false, laid := [("math/bits.deBruijn32tab", laid_math_bits_deBruijn32tab), ("math/bits.deBruijn64tab", laid_math_bits_deBruijn64tab), ("internal/strconv.uint64pow10", laid_internal_strconv_uint64pow10), ("strconv.ErrRange", laid_strconv_ErrRange), ("strconv.ErrSyntax", laid_strconv_ErrSyntax), ("postrider/route.errRoutes", laid_postrider_route_errRoutes), ("postrider/route.errEid", laid_postrider_route_errEid), ("postrider/route.errDenied", laid_postrider_route_errDenied), ("postrider/route.errSize", laid_postrider_route_errSize), ("postrider/route.errLife", laid_postrider_route_errLife), ("postrider/route.errNone", laid_postrider_route_errNone)] }
def RouteSortedSaid : Prop := routeSortedRow.holds Tryz.pinned (OpenSpec.ofChange routeSortedSpec)

/-- ITS FALSE NEIGHBOUR: 'it returns false'. Refute it at one input. -/
def routeSortedWrong : ChangeSpec := { name := "routeSorted", fn := fun _ => fun
  | [d1, d2, d3] => { results := [.lit (.bool false)], args := [d1, d2, d3] }
  | _ => none }
def RouteSortedWrongFalsely : Prop := routeSortedRow.holds Tryz.pinned (OpenSpec.ofChange routeSortedWrong)

/-- 'postriderlaw16.RouteEmpty': WHATEVER THE INPUT: true; the input reads as it did. -/
def routeEmptySpec : ChangeSpec := { name := "routeEmpty", fn := fun _ => fun
  | [d1, d2] => { results := [.lit (.bool true)], args := [d1, d2] }
  | _ => none }
def routeEmptyRow : OpenClaim := { program := "ytaknknfcikdjiaagreatdoor", sum := "9d7258913f53d69a7aa4ea41306eabc6d93c5d0d9021fb222d35fa8ac20a9510", func := "postrider/postriderlaw16.RouteEmpty", spec := "routeEmpty", inPlace := ["internal/reflectlite.TypeOf", "internal/bytealg.IndexByteString", "internal/bytealg.IndexString"], unfollowed := true, recurses := true, named := ["postrider/route.errRoutes", "postrider/route.errEid", "postrider/route.errDenied", "postrider/route.errSize", "postrider/route.errLife", "postrider/route.errNone", "internal/bytealg.MaxLen", "internal/strconv.uint64pow10", "math/bits.deBruijn32tab", "math/bits.deBruijn64tab", "strconv.ErrSyntax", "strconv.ErrRange"], apart := false, laid := [("math/bits.deBruijn32tab", laid_math_bits_deBruijn32tab), ("math/bits.deBruijn64tab", laid_math_bits_deBruijn64tab), ("internal/strconv.uint64pow10", laid_internal_strconv_uint64pow10), ("strconv.ErrRange", laid_strconv_ErrRange), ("strconv.ErrSyntax", laid_strconv_ErrSyntax), ("postrider/route.errRoutes", laid_postrider_route_errRoutes), ("postrider/route.errEid", laid_postrider_route_errEid), ("postrider/route.errDenied", laid_postrider_route_errDenied), ("postrider/route.errSize", laid_postrider_route_errSize), ("postrider/route.errLife", laid_postrider_route_errLife), ("postrider/route.errNone", laid_postrider_route_errNone)] }
def RouteEmptySaid : Prop := routeEmptyRow.holds Tryz.pinned (OpenSpec.ofChange routeEmptySpec)

/-- ITS FALSE NEIGHBOUR: 'it returns false'. Refute it at one input. -/
def routeEmptyWrong : ChangeSpec := { name := "routeEmpty", fn := fun _ => fun
  | [d1, d2] => { results := [.lit (.bool false)], args := [d1, d2] }
  | _ => none }
def RouteEmptyWrongFalsely : Prop := routeEmptyRow.holds Tryz.pinned (OpenSpec.ofChange routeEmptyWrong)

/-- 'postriderlaw16.RouteFinds': WHATEVER THE INPUT: true; the input reads as it did. -/
def routeFindsSpec : ChangeSpec := { name := "routeFinds", fn := fun _ => fun
  | [d1, d2] => { results := [.lit (.bool true)], args := [d1, d2] }
  | _ => none }
def routeFindsRow : OpenClaim := { program := "ytaknknfcikdjiaagreatdoor", sum := "9d7258913f53d69a7aa4ea41306eabc6d93c5d0d9021fb222d35fa8ac20a9510", func := "postrider/postriderlaw16.RouteFinds", spec := "routeFinds", inPlace := ["internal/reflectlite.TypeOf", "internal/bytealg.IndexByteString", "internal/bytealg.IndexString"], unfollowed := true, recurses := true, named := ["postrider/route.errRoutes", "postrider/route.errEid", "postrider/route.errDenied", "postrider/route.errSize", "postrider/route.errLife", "postrider/route.errNone", "internal/bytealg.MaxLen", "internal/strconv.uint64pow10", "math/bits.deBruijn32tab", "math/bits.deBruijn64tab", "strconv.ErrSyntax", "strconv.ErrRange"], apart := false, laid := [("math/bits.deBruijn32tab", laid_math_bits_deBruijn32tab), ("math/bits.deBruijn64tab", laid_math_bits_deBruijn64tab), ("internal/strconv.uint64pow10", laid_internal_strconv_uint64pow10), ("strconv.ErrRange", laid_strconv_ErrRange), ("strconv.ErrSyntax", laid_strconv_ErrSyntax), ("postrider/route.errRoutes", laid_postrider_route_errRoutes), ("postrider/route.errEid", laid_postrider_route_errEid), ("postrider/route.errDenied", laid_postrider_route_errDenied), ("postrider/route.errSize", laid_postrider_route_errSize), ("postrider/route.errLife", laid_postrider_route_errLife), ("postrider/route.errNone", laid_postrider_route_errNone)] }
def RouteFindsSaid : Prop := routeFindsRow.holds Tryz.pinned (OpenSpec.ofChange routeFindsSpec)

/-- ITS FALSE NEIGHBOUR: 'it returns false'. Refute it at one input. -/
def routeFindsWrong : ChangeSpec := { name := "routeFinds", fn := fun _ => fun
  | [d1, d2] => { results := [.lit (.bool false)], args := [d1, d2] }
  | _ => none }
def RouteFindsWrongFalsely : Prop := routeFindsRow.holds Tryz.pinned (OpenSpec.ofChange routeFindsWrong)

/-- 'postriderlaw16.RouteLongest': WHATEVER THE INPUT: true; the input reads as it did. -/
def routeLongestSpec : ChangeSpec := { name := "routeLongest", fn := fun _ => fun
  | [d1, d2] => { results := [.lit (.bool true)], args := [d1, d2] }
  | _ => none }
def routeLongestRow : OpenClaim := { program := "ytaknknfcikdjiaagreatdoor", sum := "9d7258913f53d69a7aa4ea41306eabc6d93c5d0d9021fb222d35fa8ac20a9510", func := "postrider/postriderlaw16.RouteLongest", spec := "routeLongest", inPlace := ["internal/reflectlite.TypeOf", "internal/bytealg.IndexByteString", "internal/bytealg.IndexString"], unfollowed := true, recurses := true, named := ["postrider/route.errRoutes", "postrider/route.errEid", "postrider/route.errDenied", "postrider/route.errSize", "postrider/route.errLife", "postrider/route.errNone", "internal/bytealg.MaxLen", "internal/strconv.uint64pow10", "math/bits.deBruijn32tab", "math/bits.deBruijn64tab", "strconv.ErrSyntax", "strconv.ErrRange"], apart := false, laid := [("math/bits.deBruijn32tab", laid_math_bits_deBruijn32tab), ("math/bits.deBruijn64tab", laid_math_bits_deBruijn64tab), ("internal/strconv.uint64pow10", laid_internal_strconv_uint64pow10), ("strconv.ErrRange", laid_strconv_ErrRange), ("strconv.ErrSyntax", laid_strconv_ErrSyntax), ("postrider/route.errRoutes", laid_postrider_route_errRoutes), ("postrider/route.errEid", laid_postrider_route_errEid), ("postrider/route.errDenied", laid_postrider_route_errDenied), ("postrider/route.errSize", laid_postrider_route_errSize), ("postrider/route.errLife", laid_postrider_route_errLife), ("postrider/route.errNone", laid_postrider_route_errNone)] }
def RouteLongestSaid : Prop := routeLongestRow.holds Tryz.pinned (OpenSpec.ofChange routeLongestSpec)

/-- ITS FALSE NEIGHBOUR: 'it returns false'. Refute it at one input. -/
def routeLongestWrong : ChangeSpec := { name := "routeLongest", fn := fun _ => fun
  | [d1, d2] => { results := [.lit (.bool false)], args := [d1, d2] }
  | _ => none }
def RouteLongestWrongFalsely : Prop := routeLongestRow.holds Tryz.pinned (OpenSpec.ofChange routeLongestWrong)

/- THE SECOND FORM. 'bulk': how many values and letters a reading holds, each counted each time it is reached (what is shared counts as often as it is met; a slice's spare places count too). A statement '..UptoSaid' is the law's where the arguments, and the package variables that the reading takes, are together of bulk at most 1048576: NARROWER than '..Said'. Prove '..Said' where nothing that the law and all that it calls make is longer than what came in: it says more and counts as full. Else prove '..UptoSaid'. A law counts once. -/
mutual
def uptoBulk {H : Type} : DataW H → Nat
  | .lit (.string bytes) => bytes.length + 1
  | .lit _ => 1
  | .nil => 1
  | .ptr d => uptoBulk d + 1
  | .slice elems spare => uptoBulkAll elems + uptoBulkAll spare + 1
  | .agg parts => uptoBulkAll parts + 1
  | .iface _ d => uptoBulk d + 1
  | .map entries => uptoBulkEntries entries + 1
  | .held _ => 1
def uptoBulkAll {H : Type} : List (DataW H) → Nat
  | [] => 0
  | d :: r => uptoBulk d + uptoBulkAll r
def uptoBulkEntries {H : Type} : List (Lit × DataW H) → Nat
  | [] => 0
  | x :: r => uptoBulkEntry x + uptoBulkEntries r
def uptoBulkEntry {H : Type} : Lit × DataW H → Nat
  | (.string bytes, d) => bytes.length + uptoBulk d + 1
  | (_, d) => uptoBulk d + 1
 end
def uptoSmall : (H : Type) → List (DataW H) → Bool := fun _ ds => decide (uptoBulkAll ds ≤ 1048576)
def OpenSpec.upto (s : _root_.Go.ChangeSpec) : _root_.Go.OpenSpec := { _root_.Go.OpenSpec.ofChange s with cond := some uptoSmall }

/-- 'postriderlaw16.RoutePasses', WHERE WHAT IT READS IS OF BULK AT MOST 1048576: true; the input reads as it did. -/
def routePassesUptoRow : OpenClaim := { program := "ytaknknfcikdjiaagreatdoor", sum := "9d7258913f53d69a7aa4ea41306eabc6d93c5d0d9021fb222d35fa8ac20a9510", func := "postrider/postriderlaw16.RoutePasses", spec := "routePasses", inPlace := ["internal/reflectlite.TypeOf", "internal/bytealg.IndexByteString", "internal/bytealg.IndexString"], unfollowed := true, recurses := true, named := ["postrider/route.errRoutes", "postrider/route.errEid", "postrider/route.errDenied", "postrider/route.errSize", "postrider/route.errLife", "postrider/route.errNone", "internal/bytealg.MaxLen", "internal/strconv.uint64pow10", "math/bits.deBruijn32tab", "math/bits.deBruijn64tab", "strconv.ErrSyntax", "strconv.ErrRange"], apart := false, laid := [("math/bits.deBruijn32tab", laid_math_bits_deBruijn32tab), ("math/bits.deBruijn64tab", laid_math_bits_deBruijn64tab), ("internal/strconv.uint64pow10", laid_internal_strconv_uint64pow10), ("strconv.ErrRange", laid_strconv_ErrRange), ("strconv.ErrSyntax", laid_strconv_ErrSyntax), ("postrider/route.errRoutes", laid_postrider_route_errRoutes), ("postrider/route.errEid", laid_postrider_route_errEid), ("postrider/route.errDenied", laid_postrider_route_errDenied), ("postrider/route.errSize", laid_postrider_route_errSize), ("postrider/route.errLife", laid_postrider_route_errLife), ("postrider/route.errNone", laid_postrider_route_errNone)], narrowed := true }
def RoutePassesUptoSaid : Prop := routePassesUptoRow.holds Tryz.pinned (OpenSpec.upto routePassesSpec)

/-- 'postriderlaw16.RouteMore', WHERE WHAT IT READS IS OF BULK AT MOST 1048576: true; the input reads as it did. -/
def routeMoreUptoRow : OpenClaim := { program := "ytaknknfcikdjiaagreatdoor", sum := "9d7258913f53d69a7aa4ea41306eabc6d93c5d0d9021fb222d35fa8ac20a9510", func := "postrider/postriderlaw16.RouteMore", spec := "routeMore", inPlace := ["internal/reflectlite.TypeOf", "internal/bytealg.IndexByteString", "internal/bytealg.IndexString"], unfollowed := true, recurses := true, named := ["postrider/route.errRoutes", "postrider/route.errEid", "postrider/route.errDenied", "postrider/route.errSize", "postrider/route.errLife", "postrider/route.errNone", "internal/bytealg.MaxLen", "internal/strconv.uint64pow10", "math/bits.deBruijn32tab", "math/bits.deBruijn64tab", "strconv.ErrSyntax", "strconv.ErrRange"], apart := false, laid := [("math/bits.deBruijn32tab", laid_math_bits_deBruijn32tab), ("math/bits.deBruijn64tab", laid_math_bits_deBruijn64tab), ("internal/strconv.uint64pow10", laid_internal_strconv_uint64pow10), ("strconv.ErrRange", laid_strconv_ErrRange), ("strconv.ErrSyntax", laid_strconv_ErrSyntax), ("postrider/route.errRoutes", laid_postrider_route_errRoutes), ("postrider/route.errEid", laid_postrider_route_errEid), ("postrider/route.errDenied", laid_postrider_route_errDenied), ("postrider/route.errSize", laid_postrider_route_errSize), ("postrider/route.errLife", laid_postrider_route_errLife), ("postrider/route.errNone", laid_postrider_route_errNone)], narrowed := true }
def RouteMoreUptoSaid : Prop := routeMoreUptoRow.holds Tryz.pinned (OpenSpec.upto routeMoreSpec)

/-- 'postriderlaw16.RouteLess', WHERE WHAT IT READS IS OF BULK AT MOST 1048576: true; the input reads as it did. -/
def routeLessUptoRow : OpenClaim := { program := "ytaknknfcikdjiaagreatdoor", sum := "9d7258913f53d69a7aa4ea41306eabc6d93c5d0d9021fb222d35fa8ac20a9510", func := "postrider/postriderlaw16.RouteLess", spec := "routeLess", inPlace := ["internal/reflectlite.TypeOf", "internal/bytealg.IndexByteString", "internal/bytealg.IndexString"], unfollowed := true, recurses := true, named := ["postrider/route.errRoutes", "postrider/route.errEid", "postrider/route.errDenied", "postrider/route.errSize", "postrider/route.errLife", "postrider/route.errNone", "internal/bytealg.MaxLen", "internal/strconv.uint64pow10", "math/bits.deBruijn32tab", "math/bits.deBruijn64tab", "strconv.ErrSyntax", "strconv.ErrRange"], apart := false, laid := [("math/bits.deBruijn32tab", laid_math_bits_deBruijn32tab), ("math/bits.deBruijn64tab", laid_math_bits_deBruijn64tab), ("internal/strconv.uint64pow10", laid_internal_strconv_uint64pow10), ("strconv.ErrRange", laid_strconv_ErrRange), ("strconv.ErrSyntax", laid_strconv_ErrSyntax), ("postrider/route.errRoutes", laid_postrider_route_errRoutes), ("postrider/route.errEid", laid_postrider_route_errEid), ("postrider/route.errDenied", laid_postrider_route_errDenied), ("postrider/route.errSize", laid_postrider_route_errSize), ("postrider/route.errLife", laid_postrider_route_errLife), ("postrider/route.errNone", laid_postrider_route_errNone)], narrowed := true }
def RouteLessUptoSaid : Prop := routeLessUptoRow.holds Tryz.pinned (OpenSpec.upto routeLessSpec)

/-- 'postriderlaw16.RouteSorted', WHERE WHAT IT READS IS OF BULK AT MOST 1048576: true; the input reads as it did. -/
def routeSortedUptoRow : OpenClaim := { program := "ytaknknfcikdjiaagreatdoor", sum := "9d7258913f53d69a7aa4ea41306eabc6d93c5d0d9021fb222d35fa8ac20a9510", func := "postrider/postriderlaw16.RouteSorted", spec := "routeSorted", inPlace := ["internal/reflectlite.TypeOf", "internal/bytealg.IndexByteString", "internal/bytealg.IndexString"], unfollowed := true, recurses := true, named := ["postrider/route.errRoutes", "postrider/route.errEid", "postrider/route.errDenied", "postrider/route.errSize", "postrider/route.errLife", "postrider/route.errNone", "internal/bytealg.MaxLen", "internal/strconv.uint64pow10", "math/bits.deBruijn32tab", "math/bits.deBruijn64tab", "strconv.ErrSyntax", "strconv.ErrRange"], apart := false, laid := [("math/bits.deBruijn32tab", laid_math_bits_deBruijn32tab), ("math/bits.deBruijn64tab", laid_math_bits_deBruijn64tab), ("internal/strconv.uint64pow10", laid_internal_strconv_uint64pow10), ("strconv.ErrRange", laid_strconv_ErrRange), ("strconv.ErrSyntax", laid_strconv_ErrSyntax), ("postrider/route.errRoutes", laid_postrider_route_errRoutes), ("postrider/route.errEid", laid_postrider_route_errEid), ("postrider/route.errDenied", laid_postrider_route_errDenied), ("postrider/route.errSize", laid_postrider_route_errSize), ("postrider/route.errLife", laid_postrider_route_errLife), ("postrider/route.errNone", laid_postrider_route_errNone)], narrowed := true }
def RouteSortedUptoSaid : Prop := routeSortedUptoRow.holds Tryz.pinned (OpenSpec.upto routeSortedSpec)

/-- 'postriderlaw16.RouteEmpty', WHERE WHAT IT READS IS OF BULK AT MOST 1048576: true; the input reads as it did. -/
def routeEmptyUptoRow : OpenClaim := { program := "ytaknknfcikdjiaagreatdoor", sum := "9d7258913f53d69a7aa4ea41306eabc6d93c5d0d9021fb222d35fa8ac20a9510", func := "postrider/postriderlaw16.RouteEmpty", spec := "routeEmpty", inPlace := ["internal/reflectlite.TypeOf", "internal/bytealg.IndexByteString", "internal/bytealg.IndexString"], unfollowed := true, recurses := true, named := ["postrider/route.errRoutes", "postrider/route.errEid", "postrider/route.errDenied", "postrider/route.errSize", "postrider/route.errLife", "postrider/route.errNone", "internal/bytealg.MaxLen", "internal/strconv.uint64pow10", "math/bits.deBruijn32tab", "math/bits.deBruijn64tab", "strconv.ErrSyntax", "strconv.ErrRange"], apart := false, laid := [("math/bits.deBruijn32tab", laid_math_bits_deBruijn32tab), ("math/bits.deBruijn64tab", laid_math_bits_deBruijn64tab), ("internal/strconv.uint64pow10", laid_internal_strconv_uint64pow10), ("strconv.ErrRange", laid_strconv_ErrRange), ("strconv.ErrSyntax", laid_strconv_ErrSyntax), ("postrider/route.errRoutes", laid_postrider_route_errRoutes), ("postrider/route.errEid", laid_postrider_route_errEid), ("postrider/route.errDenied", laid_postrider_route_errDenied), ("postrider/route.errSize", laid_postrider_route_errSize), ("postrider/route.errLife", laid_postrider_route_errLife), ("postrider/route.errNone", laid_postrider_route_errNone)], narrowed := true }
def RouteEmptyUptoSaid : Prop := routeEmptyUptoRow.holds Tryz.pinned (OpenSpec.upto routeEmptySpec)

/-- 'postriderlaw16.RouteFinds', WHERE WHAT IT READS IS OF BULK AT MOST 1048576: true; the input reads as it did. -/
def routeFindsUptoRow : OpenClaim := { program := "ytaknknfcikdjiaagreatdoor", sum := "9d7258913f53d69a7aa4ea41306eabc6d93c5d0d9021fb222d35fa8ac20a9510", func := "postrider/postriderlaw16.RouteFinds", spec := "routeFinds", inPlace := ["internal/reflectlite.TypeOf", "internal/bytealg.IndexByteString", "internal/bytealg.IndexString"], unfollowed := true, recurses := true, named := ["postrider/route.errRoutes", "postrider/route.errEid", "postrider/route.errDenied", "postrider/route.errSize", "postrider/route.errLife", "postrider/route.errNone", "internal/bytealg.MaxLen", "internal/strconv.uint64pow10", "math/bits.deBruijn32tab", "math/bits.deBruijn64tab", "strconv.ErrSyntax", "strconv.ErrRange"], apart := false, laid := [("math/bits.deBruijn32tab", laid_math_bits_deBruijn32tab), ("math/bits.deBruijn64tab", laid_math_bits_deBruijn64tab), ("internal/strconv.uint64pow10", laid_internal_strconv_uint64pow10), ("strconv.ErrRange", laid_strconv_ErrRange), ("strconv.ErrSyntax", laid_strconv_ErrSyntax), ("postrider/route.errRoutes", laid_postrider_route_errRoutes), ("postrider/route.errEid", laid_postrider_route_errEid), ("postrider/route.errDenied", laid_postrider_route_errDenied), ("postrider/route.errSize", laid_postrider_route_errSize), ("postrider/route.errLife", laid_postrider_route_errLife), ("postrider/route.errNone", laid_postrider_route_errNone)], narrowed := true }
def RouteFindsUptoSaid : Prop := routeFindsUptoRow.holds Tryz.pinned (OpenSpec.upto routeFindsSpec)

/-- 'postriderlaw16.RouteLongest', WHERE WHAT IT READS IS OF BULK AT MOST 1048576: true; the input reads as it did. -/
def routeLongestUptoRow : OpenClaim := { program := "ytaknknfcikdjiaagreatdoor", sum := "9d7258913f53d69a7aa4ea41306eabc6d93c5d0d9021fb222d35fa8ac20a9510", func := "postrider/postriderlaw16.RouteLongest", spec := "routeLongest", inPlace := ["internal/reflectlite.TypeOf", "internal/bytealg.IndexByteString", "internal/bytealg.IndexString"], unfollowed := true, recurses := true, named := ["postrider/route.errRoutes", "postrider/route.errEid", "postrider/route.errDenied", "postrider/route.errSize", "postrider/route.errLife", "postrider/route.errNone", "internal/bytealg.MaxLen", "internal/strconv.uint64pow10", "math/bits.deBruijn32tab", "math/bits.deBruijn64tab", "strconv.ErrSyntax", "strconv.ErrRange"], apart := false, laid := [("math/bits.deBruijn32tab", laid_math_bits_deBruijn32tab), ("math/bits.deBruijn64tab", laid_math_bits_deBruijn64tab), ("internal/strconv.uint64pow10", laid_internal_strconv_uint64pow10), ("strconv.ErrRange", laid_strconv_ErrRange), ("strconv.ErrSyntax", laid_strconv_ErrSyntax), ("postrider/route.errRoutes", laid_postrider_route_errRoutes), ("postrider/route.errEid", laid_postrider_route_errEid), ("postrider/route.errDenied", laid_postrider_route_errDenied), ("postrider/route.errSize", laid_postrider_route_errSize), ("postrider/route.errLife", laid_postrider_route_errLife), ("postrider/route.errNone", laid_postrider_route_errNone)], narrowed := true }
def RouteLongestUptoSaid : Prop := routeLongestUptoRow.holds Tryz.pinned (OpenSpec.upto routeLongestSpec)

end Rows
end Go.Proofs.YtaknknfcikdjiaaGreatDoor
