/-
  No cell of these rows narrows 'for every input' (looked for: loops, veiled, ifaces, maps, wideKeys, modest, calm, conditions, laid).
  DERIVED. THE GIVEN ROWS OF THIS SEAT. 21 by the template 'for every input the law returns true; each argument reads behind the call as it read before'; 0 by the template 'total and deterministic' (their statements: YtcapgmoipacioaaTotals.lean).
  GIVEN WITH THE SEED: the statements are not yours to turn. If you find one false, say at which input.
  Laid BY PROGRAM, IN A SANDBOX (cutbox-rows.mjs): the forced cells as the released guide's own fill.sh prints them over the translation 9e5d6e2214c43174… (all of the seat's roots in one cut). By AI agents, Wed Nov 11 2026. No macro, syntax, notation, axiom, sorry.
-/
import Derived.Test.YtcapgmoipacioaaChecked
import GoSem.Claim
import GoSem.ClaimJoined
import GoSem.ClaimMapViews
import Derived.JoinedTies
import Derived.KernelRfl
namespace Go.Proofs.Ytcapgmoipacioaa
/- THE CELL 'sum', in the pinned program and in every row, IS THE sha256 OF THE DUMP (.gsa) THAT YtcapgmoipacioaaProg.lean LOADS. Nothing in Lean hashes anything: it is a label: what it is worth is what the hold of that sum in a sandbox is worth. -/
noncomputable def Try.pinned : Pinned := { name := "ytcapgmoipacioaa", sum := "9e5d6e2214c43174cfc505004ef876cab364f8aeaca86e39de6fef0bb85de3ae", checked := Try.checked }
namespace Rows
def none {H : Type} : Left H := { results := [], args := [] }

/-- 'stipendlaw06.PairSides': WHATEVER THE INPUT: true; the input reads as it did. -/
def pairSidesSpec : ChangeSpec := { name := "pairSides", fn := fun _ => fun
  | [d1, d2] => { results := [.lit (.bool true)], args := [d1, d2] }
  | _ => none }
def pairSidesRow : OpenClaim := { program := "ytcapgmoipacioaa", sum := "9e5d6e2214c43174cfc505004ef876cab364f8aeaca86e39de6fef0bb85de3ae", func := "stipend/stipendlaw06.PairSides", spec := "pairSides", apart := false }
def PairSidesSaid : Prop := pairSidesRow.holds Try.pinned (OpenSpec.ofChange pairSidesSpec)

/-- ITS FALSE NEIGHBOUR: 'it returns false'. Refute it at one input. -/
def pairSidesWrong : ChangeSpec := { name := "pairSides", fn := fun _ => fun
  | [d1, d2] => { results := [.lit (.bool false)], args := [d1, d2] }
  | _ => none }
def PairSidesWrongFalsely : Prop := pairSidesRow.holds Try.pinned (OpenSpec.ofChange pairSidesWrong)

/-- 'stipendlaw06.PairTotals': WHATEVER THE INPUT: true; the input reads as it did. -/
def pairTotalsSpec : ChangeSpec := { name := "pairTotals", fn := fun _ => fun
  | [d] => { results := [.lit (.bool true)], args := [d] }
  | _ => none }
def pairTotalsRow : OpenClaim := { program := "ytcapgmoipacioaa", sum := "9e5d6e2214c43174cfc505004ef876cab364f8aeaca86e39de6fef0bb85de3ae", func := "stipend/stipendlaw06.PairTotals", spec := "pairTotals", apart := false }
def PairTotalsSaid : Prop := pairTotalsRow.holds Try.pinned (OpenSpec.ofChange pairTotalsSpec)

/-- ITS FALSE NEIGHBOUR: 'it returns false'. Refute it at one input. -/
def pairTotalsWrong : ChangeSpec := { name := "pairTotals", fn := fun _ => fun
  | [d] => { results := [.lit (.bool false)], args := [d] }
  | _ => none }
def PairTotalsWrongFalsely : Prop := pairTotalsRow.holds Try.pinned (OpenSpec.ofChange pairTotalsWrong)

/-- 'stipendlaw06.PairTimes': WHATEVER THE INPUT: true; the input reads as it did. -/
def pairTimesSpec : ChangeSpec := { name := "pairTimes", fn := fun _ => fun
  | [d1, d2, d3] => { results := [.lit (.bool true)], args := [d1, d2, d3] }
  | _ => none }
def pairTimesRow : OpenClaim := { program := "ytcapgmoipacioaa", sum := "9e5d6e2214c43174cfc505004ef876cab364f8aeaca86e39de6fef0bb85de3ae", func := "stipend/stipendlaw06.PairTimes", spec := "pairTimes", apart := false }
def PairTimesSaid : Prop := pairTimesRow.holds Try.pinned (OpenSpec.ofChange pairTimesSpec)

/-- ITS FALSE NEIGHBOUR: 'it returns false'. Refute it at one input. -/
def pairTimesWrong : ChangeSpec := { name := "pairTimes", fn := fun _ => fun
  | [d1, d2, d3] => { results := [.lit (.bool false)], args := [d1, d2, d3] }
  | _ => none }
def PairTimesWrongFalsely : Prop := pairTimesRow.holds Try.pinned (OpenSpec.ofChange pairTimesWrong)

/-- 'stipendlaw05.BandChecks': WHATEVER THE INPUT: true; the input reads as it did. -/
def bandChecksSpec : ChangeSpec := { name := "bandChecks", fn := fun _ => fun
  | [d1, d2] => { results := [.lit (.bool true)], args := [d1, d2] }
  | _ => none }
def bandChecksRow : OpenClaim := { program := "ytcapgmoipacioaa", sum := "9e5d6e2214c43174cfc505004ef876cab364f8aeaca86e39de6fef0bb85de3ae", func := "stipend/stipendlaw05.BandChecks", spec := "bandChecks", unfollowed := true, recurses := true, apart := false }
def BandChecksSaid : Prop := bandChecksRow.holds Try.pinned (OpenSpec.ofChange bandChecksSpec)

/-- ITS FALSE NEIGHBOUR: 'it returns false'. Refute it at one input. -/
def bandChecksWrong : ChangeSpec := { name := "bandChecks", fn := fun _ => fun
  | [d1, d2] => { results := [.lit (.bool false)], args := [d1, d2] }
  | _ => none }
def BandChecksWrongFalsely : Prop := bandChecksRow.holds Try.pinned (OpenSpec.ofChange bandChecksWrong)

/-- 'stipendtop.WholeShares': WHATEVER THE INPUT: true; the input reads as it did. -/
def wholeSharesSpec : ChangeSpec := { name := "wholeShares", fn := fun _ => fun
  | [d1, d2, d3] => { results := [.lit (.bool true)], args := [d1, d2, d3] }
  | _ => none }
def wholeSharesRow : OpenClaim := { program := "ytcapgmoipacioaa", sum := "9e5d6e2214c43174cfc505004ef876cab364f8aeaca86e39de6fef0bb85de3ae", func := "stipend/stipendtop.WholeShares", spec := "wholeShares", unfollowed := true, recurses := true, apart := false }
def WholeSharesSaid : Prop := wholeSharesRow.holds Try.pinned (OpenSpec.ofChange wholeSharesSpec)

/-- ITS FALSE NEIGHBOUR: 'it returns false'. Refute it at one input. -/
def wholeSharesWrong : ChangeSpec := { name := "wholeShares", fn := fun _ => fun
  | [d1, d2, d3] => { results := [.lit (.bool false)], args := [d1, d2, d3] }
  | _ => none }
def WholeSharesWrongFalsely : Prop := wholeSharesRow.holds Try.pinned (OpenSpec.ofChange wholeSharesWrong)

/-- 'stipendlaw05.BandExact': WHATEVER THE INPUT: true; the input reads as it did. -/
def bandExactSpec : ChangeSpec := { name := "bandExact", fn := fun _ => fun
  | [d1, d2] => { results := [.lit (.bool true)], args := [d1, d2] }
  | _ => none }
def bandExactRow : OpenClaim := { program := "ytcapgmoipacioaa", sum := "9e5d6e2214c43174cfc505004ef876cab364f8aeaca86e39de6fef0bb85de3ae", func := "stipend/stipendlaw05.BandExact", spec := "bandExact", unfollowed := true, recurses := true, apart := false }
def BandExactSaid : Prop := bandExactRow.holds Try.pinned (OpenSpec.ofChange bandExactSpec)

/-- ITS FALSE NEIGHBOUR: 'it returns false'. Refute it at one input. -/
def bandExactWrong : ChangeSpec := { name := "bandExact", fn := fun _ => fun
  | [d1, d2] => { results := [.lit (.bool false)], args := [d1, d2] }
  | _ => none }
def BandExactWrongFalsely : Prop := bandExactRow.holds Try.pinned (OpenSpec.ofChange bandExactWrong)

/-- 'stipendtop.WholeTax': WHATEVER THE INPUT: true; the input reads as it did. -/
def wholeTaxSpec : ChangeSpec := { name := "wholeTax", fn := fun _ => fun
  | [d1, d2, d3] => { results := [.lit (.bool true)], args := [d1, d2, d3] }
  | _ => none }
def wholeTaxRow : OpenClaim := { program := "ytcapgmoipacioaa", sum := "9e5d6e2214c43174cfc505004ef876cab364f8aeaca86e39de6fef0bb85de3ae", func := "stipend/stipendtop.WholeTax", spec := "wholeTax", unfollowed := true, recurses := true, apart := false }
def WholeTaxSaid : Prop := wholeTaxRow.holds Try.pinned (OpenSpec.ofChange wholeTaxSpec)

/-- ITS FALSE NEIGHBOUR: 'it returns false'. Refute it at one input. -/
def wholeTaxWrong : ChangeSpec := { name := "wholeTax", fn := fun _ => fun
  | [d1, d2, d3] => { results := [.lit (.bool false)], args := [d1, d2, d3] }
  | _ => none }
def WholeTaxWrongFalsely : Prop := wholeTaxRow.holds Try.pinned (OpenSpec.ofChange wholeTaxWrong)

/-- 'stipendlaw05.BandRises': WHATEVER THE INPUT: true; the input reads as it did. -/
def bandRisesSpec : ChangeSpec := { name := "bandRises", fn := fun _ => fun
  | [d1, d2, d3] => { results := [.lit (.bool true)], args := [d1, d2, d3] }
  | _ => none }
def bandRisesRow : OpenClaim := { program := "ytcapgmoipacioaa", sum := "9e5d6e2214c43174cfc505004ef876cab364f8aeaca86e39de6fef0bb85de3ae", func := "stipend/stipendlaw05.BandRises", spec := "bandRises", unfollowed := true, recurses := true, apart := false }
def BandRisesSaid : Prop := bandRisesRow.holds Try.pinned (OpenSpec.ofChange bandRisesSpec)

/-- ITS FALSE NEIGHBOUR: 'it returns false'. Refute it at one input. -/
def bandRisesWrong : ChangeSpec := { name := "bandRises", fn := fun _ => fun
  | [d1, d2, d3] => { results := [.lit (.bool false)], args := [d1, d2, d3] }
  | _ => none }
def BandRisesWrongFalsely : Prop := bandRisesRow.holds Try.pinned (OpenSpec.ofChange bandRisesWrong)

/-- 'stipendlaw05.BandScales': WHATEVER THE INPUT: true; the input reads as it did. -/
def bandScalesSpec : ChangeSpec := { name := "bandScales", fn := fun _ => fun
  | [d1, d2, d3] => { results := [.lit (.bool true)], args := [d1, d2, d3] }
  | _ => none }
def bandScalesRow : OpenClaim := { program := "ytcapgmoipacioaa", sum := "9e5d6e2214c43174cfc505004ef876cab364f8aeaca86e39de6fef0bb85de3ae", func := "stipend/stipendlaw05.BandScales", spec := "bandScales", unfollowed := true, recurses := true, apart := false }
def BandScalesSaid : Prop := bandScalesRow.holds Try.pinned (OpenSpec.ofChange bandScalesSpec)

/-- ITS FALSE NEIGHBOUR: 'it returns false'. Refute it at one input. -/
def bandScalesWrong : ChangeSpec := { name := "bandScales", fn := fun _ => fun
  | [d1, d2, d3] => { results := [.lit (.bool false)], args := [d1, d2, d3] }
  | _ => none }
def BandScalesWrongFalsely : Prop := bandScalesRow.holds Try.pinned (OpenSpec.ofChange bandScalesWrong)

/-- 'stipendlaw05.BandJoins': WHATEVER THE INPUT: true; the input reads as it did. -/
def bandJoinsSpec : ChangeSpec := { name := "bandJoins", fn := fun _ => fun
  | [d1, d2] => { results := [.lit (.bool true)], args := [d1, d2] }
  | _ => none }
def bandJoinsRow : OpenClaim := { program := "ytcapgmoipacioaa", sum := "9e5d6e2214c43174cfc505004ef876cab364f8aeaca86e39de6fef0bb85de3ae", func := "stipend/stipendlaw05.BandJoins", spec := "bandJoins", unfollowed := true, recurses := true, apart := false }
def BandJoinsSaid : Prop := bandJoinsRow.holds Try.pinned (OpenSpec.ofChange bandJoinsSpec)

/-- ITS FALSE NEIGHBOUR: 'it returns false'. Refute it at one input. -/
def bandJoinsWrong : ChangeSpec := { name := "bandJoins", fn := fun _ => fun
  | [d1, d2] => { results := [.lit (.bool false)], args := [d1, d2] }
  | _ => none }
def BandJoinsWrongFalsely : Prop := bandJoinsRow.holds Try.pinned (OpenSpec.ofChange bandJoinsWrong)

/-- 'stipendlaw06.PairBands': WHATEVER THE INPUT: true; the input reads as it did. -/
def pairBandsSpec : ChangeSpec := { name := "pairBands", fn := fun _ => fun
  | [d1, d2, d3] => { results := [.lit (.bool true)], args := [d1, d2, d3] }
  | _ => none }
def pairBandsRow : OpenClaim := { program := "ytcapgmoipacioaa", sum := "9e5d6e2214c43174cfc505004ef876cab364f8aeaca86e39de6fef0bb85de3ae", func := "stipend/stipendlaw06.PairBands", spec := "pairBands", unfollowed := true, recurses := true, apart := false }
def PairBandsSaid : Prop := pairBandsRow.holds Try.pinned (OpenSpec.ofChange pairBandsSpec)

/-- ITS FALSE NEIGHBOUR: 'it returns false'. Refute it at one input. -/
def pairBandsWrong : ChangeSpec := { name := "pairBands", fn := fun _ => fun
  | [d1, d2, d3] => { results := [.lit (.bool false)], args := [d1, d2, d3] }
  | _ => none }
def PairBandsWrongFalsely : Prop := pairBandsRow.holds Try.pinned (OpenSpec.ofChange pairBandsWrong)

/-- 'stipendlaw15.SocialDue': WHATEVER THE INPUT: true; the input reads as it did. -/
def socialDueSpec : ChangeSpec := { name := "socialDue", fn := fun _ => fun
  | [d1, d2, d3] => { results := [.lit (.bool true)], args := [d1, d2, d3] }
  | _ => none }
def socialDueRow : OpenClaim := { program := "ytcapgmoipacioaa", sum := "9e5d6e2214c43174cfc505004ef876cab364f8aeaca86e39de6fef0bb85de3ae", func := "stipend/stipendlaw15.SocialDue", spec := "socialDue", unfollowed := true, recurses := true, apart := false }
def SocialDueSaid : Prop := socialDueRow.holds Try.pinned (OpenSpec.ofChange socialDueSpec)

/-- ITS FALSE NEIGHBOUR: 'it returns false'. Refute it at one input. -/
def socialDueWrong : ChangeSpec := { name := "socialDue", fn := fun _ => fun
  | [d1, d2, d3] => { results := [.lit (.bool false)], args := [d1, d2, d3] }
  | _ => none }
def SocialDueWrongFalsely : Prop := socialDueRow.holds Try.pinned (OpenSpec.ofChange socialDueWrong)

/-- 'stipendlaw15.SocialSums': WHATEVER THE INPUT: true; the input reads as it did. -/
def socialSumsSpec : ChangeSpec := { name := "socialSums", fn := fun _ => fun
  | [d1, d2] => { results := [.lit (.bool true)], args := [d1, d2] }
  | _ => none }
def socialSumsRow : OpenClaim := { program := "ytcapgmoipacioaa", sum := "9e5d6e2214c43174cfc505004ef876cab364f8aeaca86e39de6fef0bb85de3ae", func := "stipend/stipendlaw15.SocialSums", spec := "socialSums", unfollowed := true, recurses := true, apart := false }
def SocialSumsSaid : Prop := socialSumsRow.holds Try.pinned (OpenSpec.ofChange socialSumsSpec)

/-- ITS FALSE NEIGHBOUR: 'it returns false'. Refute it at one input. -/
def socialSumsWrong : ChangeSpec := { name := "socialSums", fn := fun _ => fun
  | [d1, d2] => { results := [.lit (.bool false)], args := [d1, d2] }
  | _ => none }
def SocialSumsWrongFalsely : Prop := socialSumsRow.holds Try.pinned (OpenSpec.ofChange socialSumsWrong)

/-- 'stipendlaw15.SocialCeils': WHATEVER THE INPUT: true; the input reads as it did. -/
def socialCeilsSpec : ChangeSpec := { name := "socialCeils", fn := fun _ => fun
  | [d1, d2] => { results := [.lit (.bool true)], args := [d1, d2] }
  | _ => none }
def socialCeilsRow : OpenClaim := { program := "ytcapgmoipacioaa", sum := "9e5d6e2214c43174cfc505004ef876cab364f8aeaca86e39de6fef0bb85de3ae", func := "stipend/stipendlaw15.SocialCeils", spec := "socialCeils", unfollowed := true, recurses := true, apart := false }
def SocialCeilsSaid : Prop := socialCeilsRow.holds Try.pinned (OpenSpec.ofChange socialCeilsSpec)

/-- ITS FALSE NEIGHBOUR: 'it returns false'. Refute it at one input. -/
def socialCeilsWrong : ChangeSpec := { name := "socialCeils", fn := fun _ => fun
  | [d1, d2] => { results := [.lit (.bool false)], args := [d1, d2] }
  | _ => none }
def SocialCeilsWrongFalsely : Prop := socialCeilsRow.holds Try.pinned (OpenSpec.ofChange socialCeilsWrong)

/-- 'stipendlaw15.SocialYear': WHATEVER THE INPUT: true; the input reads as it did. -/
def socialYearSpec : ChangeSpec := { name := "socialYear", fn := fun _ => fun
  | [d1, d2] => { results := [.lit (.bool true)], args := [d1, d2] }
  | _ => none }
def socialYearRow : OpenClaim := { program := "ytcapgmoipacioaa", sum := "9e5d6e2214c43174cfc505004ef876cab364f8aeaca86e39de6fef0bb85de3ae", func := "stipend/stipendlaw15.SocialYear", spec := "socialYear", unfollowed := true, recurses := true, apart := false }
def SocialYearSaid : Prop := socialYearRow.holds Try.pinned (OpenSpec.ofChange socialYearSpec)

/-- ITS FALSE NEIGHBOUR: 'it returns false'. Refute it at one input. -/
def socialYearWrong : ChangeSpec := { name := "socialYear", fn := fun _ => fun
  | [d1, d2] => { results := [.lit (.bool false)], args := [d1, d2] }
  | _ => none }
def SocialYearWrongFalsely : Prop := socialYearRow.holds Try.pinned (OpenSpec.ofChange socialYearWrong)

/-- 'stipendlaw13.TaxDue': WHATEVER THE INPUT: true; the input reads as it did. -/
def taxDueSpec : ChangeSpec := { name := "taxDue", fn := fun _ => fun
  | [d1, d2, d3] => { results := [.lit (.bool true)], args := [d1, d2, d3] }
  | _ => none }
def taxDueRow : OpenClaim := { program := "ytcapgmoipacioaa", sum := "9e5d6e2214c43174cfc505004ef876cab364f8aeaca86e39de6fef0bb85de3ae", func := "stipend/stipendlaw13.TaxDue", spec := "taxDue", unfollowed := true, recurses := true, apart := false }
def TaxDueSaid : Prop := taxDueRow.holds Try.pinned (OpenSpec.ofChange taxDueSpec)

/-- ITS FALSE NEIGHBOUR: 'it returns false'. Refute it at one input. -/
def taxDueWrong : ChangeSpec := { name := "taxDue", fn := fun _ => fun
  | [d1, d2, d3] => { results := [.lit (.bool false)], args := [d1, d2, d3] }
  | _ => none }
def TaxDueWrongFalsely : Prop := taxDueRow.holds Try.pinned (OpenSpec.ofChange taxDueWrong)

/-- 'stipendlaw13.TaxRefuses': WHATEVER THE INPUT: true; the input reads as it did. -/
def taxRefusesSpec : ChangeSpec := { name := "taxRefuses", fn := fun _ => fun
  | [d1, d2, d3] => { results := [.lit (.bool true)], args := [d1, d2, d3] }
  | _ => none }
def taxRefusesRow : OpenClaim := { program := "ytcapgmoipacioaa", sum := "9e5d6e2214c43174cfc505004ef876cab364f8aeaca86e39de6fef0bb85de3ae", func := "stipend/stipendlaw13.TaxRefuses", spec := "taxRefuses", unfollowed := true, recurses := true, apart := false }
def TaxRefusesSaid : Prop := taxRefusesRow.holds Try.pinned (OpenSpec.ofChange taxRefusesSpec)

/-- ITS FALSE NEIGHBOUR: 'it returns false'. Refute it at one input. -/
def taxRefusesWrong : ChangeSpec := { name := "taxRefuses", fn := fun _ => fun
  | [d1, d2, d3] => { results := [.lit (.bool false)], args := [d1, d2, d3] }
  | _ => none }
def TaxRefusesWrongFalsely : Prop := taxRefusesRow.holds Try.pinned (OpenSpec.ofChange taxRefusesWrong)

/-- 'stipendlaw13.TaxRises': WHATEVER THE INPUT: true; the input reads as it did. -/
def taxRisesSpec : ChangeSpec := { name := "taxRises", fn := fun _ => fun
  | [d1, d2, d3] => { results := [.lit (.bool true)], args := [d1, d2, d3] }
  | _ => none }
def taxRisesRow : OpenClaim := { program := "ytcapgmoipacioaa", sum := "9e5d6e2214c43174cfc505004ef876cab364f8aeaca86e39de6fef0bb85de3ae", func := "stipend/stipendlaw13.TaxRises", spec := "taxRises", unfollowed := true, recurses := true, apart := false }
def TaxRisesSaid : Prop := taxRisesRow.holds Try.pinned (OpenSpec.ofChange taxRisesSpec)

/-- ITS FALSE NEIGHBOUR: 'it returns false'. Refute it at one input. -/
def taxRisesWrong : ChangeSpec := { name := "taxRises", fn := fun _ => fun
  | [d1, d2, d3] => { results := [.lit (.bool false)], args := [d1, d2, d3] }
  | _ => none }
def TaxRisesWrongFalsely : Prop := taxRisesRow.holds Try.pinned (OpenSpec.ofChange taxRisesWrong)

/-- 'stipendlaw13.TaxYear': WHATEVER THE INPUT: true; the input reads as it did. -/
def taxYearSpec : ChangeSpec := { name := "taxYear", fn := fun _ => fun
  | [d1, d2, d3] => { results := [.lit (.bool true)], args := [d1, d2, d3] }
  | _ => none }
def taxYearRow : OpenClaim := { program := "ytcapgmoipacioaa", sum := "9e5d6e2214c43174cfc505004ef876cab364f8aeaca86e39de6fef0bb85de3ae", func := "stipend/stipendlaw13.TaxYear", spec := "taxYear", unfollowed := true, recurses := true, apart := false }
def TaxYearSaid : Prop := taxYearRow.holds Try.pinned (OpenSpec.ofChange taxYearSpec)

/-- ITS FALSE NEIGHBOUR: 'it returns false'. Refute it at one input. -/
def taxYearWrong : ChangeSpec := { name := "taxYear", fn := fun _ => fun
  | [d1, d2, d3] => { results := [.lit (.bool false)], args := [d1, d2, d3] }
  | _ => none }
def TaxYearWrongFalsely : Prop := taxYearRow.holds Try.pinned (OpenSpec.ofChange taxYearWrong)

/-- 'stipendlaw13.TaxSpreads': WHATEVER THE INPUT: true; the input reads as it did. -/
def taxSpreadsSpec : ChangeSpec := { name := "taxSpreads", fn := fun _ => fun
  | [d1, d2, d3] => { results := [.lit (.bool true)], args := [d1, d2, d3] }
  | _ => none }
def taxSpreadsRow : OpenClaim := { program := "ytcapgmoipacioaa", sum := "9e5d6e2214c43174cfc505004ef876cab364f8aeaca86e39de6fef0bb85de3ae", func := "stipend/stipendlaw13.TaxSpreads", spec := "taxSpreads", unfollowed := true, recurses := true, apart := false }
def TaxSpreadsSaid : Prop := taxSpreadsRow.holds Try.pinned (OpenSpec.ofChange taxSpreadsSpec)

/-- ITS FALSE NEIGHBOUR: 'it returns false'. Refute it at one input. -/
def taxSpreadsWrong : ChangeSpec := { name := "taxSpreads", fn := fun _ => fun
  | [d1, d2, d3] => { results := [.lit (.bool false)], args := [d1, d2, d3] }
  | _ => none }
def TaxSpreadsWrongFalsely : Prop := taxSpreadsRow.holds Try.pinned (OpenSpec.ofChange taxSpreadsWrong)

/-- 'stipendlaw13.TaxExplains': WHATEVER THE INPUT: true; the input reads as it did. -/
def taxExplainsSpec : ChangeSpec := { name := "taxExplains", fn := fun _ => fun
  | [d1, d2, d3] => { results := [.lit (.bool true)], args := [d1, d2, d3] }
  | _ => none }
def taxExplainsRow : OpenClaim := { program := "ytcapgmoipacioaa", sum := "9e5d6e2214c43174cfc505004ef876cab364f8aeaca86e39de6fef0bb85de3ae", func := "stipend/stipendlaw13.TaxExplains", spec := "taxExplains", unfollowed := true, recurses := true, apart := false }
def TaxExplainsSaid : Prop := taxExplainsRow.holds Try.pinned (OpenSpec.ofChange taxExplainsSpec)

/-- ITS FALSE NEIGHBOUR: 'it returns false'. Refute it at one input. -/
def taxExplainsWrong : ChangeSpec := { name := "taxExplains", fn := fun _ => fun
  | [d1, d2, d3] => { results := [.lit (.bool false)], args := [d1, d2, d3] }
  | _ => none }
def TaxExplainsWrongFalsely : Prop := taxExplainsRow.holds Try.pinned (OpenSpec.ofChange taxExplainsWrong)

/- THE SECOND FORM. 'bulk': how many values and letters a reading holds, each counted each time it is reached (what is shared counts as often as it is met; a slice's spare places count too). A statement '..UptoSaid' is the law's where the arguments, and the package variables that the reading takes, are together of bulk at most 1048576: NARROWER than '..Said'. Prove '..Said' where nothing that the law and all that it calls make is longer than what came in: it says more and counts as full. Else prove '..UptoSaid'. A law counts once. -/
mutual
def uptoBulk {H : Type} : DataW H → Nat
  | .lit (.string bytes) => bytes.length + 1
  | .lit _ => 1
  | .nil => 1
  | .ptr d => uptoBulk d + 1
  | .slice elems spare => uptoBulkAll elems + uptoBulkAll spare + 1
  | .agg parts => uptoBulkAll parts + 1
  | .iface _ d => uptoBulk d + 1
  | .map entries => uptoBulkEntries entries + 1
  | .held _ => 1
def uptoBulkAll {H : Type} : List (DataW H) → Nat
  | [] => 0
  | d :: r => uptoBulk d + uptoBulkAll r
def uptoBulkEntries {H : Type} : List (Lit × DataW H) → Nat
  | [] => 0
  | x :: r => uptoBulkEntry x + uptoBulkEntries r
def uptoBulkEntry {H : Type} : Lit × DataW H → Nat
  | (.string bytes, d) => bytes.length + uptoBulk d + 1
  | (_, d) => uptoBulk d + 1
 end
def uptoSmall : (H : Type) → List (DataW H) → Bool := fun _ ds => decide (uptoBulkAll ds ≤ 1048576)
def OpenSpec.upto (s : _root_.Go.ChangeSpec) : _root_.Go.OpenSpec := { _root_.Go.OpenSpec.ofChange s with cond := some uptoSmall }

/-- 'stipendlaw06.PairSides', WHERE WHAT IT READS IS OF BULK AT MOST 1048576: true; the input reads as it did. -/
def pairSidesUptoRow : OpenClaim := { program := "ytcapgmoipacioaa", sum := "9e5d6e2214c43174cfc505004ef876cab364f8aeaca86e39de6fef0bb85de3ae", func := "stipend/stipendlaw06.PairSides", spec := "pairSides", apart := false, narrowed := true }
def PairSidesUptoSaid : Prop := pairSidesUptoRow.holds Try.pinned (OpenSpec.upto pairSidesSpec)

/-- 'stipendlaw06.PairTotals', WHERE WHAT IT READS IS OF BULK AT MOST 1048576: true; the input reads as it did. -/
def pairTotalsUptoRow : OpenClaim := { program := "ytcapgmoipacioaa", sum := "9e5d6e2214c43174cfc505004ef876cab364f8aeaca86e39de6fef0bb85de3ae", func := "stipend/stipendlaw06.PairTotals", spec := "pairTotals", apart := false, narrowed := true }
def PairTotalsUptoSaid : Prop := pairTotalsUptoRow.holds Try.pinned (OpenSpec.upto pairTotalsSpec)

/-- 'stipendlaw06.PairTimes', WHERE WHAT IT READS IS OF BULK AT MOST 1048576: true; the input reads as it did. -/
def pairTimesUptoRow : OpenClaim := { program := "ytcapgmoipacioaa", sum := "9e5d6e2214c43174cfc505004ef876cab364f8aeaca86e39de6fef0bb85de3ae", func := "stipend/stipendlaw06.PairTimes", spec := "pairTimes", apart := false, narrowed := true }
def PairTimesUptoSaid : Prop := pairTimesUptoRow.holds Try.pinned (OpenSpec.upto pairTimesSpec)

/-- 'stipendlaw05.BandChecks', WHERE WHAT IT READS IS OF BULK AT MOST 1048576: true; the input reads as it did. -/
def bandChecksUptoRow : OpenClaim := { program := "ytcapgmoipacioaa", sum := "9e5d6e2214c43174cfc505004ef876cab364f8aeaca86e39de6fef0bb85de3ae", func := "stipend/stipendlaw05.BandChecks", spec := "bandChecks", unfollowed := true, recurses := true, apart := false, narrowed := true }
def BandChecksUptoSaid : Prop := bandChecksUptoRow.holds Try.pinned (OpenSpec.upto bandChecksSpec)

/-- 'stipendtop.WholeShares', WHERE WHAT IT READS IS OF BULK AT MOST 1048576: true; the input reads as it did. -/
def wholeSharesUptoRow : OpenClaim := { program := "ytcapgmoipacioaa", sum := "9e5d6e2214c43174cfc505004ef876cab364f8aeaca86e39de6fef0bb85de3ae", func := "stipend/stipendtop.WholeShares", spec := "wholeShares", unfollowed := true, recurses := true, apart := false, narrowed := true }
def WholeSharesUptoSaid : Prop := wholeSharesUptoRow.holds Try.pinned (OpenSpec.upto wholeSharesSpec)

/-- 'stipendlaw05.BandExact', WHERE WHAT IT READS IS OF BULK AT MOST 1048576: true; the input reads as it did. -/
def bandExactUptoRow : OpenClaim := { program := "ytcapgmoipacioaa", sum := "9e5d6e2214c43174cfc505004ef876cab364f8aeaca86e39de6fef0bb85de3ae", func := "stipend/stipendlaw05.BandExact", spec := "bandExact", unfollowed := true, recurses := true, apart := false, narrowed := true }
def BandExactUptoSaid : Prop := bandExactUptoRow.holds Try.pinned (OpenSpec.upto bandExactSpec)

/-- 'stipendtop.WholeTax', WHERE WHAT IT READS IS OF BULK AT MOST 1048576: true; the input reads as it did. -/
def wholeTaxUptoRow : OpenClaim := { program := "ytcapgmoipacioaa", sum := "9e5d6e2214c43174cfc505004ef876cab364f8aeaca86e39de6fef0bb85de3ae", func := "stipend/stipendtop.WholeTax", spec := "wholeTax", unfollowed := true, recurses := true, apart := false, narrowed := true }
def WholeTaxUptoSaid : Prop := wholeTaxUptoRow.holds Try.pinned (OpenSpec.upto wholeTaxSpec)

/-- 'stipendlaw05.BandRises', WHERE WHAT IT READS IS OF BULK AT MOST 1048576: true; the input reads as it did. -/
def bandRisesUptoRow : OpenClaim := { program := "ytcapgmoipacioaa", sum := "9e5d6e2214c43174cfc505004ef876cab364f8aeaca86e39de6fef0bb85de3ae", func := "stipend/stipendlaw05.BandRises", spec := "bandRises", unfollowed := true, recurses := true, apart := false, narrowed := true }
def BandRisesUptoSaid : Prop := bandRisesUptoRow.holds Try.pinned (OpenSpec.upto bandRisesSpec)

/-- 'stipendlaw05.BandScales', WHERE WHAT IT READS IS OF BULK AT MOST 1048576: true; the input reads as it did. -/
def bandScalesUptoRow : OpenClaim := { program := "ytcapgmoipacioaa", sum := "9e5d6e2214c43174cfc505004ef876cab364f8aeaca86e39de6fef0bb85de3ae", func := "stipend/stipendlaw05.BandScales", spec := "bandScales", unfollowed := true, recurses := true, apart := false, narrowed := true }
def BandScalesUptoSaid : Prop := bandScalesUptoRow.holds Try.pinned (OpenSpec.upto bandScalesSpec)

/-- 'stipendlaw05.BandJoins', WHERE WHAT IT READS IS OF BULK AT MOST 1048576: true; the input reads as it did. -/
def bandJoinsUptoRow : OpenClaim := { program := "ytcapgmoipacioaa", sum := "9e5d6e2214c43174cfc505004ef876cab364f8aeaca86e39de6fef0bb85de3ae", func := "stipend/stipendlaw05.BandJoins", spec := "bandJoins", unfollowed := true, recurses := true, apart := false, narrowed := true }
def BandJoinsUptoSaid : Prop := bandJoinsUptoRow.holds Try.pinned (OpenSpec.upto bandJoinsSpec)

/-- 'stipendlaw06.PairBands', WHERE WHAT IT READS IS OF BULK AT MOST 1048576: true; the input reads as it did. -/
def pairBandsUptoRow : OpenClaim := { program := "ytcapgmoipacioaa", sum := "9e5d6e2214c43174cfc505004ef876cab364f8aeaca86e39de6fef0bb85de3ae", func := "stipend/stipendlaw06.PairBands", spec := "pairBands", unfollowed := true, recurses := true, apart := false, narrowed := true }
def PairBandsUptoSaid : Prop := pairBandsUptoRow.holds Try.pinned (OpenSpec.upto pairBandsSpec)

/-- 'stipendlaw15.SocialDue', WHERE WHAT IT READS IS OF BULK AT MOST 1048576: true; the input reads as it did. -/
def socialDueUptoRow : OpenClaim := { program := "ytcapgmoipacioaa", sum := "9e5d6e2214c43174cfc505004ef876cab364f8aeaca86e39de6fef0bb85de3ae", func := "stipend/stipendlaw15.SocialDue", spec := "socialDue", unfollowed := true, recurses := true, apart := false, narrowed := true }
def SocialDueUptoSaid : Prop := socialDueUptoRow.holds Try.pinned (OpenSpec.upto socialDueSpec)

/-- 'stipendlaw15.SocialSums', WHERE WHAT IT READS IS OF BULK AT MOST 1048576: true; the input reads as it did. -/
def socialSumsUptoRow : OpenClaim := { program := "ytcapgmoipacioaa", sum := "9e5d6e2214c43174cfc505004ef876cab364f8aeaca86e39de6fef0bb85de3ae", func := "stipend/stipendlaw15.SocialSums", spec := "socialSums", unfollowed := true, recurses := true, apart := false, narrowed := true }
def SocialSumsUptoSaid : Prop := socialSumsUptoRow.holds Try.pinned (OpenSpec.upto socialSumsSpec)

/-- 'stipendlaw15.SocialCeils', WHERE WHAT IT READS IS OF BULK AT MOST 1048576: true; the input reads as it did. -/
def socialCeilsUptoRow : OpenClaim := { program := "ytcapgmoipacioaa", sum := "9e5d6e2214c43174cfc505004ef876cab364f8aeaca86e39de6fef0bb85de3ae", func := "stipend/stipendlaw15.SocialCeils", spec := "socialCeils", unfollowed := true, recurses := true, apart := false, narrowed := true }
def SocialCeilsUptoSaid : Prop := socialCeilsUptoRow.holds Try.pinned (OpenSpec.upto socialCeilsSpec)

/-- 'stipendlaw15.SocialYear', WHERE WHAT IT READS IS OF BULK AT MOST 1048576: true; the input reads as it did. -/
def socialYearUptoRow : OpenClaim := { program := "ytcapgmoipacioaa", sum := "9e5d6e2214c43174cfc505004ef876cab364f8aeaca86e39de6fef0bb85de3ae", func := "stipend/stipendlaw15.SocialYear", spec := "socialYear", unfollowed := true, recurses := true, apart := false, narrowed := true }
def SocialYearUptoSaid : Prop := socialYearUptoRow.holds Try.pinned (OpenSpec.upto socialYearSpec)

/-- 'stipendlaw13.TaxDue', WHERE WHAT IT READS IS OF BULK AT MOST 1048576: true; the input reads as it did. -/
def taxDueUptoRow : OpenClaim := { program := "ytcapgmoipacioaa", sum := "9e5d6e2214c43174cfc505004ef876cab364f8aeaca86e39de6fef0bb85de3ae", func := "stipend/stipendlaw13.TaxDue", spec := "taxDue", unfollowed := true, recurses := true, apart := false, narrowed := true }
def TaxDueUptoSaid : Prop := taxDueUptoRow.holds Try.pinned (OpenSpec.upto taxDueSpec)

/-- 'stipendlaw13.TaxRefuses', WHERE WHAT IT READS IS OF BULK AT MOST 1048576: true; the input reads as it did. -/
def taxRefusesUptoRow : OpenClaim := { program := "ytcapgmoipacioaa", sum := "9e5d6e2214c43174cfc505004ef876cab364f8aeaca86e39de6fef0bb85de3ae", func := "stipend/stipendlaw13.TaxRefuses", spec := "taxRefuses", unfollowed := true, recurses := true, apart := false, narrowed := true }
def TaxRefusesUptoSaid : Prop := taxRefusesUptoRow.holds Try.pinned (OpenSpec.upto taxRefusesSpec)

/-- 'stipendlaw13.TaxRises', WHERE WHAT IT READS IS OF BULK AT MOST 1048576: true; the input reads as it did. -/
def taxRisesUptoRow : OpenClaim := { program := "ytcapgmoipacioaa", sum := "9e5d6e2214c43174cfc505004ef876cab364f8aeaca86e39de6fef0bb85de3ae", func := "stipend/stipendlaw13.TaxRises", spec := "taxRises", unfollowed := true, recurses := true, apart := false, narrowed := true }
def TaxRisesUptoSaid : Prop := taxRisesUptoRow.holds Try.pinned (OpenSpec.upto taxRisesSpec)

/-- 'stipendlaw13.TaxYear', WHERE WHAT IT READS IS OF BULK AT MOST 1048576: true; the input reads as it did. -/
def taxYearUptoRow : OpenClaim := { program := "ytcapgmoipacioaa", sum := "9e5d6e2214c43174cfc505004ef876cab364f8aeaca86e39de6fef0bb85de3ae", func := "stipend/stipendlaw13.TaxYear", spec := "taxYear", unfollowed := true, recurses := true, apart := false, narrowed := true }
def TaxYearUptoSaid : Prop := taxYearUptoRow.holds Try.pinned (OpenSpec.upto taxYearSpec)

/-- 'stipendlaw13.TaxSpreads', WHERE WHAT IT READS IS OF BULK AT MOST 1048576: true; the input reads as it did. -/
def taxSpreadsUptoRow : OpenClaim := { program := "ytcapgmoipacioaa", sum := "9e5d6e2214c43174cfc505004ef876cab364f8aeaca86e39de6fef0bb85de3ae", func := "stipend/stipendlaw13.TaxSpreads", spec := "taxSpreads", unfollowed := true, recurses := true, apart := false, narrowed := true }
def TaxSpreadsUptoSaid : Prop := taxSpreadsUptoRow.holds Try.pinned (OpenSpec.upto taxSpreadsSpec)

/-- 'stipendlaw13.TaxExplains', WHERE WHAT IT READS IS OF BULK AT MOST 1048576: true; the input reads as it did. -/
def taxExplainsUptoRow : OpenClaim := { program := "ytcapgmoipacioaa", sum := "9e5d6e2214c43174cfc505004ef876cab364f8aeaca86e39de6fef0bb85de3ae", func := "stipend/stipendlaw13.TaxExplains", spec := "taxExplains", unfollowed := true, recurses := true, apart := false, narrowed := true }
def TaxExplainsUptoSaid : Prop := taxExplainsUptoRow.holds Try.pinned (OpenSpec.upto taxExplainsSpec)

end Rows
end Go.Proofs.Ytcapgmoipacioaa
