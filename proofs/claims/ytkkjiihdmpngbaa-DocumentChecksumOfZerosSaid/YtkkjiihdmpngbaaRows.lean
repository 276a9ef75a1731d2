/-
  No cell of these rows narrows 'for every input' (looked for: loops, veiled, ifaces, maps, wideKeys, modest, calm, conditions, laid).
  DERIVED. THE GIVEN ROWS OF THIS SEAT. 14 by the template 'for every input the law returns true; each argument reads behind the call as it read before'; 0 by the template 'total and deterministic' (their statements: YtkkjiihdmpngbaaTotals.lean).
  GIVEN WITH THE SEED: the statements are not yours to turn. If you find one false, say at which input.
  Laid BY PROGRAM, IN A SANDBOX (cutbox-rows.mjs): the forced cells as the released guide's own fill.sh prints them over the translation 2306663a825fabc4… (all of the seat's roots in one cut). By AI agents, Wed Nov 11 2026. No macro, syntax, notation, axiom, sorry.
-/
import Derived.Test.YtkkjiihdmpngbaaChecked
import GoSem.Claim
import GoSem.ClaimJoined
import GoSem.ClaimMapViews
import Derived.JoinedTies
import Derived.KernelRfl
namespace Go.Proofs.Ytkkjiihdmpngbaa
/- THE CELL 'sum', in the pinned program and in every row, IS THE sha256 OF THE DUMP (.gsa) THAT YtkkjiihdmpngbaaProg.lean LOADS. Nothing in Lean hashes anything: it is a label: what it is worth is what the hold of that sum in a sandbox is worth. -/
noncomputable def Try.pinned : Pinned := { name := "ytkkjiihdmpngbaa", sum := "2306663a825fabc4daafef5083bbe99ea27d5c8e465c690cdacd3d36d753f110", checked := Try.checked }
namespace Rows
def none {H : Type} : Left H := { results := [], args := [] }

/-- 'pensionlaw31.DocumentChecksumAgrees': WHATEVER THE INPUT: true; the input reads as it did. -/
def documentChecksumAgreesSpec : ChangeSpec := { name := "documentChecksumAgrees", fn := fun _ => fun
  | [d] => { results := [.lit (.bool true)], args := [d] }
  | _ => none }
def documentChecksumAgreesRow : OpenClaim := { program := "ytkkjiihdmpngbaa", sum := "2306663a825fabc4daafef5083bbe99ea27d5c8e465c690cdacd3d36d753f110", func := "pension/pensionlaw31.DocumentChecksumAgrees", spec := "documentChecksumAgrees", inPlace := ["internal/bytealg.IndexByteString", "internal/bytealg.IndexString"], unfollowed := true, recurses := true, named := ["internal/bytealg.MaxLen"], apart := false }
def DocumentChecksumAgreesSaid : Prop := documentChecksumAgreesRow.holds Try.pinned (OpenSpec.ofChange documentChecksumAgreesSpec)

/-- ITS FALSE NEIGHBOUR: 'it returns false'. Refute it at one input. -/
def documentChecksumAgreesWrong : ChangeSpec := { name := "documentChecksumAgrees", fn := fun _ => fun
  | [d] => { results := [.lit (.bool false)], args := [d] }
  | _ => none }
def DocumentChecksumAgreesWrongFalsely : Prop := documentChecksumAgreesRow.holds Try.pinned (OpenSpec.ofChange documentChecksumAgreesWrong)

/-- 'pensionlaw31.DocumentChecksumOfZeros': WHATEVER THE INPUT: true; the input reads as it did. -/
def documentChecksumOfZerosSpec : ChangeSpec := { name := "documentChecksumOfZeros", fn := fun _ => fun
  | [d1, d2] => { results := [.lit (.bool true)], args := [d1, d2] }
  | _ => none }
def documentChecksumOfZerosRow : OpenClaim := { program := "ytkkjiihdmpngbaa", sum := "2306663a825fabc4daafef5083bbe99ea27d5c8e465c690cdacd3d36d753f110", func := "pension/pensionlaw31.DocumentChecksumOfZeros", spec := "documentChecksumOfZeros", inPlace := ["internal/bytealg.IndexByteString", "internal/bytealg.IndexString"], unfollowed := true, recurses := true, named := ["internal/bytealg.MaxLen"], apart := false }
def DocumentChecksumOfZerosSaid : Prop := documentChecksumOfZerosRow.holds Try.pinned (OpenSpec.ofChange documentChecksumOfZerosSpec)

/-- ITS FALSE NEIGHBOUR: 'it returns false'. Refute it at one input. -/
def documentChecksumOfZerosWrong : ChangeSpec := { name := "documentChecksumOfZeros", fn := fun _ => fun
  | [d1, d2] => { results := [.lit (.bool false)], args := [d1, d2] }
  | _ => none }
def DocumentChecksumOfZerosWrongFalsely : Prop := documentChecksumOfZerosRow.holds Try.pinned (OpenSpec.ofChange documentChecksumOfZerosWrong)

/-- 'pensionlaw31.DocumentEncodeAgrees': WHATEVER THE INPUT: true; the input reads as it did. -/
def documentEncodeAgreesSpec : ChangeSpec := { name := "documentEncodeAgrees", fn := fun _ => fun
  | [d] => { results := [.lit (.bool true)], args := [d] }
  | _ => none }
def documentEncodeAgreesRow : OpenClaim := { program := "ytkkjiihdmpngbaa", sum := "2306663a825fabc4daafef5083bbe99ea27d5c8e465c690cdacd3d36d753f110", func := "pension/pensionlaw31.DocumentEncodeAgrees", spec := "documentEncodeAgrees", inPlace := ["internal/bytealg.IndexByteString", "internal/bytealg.IndexString"], unfollowed := true, recurses := true, named := ["internal/bytealg.MaxLen"], apart := false }
def DocumentEncodeAgreesSaid : Prop := documentEncodeAgreesRow.holds Try.pinned (OpenSpec.ofChange documentEncodeAgreesSpec)

/-- ITS FALSE NEIGHBOUR: 'it returns false'. Refute it at one input. -/
def documentEncodeAgreesWrong : ChangeSpec := { name := "documentEncodeAgrees", fn := fun _ => fun
  | [d] => { results := [.lit (.bool false)], args := [d] }
  | _ => none }
def DocumentEncodeAgreesWrongFalsely : Prop := documentEncodeAgreesRow.holds Try.pinned (OpenSpec.ofChange documentEncodeAgreesWrong)

/-- 'pensionlaw31.DocumentEncodeRejects': WHATEVER THE INPUT: true; the input reads as it did. -/
def documentEncodeRejectsSpec : ChangeSpec := { name := "documentEncodeRejects", fn := fun _ => fun
  | [d] => { results := [.lit (.bool true)], args := [d] }
  | _ => none }
def documentEncodeRejectsRow : OpenClaim := { program := "ytkkjiihdmpngbaa", sum := "2306663a825fabc4daafef5083bbe99ea27d5c8e465c690cdacd3d36d753f110", func := "pension/pensionlaw31.DocumentEncodeRejects", spec := "documentEncodeRejects", inPlace := ["internal/bytealg.IndexByteString", "internal/bytealg.IndexString"], unfollowed := true, recurses := true, named := ["internal/bytealg.MaxLen"], apart := false }
def DocumentEncodeRejectsSaid : Prop := documentEncodeRejectsRow.holds Try.pinned (OpenSpec.ofChange documentEncodeRejectsSpec)

/-- ITS FALSE NEIGHBOUR: 'it returns false'. Refute it at one input. -/
def documentEncodeRejectsWrong : ChangeSpec := { name := "documentEncodeRejects", fn := fun _ => fun
  | [d] => { results := [.lit (.bool false)], args := [d] }
  | _ => none }
def DocumentEncodeRejectsWrongFalsely : Prop := documentEncodeRejectsRow.holds Try.pinned (OpenSpec.ofChange documentEncodeRejectsWrong)

/-- 'pensionlaw31.DocumentNeedsEachField': WHATEVER THE INPUT: true; the input reads as it did. -/
def documentNeedsEachFieldSpec : ChangeSpec := { name := "documentNeedsEachField", fn := fun _ => fun
  | [d1, d2, d3] => { results := [.lit (.bool true)], args := [d1, d2, d3] }
  | _ => none }
def documentNeedsEachFieldRow : OpenClaim := { program := "ytkkjiihdmpngbaa", sum := "2306663a825fabc4daafef5083bbe99ea27d5c8e465c690cdacd3d36d753f110", func := "pension/pensionlaw31.DocumentNeedsEachField", spec := "documentNeedsEachField", inPlace := ["internal/bytealg.IndexByteString", "internal/bytealg.IndexString"], unfollowed := true, recurses := true, named := ["internal/bytealg.MaxLen"], apart := false }
def DocumentNeedsEachFieldSaid : Prop := documentNeedsEachFieldRow.holds Try.pinned (OpenSpec.ofChange documentNeedsEachFieldSpec)

/-- ITS FALSE NEIGHBOUR: 'it returns false'. Refute it at one input. -/
def documentNeedsEachFieldWrong : ChangeSpec := { name := "documentNeedsEachField", fn := fun _ => fun
  | [d1, d2, d3] => { results := [.lit (.bool false)], args := [d1, d2, d3] }
  | _ => none }
def DocumentNeedsEachFieldWrongFalsely : Prop := documentNeedsEachFieldRow.holds Try.pinned (OpenSpec.ofChange documentNeedsEachFieldWrong)

/-- 'pensionlaw31.DocumentRoundTrip': WHATEVER THE INPUT: true; the input reads as it did. -/
def documentRoundTripSpec : ChangeSpec := { name := "documentRoundTrip", fn := fun _ => fun
  | [d] => { results := [.lit (.bool true)], args := [d] }
  | _ => none }
def documentRoundTripRow : OpenClaim := { program := "ytkkjiihdmpngbaa", sum := "2306663a825fabc4daafef5083bbe99ea27d5c8e465c690cdacd3d36d753f110", func := "pension/pensionlaw31.DocumentRoundTrip", spec := "documentRoundTrip", inPlace := ["internal/bytealg.IndexByteString", "internal/bytealg.IndexString"], unfollowed := true, recurses := true, named := ["internal/bytealg.MaxLen"], apart := false }
def DocumentRoundTripSaid : Prop := documentRoundTripRow.holds Try.pinned (OpenSpec.ofChange documentRoundTripSpec)

/-- ITS FALSE NEIGHBOUR: 'it returns false'. Refute it at one input. -/
def documentRoundTripWrong : ChangeSpec := { name := "documentRoundTrip", fn := fun _ => fun
  | [d] => { results := [.lit (.bool false)], args := [d] }
  | _ => none }
def DocumentRoundTripWrongFalsely : Prop := documentRoundTripRow.holds Try.pinned (OpenSpec.ofChange documentRoundTripWrong)

/-- 'pensionlaw31.DocumentDecodeAgrees': WHATEVER THE INPUT: true; the input reads as it did. -/
def documentDecodeAgreesSpec : ChangeSpec := { name := "documentDecodeAgrees", fn := fun _ => fun
  | [d] => { results := [.lit (.bool true)], args := [d] }
  | _ => none }
def documentDecodeAgreesRow : OpenClaim := { program := "ytkkjiihdmpngbaa", sum := "2306663a825fabc4daafef5083bbe99ea27d5c8e465c690cdacd3d36d753f110", func := "pension/pensionlaw31.DocumentDecodeAgrees", spec := "documentDecodeAgrees", inPlace := ["internal/bytealg.IndexByteString", "internal/bytealg.IndexString"], unfollowed := true, recurses := true, named := ["internal/bytealg.MaxLen"], apart := false }
def DocumentDecodeAgreesSaid : Prop := documentDecodeAgreesRow.holds Try.pinned (OpenSpec.ofChange documentDecodeAgreesSpec)

/-- ITS FALSE NEIGHBOUR: 'it returns false'. Refute it at one input. -/
def documentDecodeAgreesWrong : ChangeSpec := { name := "documentDecodeAgrees", fn := fun _ => fun
  | [d] => { results := [.lit (.bool false)], args := [d] }
  | _ => none }
def DocumentDecodeAgreesWrongFalsely : Prop := documentDecodeAgreesRow.holds Try.pinned (OpenSpec.ofChange documentDecodeAgreesWrong)

/-- 'pensionlaw31.DocumentDetectsAByte': WHATEVER THE INPUT: true; the input reads as it did. -/
def documentDetectsAByteSpec : ChangeSpec := { name := "documentDetectsAByte", fn := fun _ => fun
  | [d1, d2, d3] => { results := [.lit (.bool true)], args := [d1, d2, d3] }
  | _ => none }
def documentDetectsAByteRow : OpenClaim := { program := "ytkkjiihdmpngbaa", sum := "2306663a825fabc4daafef5083bbe99ea27d5c8e465c690cdacd3d36d753f110", func := "pension/pensionlaw31.DocumentDetectsAByte", spec := "documentDetectsAByte", inPlace := ["internal/bytealg.IndexByteString", "internal/bytealg.IndexString"], unfollowed := true, recurses := true, named := ["internal/bytealg.MaxLen"], apart := false }
def DocumentDetectsAByteSaid : Prop := documentDetectsAByteRow.holds Try.pinned (OpenSpec.ofChange documentDetectsAByteSpec)

/-- ITS FALSE NEIGHBOUR: 'it returns false'. Refute it at one input. -/
def documentDetectsAByteWrong : ChangeSpec := { name := "documentDetectsAByte", fn := fun _ => fun
  | [d1, d2, d3] => { results := [.lit (.bool false)], args := [d1, d2, d3] }
  | _ => none }
def DocumentDetectsAByteWrongFalsely : Prop := documentDetectsAByteRow.holds Try.pinned (OpenSpec.ofChange documentDetectsAByteWrong)

/-- 'pensionlaw31.DocumentDetectsACut': WHATEVER THE INPUT: true; the input reads as it did. -/
def documentDetectsACutSpec : ChangeSpec := { name := "documentDetectsACut", fn := fun _ => fun
  | [d1, d2, d3] => { results := [.lit (.bool true)], args := [d1, d2, d3] }
  | _ => none }
def documentDetectsACutRow : OpenClaim := { program := "ytkkjiihdmpngbaa", sum := "2306663a825fabc4daafef5083bbe99ea27d5c8e465c690cdacd3d36d753f110", func := "pension/pensionlaw31.DocumentDetectsACut", spec := "documentDetectsACut", inPlace := ["internal/bytealg.IndexByteString", "internal/bytealg.IndexString"], unfollowed := true, recurses := true, named := ["internal/bytealg.MaxLen"], apart := false }
def DocumentDetectsACutSaid : Prop := documentDetectsACutRow.holds Try.pinned (OpenSpec.ofChange documentDetectsACutSpec)

/-- ITS FALSE NEIGHBOUR: 'it returns false'. Refute it at one input. -/
def documentDetectsACutWrong : ChangeSpec := { name := "documentDetectsACut", fn := fun _ => fun
  | [d1, d2, d3] => { results := [.lit (.bool false)], args := [d1, d2, d3] }
  | _ => none }
def DocumentDetectsACutWrongFalsely : Prop := documentDetectsACutRow.holds Try.pinned (OpenSpec.ofChange documentDetectsACutWrong)

/-- 'pensionlaw31.DocumentMoneyTakes': WHATEVER THE INPUT: true; the input reads as it did. -/
def documentMoneyTakesSpec : ChangeSpec := { name := "documentMoneyTakes", fn := fun _ => fun
  | [d1, d2, d3, d4] => { results := [.lit (.bool true)], args := [d1, d2, d3, d4] }
  | _ => none }
def documentMoneyTakesRow : OpenClaim := { program := "ytkkjiihdmpngbaa", sum := "2306663a825fabc4daafef5083bbe99ea27d5c8e465c690cdacd3d36d753f110", func := "pension/pensionlaw31.DocumentMoneyTakes", spec := "documentMoneyTakes", inPlace := ["internal/bytealg.IndexByteString", "internal/bytealg.IndexString"], unfollowed := true, recurses := true, named := ["internal/bytealg.MaxLen"], apart := false }
def DocumentMoneyTakesSaid : Prop := documentMoneyTakesRow.holds Try.pinned (OpenSpec.ofChange documentMoneyTakesSpec)

/-- ITS FALSE NEIGHBOUR: 'it returns false'. Refute it at one input. -/
def documentMoneyTakesWrong : ChangeSpec := { name := "documentMoneyTakes", fn := fun _ => fun
  | [d1, d2, d3, d4] => { results := [.lit (.bool false)], args := [d1, d2, d3, d4] }
  | _ => none }
def DocumentMoneyTakesWrongFalsely : Prop := documentMoneyTakesRow.holds Try.pinned (OpenSpec.ofChange documentMoneyTakesWrong)

/-- 'pensionlaw31.DocumentClaimBody': WHATEVER THE INPUT: true; the input reads as it did. -/
def documentClaimBodySpec : ChangeSpec := { name := "documentClaimBody", fn := fun _ => fun
  | [d1, d2] => { results := [.lit (.bool true)], args := [d1, d2] }
  | _ => none }
def documentClaimBodyRow : OpenClaim := { program := "ytkkjiihdmpngbaa", sum := "2306663a825fabc4daafef5083bbe99ea27d5c8e465c690cdacd3d36d753f110", func := "pension/pensionlaw31.DocumentClaimBody", spec := "documentClaimBody", inPlace := ["internal/bytealg.IndexByteString", "internal/bytealg.IndexString"], unfollowed := true, recurses := true, named := ["internal/bytealg.MaxLen"], apart := false }
def DocumentClaimBodySaid : Prop := documentClaimBodyRow.holds Try.pinned (OpenSpec.ofChange documentClaimBodySpec)

/-- ITS FALSE NEIGHBOUR: 'it returns false'. Refute it at one input. -/
def documentClaimBodyWrong : ChangeSpec := { name := "documentClaimBody", fn := fun _ => fun
  | [d1, d2] => { results := [.lit (.bool false)], args := [d1, d2] }
  | _ => none }
def DocumentClaimBodyWrongFalsely : Prop := documentClaimBodyRow.holds Try.pinned (OpenSpec.ofChange documentClaimBodyWrong)

/-- 'pensionlaw31.DocumentMoneyBodies': WHATEVER THE INPUT: true; the input reads as it did. -/
def documentMoneyBodiesSpec : ChangeSpec := { name := "documentMoneyBodies", fn := fun _ => fun
  | [d1, d2, d3] => { results := [.lit (.bool true)], args := [d1, d2, d3] }
  | _ => none }
def documentMoneyBodiesRow : OpenClaim := { program := "ytkkjiihdmpngbaa", sum := "2306663a825fabc4daafef5083bbe99ea27d5c8e465c690cdacd3d36d753f110", func := "pension/pensionlaw31.DocumentMoneyBodies", spec := "documentMoneyBodies", inPlace := ["internal/bytealg.IndexByteString", "internal/bytealg.IndexString"], unfollowed := true, recurses := true, named := ["internal/bytealg.MaxLen"], apart := false }
def DocumentMoneyBodiesSaid : Prop := documentMoneyBodiesRow.holds Try.pinned (OpenSpec.ofChange documentMoneyBodiesSpec)

/-- ITS FALSE NEIGHBOUR: 'it returns false'. Refute it at one input. -/
def documentMoneyBodiesWrong : ChangeSpec := { name := "documentMoneyBodies", fn := fun _ => fun
  | [d1, d2, d3] => { results := [.lit (.bool false)], args := [d1, d2, d3] }
  | _ => none }
def DocumentMoneyBodiesWrongFalsely : Prop := documentMoneyBodiesRow.holds Try.pinned (OpenSpec.ofChange documentMoneyBodiesWrong)

/-- 'pensionlaw31.DocumentMoneyRoundTrip': WHATEVER THE INPUT: true; the input reads as it did. -/
def documentMoneyRoundTripSpec : ChangeSpec := { name := "documentMoneyRoundTrip", fn := fun _ => fun
  | [d] => { results := [.lit (.bool true)], args := [d] }
  | _ => none }
def documentMoneyRoundTripRow : OpenClaim := { program := "ytkkjiihdmpngbaa", sum := "2306663a825fabc4daafef5083bbe99ea27d5c8e465c690cdacd3d36d753f110", func := "pension/pensionlaw31.DocumentMoneyRoundTrip", spec := "documentMoneyRoundTrip", inPlace := ["internal/bytealg.IndexByteString", "internal/bytealg.IndexString"], unfollowed := true, recurses := true, named := ["internal/bytealg.MaxLen"], apart := false }
def DocumentMoneyRoundTripSaid : Prop := documentMoneyRoundTripRow.holds Try.pinned (OpenSpec.ofChange documentMoneyRoundTripSpec)

/-- ITS FALSE NEIGHBOUR: 'it returns false'. Refute it at one input. -/
def documentMoneyRoundTripWrong : ChangeSpec := { name := "documentMoneyRoundTrip", fn := fun _ => fun
  | [d] => { results := [.lit (.bool false)], args := [d] }
  | _ => none }
def DocumentMoneyRoundTripWrongFalsely : Prop := documentMoneyRoundTripRow.holds Try.pinned (OpenSpec.ofChange documentMoneyRoundTripWrong)

/-- 'pensionlaw31.DocumentFactBody': WHATEVER THE INPUT: true; the input reads as it did. -/
def documentFactBodySpec : ChangeSpec := { name := "documentFactBody", fn := fun _ => fun
  | [d1, d2, d3] => { results := [.lit (.bool true)], args := [d1, d2, d3] }
  | _ => none }
def documentFactBodyRow : OpenClaim := { program := "ytkkjiihdmpngbaa", sum := "2306663a825fabc4daafef5083bbe99ea27d5c8e465c690cdacd3d36d753f110", func := "pension/pensionlaw31.DocumentFactBody", spec := "documentFactBody", inPlace := ["internal/bytealg.IndexByteString", "internal/bytealg.IndexString"], unfollowed := true, recurses := true, named := ["internal/bytealg.MaxLen"], apart := false }
def DocumentFactBodySaid : Prop := documentFactBodyRow.holds Try.pinned (OpenSpec.ofChange documentFactBodySpec)

/-- ITS FALSE NEIGHBOUR: 'it returns false'. Refute it at one input. -/
def documentFactBodyWrong : ChangeSpec := { name := "documentFactBody", fn := fun _ => fun
  | [d1, d2, d3] => { results := [.lit (.bool false)], args := [d1, d2, d3] }
  | _ => none }
def DocumentFactBodyWrongFalsely : Prop := documentFactBodyRow.holds Try.pinned (OpenSpec.ofChange documentFactBodyWrong)

/- THE SECOND FORM. 'bulk': how many values and letters a reading holds, each counted each time it is reached (what is shared counts as often as it is met; a slice's spare places count too). A statement '..UptoSaid' is the law's where the arguments, and the package variables that the reading takes, are together of bulk at most 1048576: NARROWER than '..Said'. Prove '..Said' where nothing that the law and all that it calls make is longer than what came in: it says more and counts as full. Else prove '..UptoSaid'. A law counts once. -/
mutual
def uptoBulk {H : Type} : DataW H → Nat
  | .lit (.string bytes) => bytes.length + 1
  | .lit _ => 1
  | .nil => 1
  | .ptr d => uptoBulk d + 1
  | .slice elems spare => uptoBulkAll elems + uptoBulkAll spare + 1
  | .agg parts => uptoBulkAll parts + 1
  | .iface _ d => uptoBulk d + 1
  | .map entries => uptoBulkEntries entries + 1
  | .held _ => 1
def uptoBulkAll {H : Type} : List (DataW H) → Nat
  | [] => 0
  | d :: r => uptoBulk d + uptoBulkAll r
def uptoBulkEntries {H : Type} : List (Lit × DataW H) → Nat
  | [] => 0
  | x :: r => uptoBulkEntry x + uptoBulkEntries r
def uptoBulkEntry {H : Type} : Lit × DataW H → Nat
  | (.string bytes, d) => bytes.length + uptoBulk d + 1
  | (_, d) => uptoBulk d + 1
 end
def uptoSmall : (H : Type) → List (DataW H) → Bool := fun _ ds => decide (uptoBulkAll ds ≤ 1048576)
def OpenSpec.upto (s : _root_.Go.ChangeSpec) : _root_.Go.OpenSpec := { _root_.Go.OpenSpec.ofChange s with cond := some uptoSmall }

/-- 'pensionlaw31.DocumentChecksumAgrees', WHERE WHAT IT READS IS OF BULK AT MOST 1048576: true; the input reads as it did. -/
def documentChecksumAgreesUptoRow : OpenClaim := { program := "ytkkjiihdmpngbaa", sum := "2306663a825fabc4daafef5083bbe99ea27d5c8e465c690cdacd3d36d753f110", func := "pension/pensionlaw31.DocumentChecksumAgrees", spec := "documentChecksumAgrees", inPlace := ["internal/bytealg.IndexByteString", "internal/bytealg.IndexString"], unfollowed := true, recurses := true, named := ["internal/bytealg.MaxLen"], apart := false, narrowed := true }
def DocumentChecksumAgreesUptoSaid : Prop := documentChecksumAgreesUptoRow.holds Try.pinned (OpenSpec.upto documentChecksumAgreesSpec)

/-- 'pensionlaw31.DocumentChecksumOfZeros', WHERE WHAT IT READS IS OF BULK AT MOST 1048576: true; the input reads as it did. -/
def documentChecksumOfZerosUptoRow : OpenClaim := { program := "ytkkjiihdmpngbaa", sum := "2306663a825fabc4daafef5083bbe99ea27d5c8e465c690cdacd3d36d753f110", func := "pension/pensionlaw31.DocumentChecksumOfZeros", spec := "documentChecksumOfZeros", inPlace := ["internal/bytealg.IndexByteString", "internal/bytealg.IndexString"], unfollowed := true, recurses := true, named := ["internal/bytealg.MaxLen"], apart := false, narrowed := true }
def DocumentChecksumOfZerosUptoSaid : Prop := documentChecksumOfZerosUptoRow.holds Try.pinned (OpenSpec.upto documentChecksumOfZerosSpec)

/-- 'pensionlaw31.DocumentEncodeAgrees', WHERE WHAT IT READS IS OF BULK AT MOST 1048576: true; the input reads as it did. -/
def documentEncodeAgreesUptoRow : OpenClaim := { program := "ytkkjiihdmpngbaa", sum := "2306663a825fabc4daafef5083bbe99ea27d5c8e465c690cdacd3d36d753f110", func := "pension/pensionlaw31.DocumentEncodeAgrees", spec := "documentEncodeAgrees", inPlace := ["internal/bytealg.IndexByteString", "internal/bytealg.IndexString"], unfollowed := true, recurses := true, named := ["internal/bytealg.MaxLen"], apart := false, narrowed := true }
def DocumentEncodeAgreesUptoSaid : Prop := documentEncodeAgreesUptoRow.holds Try.pinned (OpenSpec.upto documentEncodeAgreesSpec)

/-- 'pensionlaw31.DocumentEncodeRejects', WHERE WHAT IT READS IS OF BULK AT MOST 1048576: true; the input reads as it did. -/
def documentEncodeRejectsUptoRow : OpenClaim := { program := "ytkkjiihdmpngbaa", sum := "2306663a825fabc4daafef5083bbe99ea27d5c8e465c690cdacd3d36d753f110", func := "pension/pensionlaw31.DocumentEncodeRejects", spec := "documentEncodeRejects", inPlace := ["internal/bytealg.IndexByteString", "internal/bytealg.IndexString"], unfollowed := true, recurses := true, named := ["internal/bytealg.MaxLen"], apart := false, narrowed := true }
def DocumentEncodeRejectsUptoSaid : Prop := documentEncodeRejectsUptoRow.holds Try.pinned (OpenSpec.upto documentEncodeRejectsSpec)

/-- 'pensionlaw31.DocumentNeedsEachField', WHERE WHAT IT READS IS OF BULK AT MOST 1048576: true; the input reads as it did. -/
def documentNeedsEachFieldUptoRow : OpenClaim := { program := "ytkkjiihdmpngbaa", sum := "2306663a825fabc4daafef5083bbe99ea27d5c8e465c690cdacd3d36d753f110", func := "pension/pensionlaw31.DocumentNeedsEachField", spec := "documentNeedsEachField", inPlace := ["internal/bytealg.IndexByteString", "internal/bytealg.IndexString"], unfollowed := true, recurses := true, named := ["internal/bytealg.MaxLen"], apart := false, narrowed := true }
def DocumentNeedsEachFieldUptoSaid : Prop := documentNeedsEachFieldUptoRow.holds Try.pinned (OpenSpec.upto documentNeedsEachFieldSpec)

/-- 'pensionlaw31.DocumentRoundTrip', WHERE WHAT IT READS IS OF BULK AT MOST 1048576: true; the input reads as it did. -/
def documentRoundTripUptoRow : OpenClaim := { program := "ytkkjiihdmpngbaa", sum := "2306663a825fabc4daafef5083bbe99ea27d5c8e465c690cdacd3d36d753f110", func := "pension/pensionlaw31.DocumentRoundTrip", spec := "documentRoundTrip", inPlace := ["internal/bytealg.IndexByteString", "internal/bytealg.IndexString"], unfollowed := true, recurses := true, named := ["internal/bytealg.MaxLen"], apart := false, narrowed := true }
def DocumentRoundTripUptoSaid : Prop := documentRoundTripUptoRow.holds Try.pinned (OpenSpec.upto documentRoundTripSpec)

/-- 'pensionlaw31.DocumentDecodeAgrees', WHERE WHAT IT READS IS OF BULK AT MOST 1048576: true; the input reads as it did. -/
def documentDecodeAgreesUptoRow : OpenClaim := { program := "ytkkjiihdmpngbaa", sum := "2306663a825fabc4daafef5083bbe99ea27d5c8e465c690cdacd3d36d753f110", func := "pension/pensionlaw31.DocumentDecodeAgrees", spec := "documentDecodeAgrees", inPlace := ["internal/bytealg.IndexByteString", "internal/bytealg.IndexString"], unfollowed := true, recurses := true, named := ["internal/bytealg.MaxLen"], apart := false, narrowed := true }
def DocumentDecodeAgreesUptoSaid : Prop := documentDecodeAgreesUptoRow.holds Try.pinned (OpenSpec.upto documentDecodeAgreesSpec)

/-- 'pensionlaw31.DocumentDetectsAByte', WHERE WHAT IT READS IS OF BULK AT MOST 1048576: true; the input reads as it did. -/
def documentDetectsAByteUptoRow : OpenClaim := { program := "ytkkjiihdmpngbaa", sum := "2306663a825fabc4daafef5083bbe99ea27d5c8e465c690cdacd3d36d753f110", func := "pension/pensionlaw31.DocumentDetectsAByte", spec := "documentDetectsAByte", inPlace := ["internal/bytealg.IndexByteString", "internal/bytealg.IndexString"], unfollowed := true, recurses := true, named := ["internal/bytealg.MaxLen"], apart := false, narrowed := true }
def DocumentDetectsAByteUptoSaid : Prop := documentDetectsAByteUptoRow.holds Try.pinned (OpenSpec.upto documentDetectsAByteSpec)

/-- 'pensionlaw31.DocumentDetectsACut', WHERE WHAT IT READS IS OF BULK AT MOST 1048576: true; the input reads as it did. -/
def documentDetectsACutUptoRow : OpenClaim := { program := "ytkkjiihdmpngbaa", sum := "2306663a825fabc4daafef5083bbe99ea27d5c8e465c690cdacd3d36d753f110", func := "pension/pensionlaw31.DocumentDetectsACut", spec := "documentDetectsACut", inPlace := ["internal/bytealg.IndexByteString", "internal/bytealg.IndexString"], unfollowed := true, recurses := true, named := ["internal/bytealg.MaxLen"], apart := false, narrowed := true }
def DocumentDetectsACutUptoSaid : Prop := documentDetectsACutUptoRow.holds Try.pinned (OpenSpec.upto documentDetectsACutSpec)

/-- 'pensionlaw31.DocumentMoneyTakes', WHERE WHAT IT READS IS OF BULK AT MOST 1048576: true; the input reads as it did. -/
def documentMoneyTakesUptoRow : OpenClaim := { program := "ytkkjiihdmpngbaa", sum := "2306663a825fabc4daafef5083bbe99ea27d5c8e465c690cdacd3d36d753f110", func := "pension/pensionlaw31.DocumentMoneyTakes", spec := "documentMoneyTakes", inPlace := ["internal/bytealg.IndexByteString", "internal/bytealg.IndexString"], unfollowed := true, recurses := true, named := ["internal/bytealg.MaxLen"], apart := false, narrowed := true }
def DocumentMoneyTakesUptoSaid : Prop := documentMoneyTakesUptoRow.holds Try.pinned (OpenSpec.upto documentMoneyTakesSpec)

/-- 'pensionlaw31.DocumentClaimBody', WHERE WHAT IT READS IS OF BULK AT MOST 1048576: true; the input reads as it did. -/
def documentClaimBodyUptoRow : OpenClaim := { program := "ytkkjiihdmpngbaa", sum := "2306663a825fabc4daafef5083bbe99ea27d5c8e465c690cdacd3d36d753f110", func := "pension/pensionlaw31.DocumentClaimBody", spec := "documentClaimBody", inPlace := ["internal/bytealg.IndexByteString", "internal/bytealg.IndexString"], unfollowed := true, recurses := true, named := ["internal/bytealg.MaxLen"], apart := false, narrowed := true }
def DocumentClaimBodyUptoSaid : Prop := documentClaimBodyUptoRow.holds Try.pinned (OpenSpec.upto documentClaimBodySpec)

/-- 'pensionlaw31.DocumentMoneyBodies', WHERE WHAT IT READS IS OF BULK AT MOST 1048576: true; the input reads as it did. -/
def documentMoneyBodiesUptoRow : OpenClaim := { program := "ytkkjiihdmpngbaa", sum := "2306663a825fabc4daafef5083bbe99ea27d5c8e465c690cdacd3d36d753f110", func := "pension/pensionlaw31.DocumentMoneyBodies", spec := "documentMoneyBodies", inPlace := ["internal/bytealg.IndexByteString", "internal/bytealg.IndexString"], unfollowed := true, recurses := true, named := ["internal/bytealg.MaxLen"], apart := false, narrowed := true }
def DocumentMoneyBodiesUptoSaid : Prop := documentMoneyBodiesUptoRow.holds Try.pinned (OpenSpec.upto documentMoneyBodiesSpec)

/-- 'pensionlaw31.DocumentMoneyRoundTrip', WHERE WHAT IT READS IS OF BULK AT MOST 1048576: true; the input reads as it did. -/
def documentMoneyRoundTripUptoRow : OpenClaim := { program := "ytkkjiihdmpngbaa", sum := "2306663a825fabc4daafef5083bbe99ea27d5c8e465c690cdacd3d36d753f110", func := "pension/pensionlaw31.DocumentMoneyRoundTrip", spec := "documentMoneyRoundTrip", inPlace := ["internal/bytealg.IndexByteString", "internal/bytealg.IndexString"], unfollowed := true, recurses := true, named := ["internal/bytealg.MaxLen"], apart := false, narrowed := true }
def DocumentMoneyRoundTripUptoSaid : Prop := documentMoneyRoundTripUptoRow.holds Try.pinned (OpenSpec.upto documentMoneyRoundTripSpec)

/-- 'pensionlaw31.DocumentFactBody', WHERE WHAT IT READS IS OF BULK AT MOST 1048576: true; the input reads as it did. -/
def documentFactBodyUptoRow : OpenClaim := { program := "ytkkjiihdmpngbaa", sum := "2306663a825fabc4daafef5083bbe99ea27d5c8e465c690cdacd3d36d753f110", func := "pension/pensionlaw31.DocumentFactBody", spec := "documentFactBody", inPlace := ["internal/bytealg.IndexByteString", "internal/bytealg.IndexString"], unfollowed := true, recurses := true, named := ["internal/bytealg.MaxLen"], apart := false, narrowed := true }
def DocumentFactBodyUptoSaid : Prop := documentFactBodyUptoRow.holds Try.pinned (OpenSpec.upto documentFactBodySpec)

end Rows
end Go.Proofs.Ytkkjiihdmpngbaa
