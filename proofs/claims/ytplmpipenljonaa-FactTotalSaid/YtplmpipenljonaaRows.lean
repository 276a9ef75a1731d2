/-
  No cell of these rows narrows 'for every input' (looked for: loops, veiled, ifaces, maps, wideKeys, modest, calm, conditions, laid).
  DERIVED. THE GIVEN ROWS OF THIS SEAT. 7 by the template 'for every input the law returns true; each argument reads behind the call as it read before'; 0 by the template 'total and deterministic' (their statements: YtplmpipenljonaaTotals.lean).
  GIVEN WITH THE SEED: the statements are not yours to turn. If you find one false, say at which input.
  Laid BY PROGRAM, IN A SANDBOX (cutbox-rows.mjs): the forced cells as the released guide's own fill.sh prints them over the translation 34f52041a7d1edc0… (all of the seat's roots in one cut). By AI agents, Wed Nov 11 2026. No macro, syntax, notation, axiom, sorry.
-/
import Derived.Test.YtplmpipenljonaaChecked
import GoSem.Claim
import GoSem.ClaimJoined
import GoSem.ClaimMapViews
import Derived.JoinedTies
import Derived.KernelRfl
namespace Go.Proofs.Ytplmpipenljonaa
/- THE CELL 'sum', in the pinned program and in every row, IS THE sha256 OF THE DUMP (.gsa) THAT YtplmpipenljonaaProg.lean LOADS. Nothing in Lean hashes anything: it is a label: what it is worth is what the hold of that sum in a sandbox is worth. -/
noncomputable def Try.pinned : Pinned := { name := "ytplmpipenljonaa", sum := "34f52041a7d1edc032883b927a9927d15f6f7bd1286069e852369a7f6df04175", checked := Try.checked }
namespace Rows
def none {H : Type} : Left H := { results := [], args := [] }

/-- 'pensionlaw12.FactKinds': WHATEVER THE INPUT: true; the input reads as it did. -/
def factKindsSpec : ChangeSpec := { name := "factKinds", fn := fun _ => fun
  | [d1, d2] => { results := [.lit (.bool true)], args := [d1, d2] }
  | _ => none }
def factKindsRow : OpenClaim := { program := "ytplmpipenljonaa", sum := "34f52041a7d1edc032883b927a9927d15f6f7bd1286069e852369a7f6df04175", func := "pension/pensionlaw12.FactKinds", spec := "factKinds", inPlace := ["internal/bytealg.IndexByteString", "internal/bytealg.IndexString"], unfollowed := true, recurses := true, named := ["internal/bytealg.MaxLen"], apart := false }
def FactKindsSaid : Prop := factKindsRow.holds Try.pinned (OpenSpec.ofChange factKindsSpec)

/-- ITS FALSE NEIGHBOUR: 'it returns false'. Refute it at one input. -/
def factKindsWrong : ChangeSpec := { name := "factKinds", fn := fun _ => fun
  | [d1, d2] => { results := [.lit (.bool false)], args := [d1, d2] }
  | _ => none }
def FactKindsWrongFalsely : Prop := factKindsRow.holds Try.pinned (OpenSpec.ofChange factKindsWrong)

/-- 'pensionlaw12.FactValid': WHATEVER THE INPUT: true; the input reads as it did. -/
def factValidSpec : ChangeSpec := { name := "factValid", fn := fun _ => fun
  | [d1, d2, d3, d4] => { results := [.lit (.bool true)], args := [d1, d2, d3, d4] }
  | _ => none }
def factValidRow : OpenClaim := { program := "ytplmpipenljonaa", sum := "34f52041a7d1edc032883b927a9927d15f6f7bd1286069e852369a7f6df04175", func := "pension/pensionlaw12.FactValid", spec := "factValid", inPlace := ["internal/bytealg.IndexByteString", "internal/bytealg.IndexString"], unfollowed := true, recurses := true, named := ["internal/bytealg.MaxLen"], apart := false }
def FactValidSaid : Prop := factValidRow.holds Try.pinned (OpenSpec.ofChange factValidSpec)

/-- ITS FALSE NEIGHBOUR: 'it returns false'. Refute it at one input. -/
def factValidWrong : ChangeSpec := { name := "factValid", fn := fun _ => fun
  | [d1, d2, d3, d4] => { results := [.lit (.bool false)], args := [d1, d2, d3, d4] }
  | _ => none }
def FactValidWrongFalsely : Prop := factValidRow.holds Try.pinned (OpenSpec.ofChange factValidWrong)

/-- 'pensionlaw12.FactBytes': WHATEVER THE INPUT: true; the input reads as it did. -/
def factBytesSpec : ChangeSpec := { name := "factBytes", fn := fun _ => fun
  | [d1, d2, d3] => { results := [.lit (.bool true)], args := [d1, d2, d3] }
  | _ => none }
def factBytesRow : OpenClaim := { program := "ytplmpipenljonaa", sum := "34f52041a7d1edc032883b927a9927d15f6f7bd1286069e852369a7f6df04175", func := "pension/pensionlaw12.FactBytes", spec := "factBytes", inPlace := ["internal/bytealg.IndexByteString", "internal/bytealg.IndexString"], unfollowed := true, recurses := true, named := ["internal/bytealg.MaxLen"], apart := false }
def FactBytesSaid : Prop := factBytesRow.holds Try.pinned (OpenSpec.ofChange factBytesSpec)

/-- ITS FALSE NEIGHBOUR: 'it returns false'. Refute it at one input. -/
def factBytesWrong : ChangeSpec := { name := "factBytes", fn := fun _ => fun
  | [d1, d2, d3] => { results := [.lit (.bool false)], args := [d1, d2, d3] }
  | _ => none }
def FactBytesWrongFalsely : Prop := factBytesRow.holds Try.pinned (OpenSpec.ofChange factBytesWrong)

/-- 'pensionlaw12.FactOrder': WHATEVER THE INPUT: true; the input reads as it did. -/
def factOrderSpec : ChangeSpec := { name := "factOrder", fn := fun _ => fun
  | [d1, d2, d3, d4, d5] => { results := [.lit (.bool true)], args := [d1, d2, d3, d4, d5] }
  | _ => none }
def factOrderRow : OpenClaim := { program := "ytplmpipenljonaa", sum := "34f52041a7d1edc032883b927a9927d15f6f7bd1286069e852369a7f6df04175", func := "pension/pensionlaw12.FactOrder", spec := "factOrder", inPlace := ["internal/bytealg.IndexByteString", "internal/bytealg.IndexString", "internal/bytealg.Compare"], unfollowed := true, recurses := true, named := ["internal/bytealg.MaxLen"], apart := false }
def FactOrderSaid : Prop := factOrderRow.holds Try.pinned (OpenSpec.ofChange factOrderSpec)

/-- ITS FALSE NEIGHBOUR: 'it returns false'. Refute it at one input. -/
def factOrderWrong : ChangeSpec := { name := "factOrder", fn := fun _ => fun
  | [d1, d2, d3, d4, d5] => { results := [.lit (.bool false)], args := [d1, d2, d3, d4, d5] }
  | _ => none }
def FactOrderWrongFalsely : Prop := factOrderRow.holds Try.pinned (OpenSpec.ofChange factOrderWrong)

/-- 'pensionlaw12.FactTotal': WHATEVER THE INPUT: true; the input reads as it did. -/
def factTotalSpec : ChangeSpec := { name := "factTotal", fn := fun _ => fun
  | [d1, d2, d3, d4] => { results := [.lit (.bool true)], args := [d1, d2, d3, d4] }
  | _ => none }
def factTotalRow : OpenClaim := { program := "ytplmpipenljonaa", sum := "34f52041a7d1edc032883b927a9927d15f6f7bd1286069e852369a7f6df04175", func := "pension/pensionlaw12.FactTotal", spec := "factTotal", inPlace := ["internal/bytealg.IndexByteString", "internal/bytealg.IndexString", "internal/bytealg.Compare"], unfollowed := true, recurses := true, named := ["internal/bytealg.MaxLen"], apart := false }
def FactTotalSaid : Prop := factTotalRow.holds Try.pinned (OpenSpec.ofChange factTotalSpec)

/-- ITS FALSE NEIGHBOUR: 'it returns false'. Refute it at one input. -/
def factTotalWrong : ChangeSpec := { name := "factTotal", fn := fun _ => fun
  | [d1, d2, d3, d4] => { results := [.lit (.bool false)], args := [d1, d2, d3, d4] }
  | _ => none }
def FactTotalWrongFalsely : Prop := factTotalRow.holds Try.pinned (OpenSpec.ofChange factTotalWrong)

/-- 'pensionlaw12.FactReads': WHATEVER THE INPUT: true; the input reads as it did. -/
def factReadsSpec : ChangeSpec := { name := "factReads", fn := fun _ => fun
  | [d1, d2, d3, d4, d5] => { results := [.lit (.bool true)], args := [d1, d2, d3, d4, d5] }
  | _ => none }
def factReadsRow : OpenClaim := { program := "ytplmpipenljonaa", sum := "34f52041a7d1edc032883b927a9927d15f6f7bd1286069e852369a7f6df04175", func := "pension/pensionlaw12.FactReads", spec := "factReads", inPlace := ["internal/bytealg.IndexByteString", "internal/bytealg.IndexString"], unfollowed := true, recurses := true, named := ["internal/bytealg.MaxLen"], apart := false }
def FactReadsSaid : Prop := factReadsRow.holds Try.pinned (OpenSpec.ofChange factReadsSpec)

/-- ITS FALSE NEIGHBOUR: 'it returns false'. Refute it at one input. -/
def factReadsWrong : ChangeSpec := { name := "factReads", fn := fun _ => fun
  | [d1, d2, d3, d4, d5] => { results := [.lit (.bool false)], args := [d1, d2, d3, d4, d5] }
  | _ => none }
def FactReadsWrongFalsely : Prop := factReadsRow.holds Try.pinned (OpenSpec.ofChange factReadsWrong)

/-- 'pensionlaw12.FactBack': WHATEVER THE INPUT: true; the input reads as it did. -/
def factBackSpec : ChangeSpec := { name := "factBack", fn := fun _ => fun
  | [d1, d2, d3] => { results := [.lit (.bool true)], args := [d1, d2, d3] }
  | _ => none }
def factBackRow : OpenClaim := { program := "ytplmpipenljonaa", sum := "34f52041a7d1edc032883b927a9927d15f6f7bd1286069e852369a7f6df04175", func := "pension/pensionlaw12.FactBack", spec := "factBack", inPlace := ["internal/bytealg.IndexByteString", "internal/bytealg.IndexString"], unfollowed := true, recurses := true, named := ["internal/bytealg.MaxLen"], apart := false }
def FactBackSaid : Prop := factBackRow.holds Try.pinned (OpenSpec.ofChange factBackSpec)

/-- ITS FALSE NEIGHBOUR: 'it returns false'. Refute it at one input. -/
def factBackWrong : ChangeSpec := { name := "factBack", fn := fun _ => fun
  | [d1, d2, d3] => { results := [.lit (.bool false)], args := [d1, d2, d3] }
  | _ => none }
def FactBackWrongFalsely : Prop := factBackRow.holds Try.pinned (OpenSpec.ofChange factBackWrong)

/- THE SECOND FORM. 'bulk': how many values and letters a reading holds, each counted each time it is reached (what is shared counts as often as it is met; a slice's spare places count too). A statement '..UptoSaid' is the law's where the arguments, and the package variables that the reading takes, are together of bulk at most 1048576: NARROWER than '..Said'. Prove '..Said' where nothing that the law and all that it calls make is longer than what came in: it says more and counts as full. Else prove '..UptoSaid'. A law counts once. -/
mutual
def uptoBulk {H : Type} : DataW H → Nat
  | .lit (.string bytes) => bytes.length + 1
  | .lit _ => 1
  | .nil => 1
  | .ptr d => uptoBulk d + 1
  | .slice elems spare => uptoBulkAll elems + uptoBulkAll spare + 1
  | .agg parts => uptoBulkAll parts + 1
  | .iface _ d => uptoBulk d + 1
  | .map entries => uptoBulkEntries entries + 1
  | .held _ => 1
def uptoBulkAll {H : Type} : List (DataW H) → Nat
  | [] => 0
  | d :: r => uptoBulk d + uptoBulkAll r
def uptoBulkEntries {H : Type} : List (Lit × DataW H) → Nat
  | [] => 0
  | x :: r => uptoBulkEntry x + uptoBulkEntries r
def uptoBulkEntry {H : Type} : Lit × DataW H → Nat
  | (.string bytes, d) => bytes.length + uptoBulk d + 1
  | (_, d) => uptoBulk d + 1
 end
def uptoSmall : (H : Type) → List (DataW H) → Bool := fun _ ds => decide (uptoBulkAll ds ≤ 1048576)
def OpenSpec.upto (s : _root_.Go.ChangeSpec) : _root_.Go.OpenSpec := { _root_.Go.OpenSpec.ofChange s with cond := some uptoSmall }

/-- 'pensionlaw12.FactKinds', WHERE WHAT IT READS IS OF BULK AT MOST 1048576: true; the input reads as it did. -/
def factKindsUptoRow : OpenClaim := { program := "ytplmpipenljonaa", sum := "34f52041a7d1edc032883b927a9927d15f6f7bd1286069e852369a7f6df04175", func := "pension/pensionlaw12.FactKinds", spec := "factKinds", inPlace := ["internal/bytealg.IndexByteString", "internal/bytealg.IndexString"], unfollowed := true, recurses := true, named := ["internal/bytealg.MaxLen"], apart := false, narrowed := true }
def FactKindsUptoSaid : Prop := factKindsUptoRow.holds Try.pinned (OpenSpec.upto factKindsSpec)

/-- 'pensionlaw12.FactValid', WHERE WHAT IT READS IS OF BULK AT MOST 1048576: true; the input reads as it did. -/
def factValidUptoRow : OpenClaim := { program := "ytplmpipenljonaa", sum := "34f52041a7d1edc032883b927a9927d15f6f7bd1286069e852369a7f6df04175", func := "pension/pensionlaw12.FactValid", spec := "factValid", inPlace := ["internal/bytealg.IndexByteString", "internal/bytealg.IndexString"], unfollowed := true, recurses := true, named := ["internal/bytealg.MaxLen"], apart := false, narrowed := true }
def FactValidUptoSaid : Prop := factValidUptoRow.holds Try.pinned (OpenSpec.upto factValidSpec)

/-- 'pensionlaw12.FactBytes', WHERE WHAT IT READS IS OF BULK AT MOST 1048576: true; the input reads as it did. -/
def factBytesUptoRow : OpenClaim := { program := "ytplmpipenljonaa", sum := "34f52041a7d1edc032883b927a9927d15f6f7bd1286069e852369a7f6df04175", func := "pension/pensionlaw12.FactBytes", spec := "factBytes", inPlace := ["internal/bytealg.IndexByteString", "internal/bytealg.IndexString"], unfollowed := true, recurses := true, named := ["internal/bytealg.MaxLen"], apart := false, narrowed := true }
def FactBytesUptoSaid : Prop := factBytesUptoRow.holds Try.pinned (OpenSpec.upto factBytesSpec)

/-- 'pensionlaw12.FactOrder', WHERE WHAT IT READS IS OF BULK AT MOST 1048576: true; the input reads as it did. -/
def factOrderUptoRow : OpenClaim := { program := "ytplmpipenljonaa", sum := "34f52041a7d1edc032883b927a9927d15f6f7bd1286069e852369a7f6df04175", func := "pension/pensionlaw12.FactOrder", spec := "factOrder", inPlace := ["internal/bytealg.IndexByteString", "internal/bytealg.IndexString", "internal/bytealg.Compare"], unfollowed := true, recurses := true, named := ["internal/bytealg.MaxLen"], apart := false, narrowed := true }
def FactOrderUptoSaid : Prop := factOrderUptoRow.holds Try.pinned (OpenSpec.upto factOrderSpec)

/-- 'pensionlaw12.FactTotal', WHERE WHAT IT READS IS OF BULK AT MOST 1048576: true; the input reads as it did. -/
def factTotalUptoRow : OpenClaim := { program := "ytplmpipenljonaa", sum := "34f52041a7d1edc032883b927a9927d15f6f7bd1286069e852369a7f6df04175", func := "pension/pensionlaw12.FactTotal", spec := "factTotal", inPlace := ["internal/bytealg.IndexByteString", "internal/bytealg.IndexString", "internal/bytealg.Compare"], unfollowed := true, recurses := true, named := ["internal/bytealg.MaxLen"], apart := false, narrowed := true }
def FactTotalUptoSaid : Prop := factTotalUptoRow.holds Try.pinned (OpenSpec.upto factTotalSpec)

/-- 'pensionlaw12.FactReads', WHERE WHAT IT READS IS OF BULK AT MOST 1048576: true; the input reads as it did. -/
def factReadsUptoRow : OpenClaim := { program := "ytplmpipenljonaa", sum := "34f52041a7d1edc032883b927a9927d15f6f7bd1286069e852369a7f6df04175", func := "pension/pensionlaw12.FactReads", spec := "factReads", inPlace := ["internal/bytealg.IndexByteString", "internal/bytealg.IndexString"], unfollowed := true, recurses := true, named := ["internal/bytealg.MaxLen"], apart := false, narrowed := true }
def FactReadsUptoSaid : Prop := factReadsUptoRow.holds Try.pinned (OpenSpec.upto factReadsSpec)

/-- 'pensionlaw12.FactBack', WHERE WHAT IT READS IS OF BULK AT MOST 1048576: true; the input reads as it did. -/
def factBackUptoRow : OpenClaim := { program := "ytplmpipenljonaa", sum := "34f52041a7d1edc032883b927a9927d15f6f7bd1286069e852369a7f6df04175", func := "pension/pensionlaw12.FactBack", spec := "factBack", inPlace := ["internal/bytealg.IndexByteString", "internal/bytealg.IndexString"], unfollowed := true, recurses := true, named := ["internal/bytealg.MaxLen"], apart := false, narrowed := true }
def FactBackUptoSaid : Prop := factBackUptoRow.holds Try.pinned (OpenSpec.upto factBackSpec)

end Rows
end Go.Proofs.Ytplmpipenljonaa
