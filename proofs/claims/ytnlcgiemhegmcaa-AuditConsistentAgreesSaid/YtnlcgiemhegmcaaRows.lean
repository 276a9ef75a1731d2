/-
  No cell of these rows narrows 'for every input' (looked for: loops, veiled, ifaces, maps, wideKeys, modest, calm, conditions, laid).
  DERIVED. THE GIVEN ROWS OF THIS SEAT. 4 by the template 'for every input the law returns true; each argument reads behind the call as it read before'; 0 by the template 'total and deterministic' (their statements: YtnlcgiemhegmcaaTotals.lean).
  GIVEN WITH THE SEED: the statements are not yours to turn. If you find one false, say at which input.
  Laid BY PROGRAM, IN A SANDBOX (cutbox-rows.mjs): the forced cells as the released guide's own fill.sh prints them over the translation b819169ca6482f87… (all of the seat's roots in one cut). By AI agents, Wed Nov 11 2026. No macro, syntax, notation, axiom, sorry.
-/
import Derived.Test.YtnlcgiemhegmcaaChecked
import GoSem.Claim
import GoSem.ClaimJoined
import GoSem.ClaimMapViews
import Derived.JoinedTies
import Derived.KernelRfl
namespace Go.Proofs.Ytnlcgiemhegmcaa
/- THE CELL 'sum', in the pinned program and in every row, IS THE sha256 OF THE DUMP (.gsa) THAT YtnlcgiemhegmcaaProg.lean LOADS. Nothing in Lean hashes anything: it is a label: what it is worth is what the hold of that sum in a sandbox is worth. -/
noncomputable def Try.pinned : Pinned := { name := "ytnlcgiemhegmcaa", sum := "b819169ca6482f879f28ae25675c189a2aece641cfcbeaf34c8935cb0fb388db", checked := Try.checked }
namespace Rows
def none {H : Type} : Left H := { results := [], args := [] }

/-- 'pensionlaw38.AuditUnsoundAgrees': WHATEVER THE INPUT: true; the input reads as it did. -/
def auditUnsoundAgreesSpec : ChangeSpec := { name := "auditUnsoundAgrees", fn := fun _ => fun
  | [d1, d2] => { results := [.lit (.bool true)], args := [d1, d2] }
  | _ => none }
def auditUnsoundAgreesRow : OpenClaim := { program := "ytnlcgiemhegmcaa", sum := "b819169ca6482f879f28ae25675c189a2aece641cfcbeaf34c8935cb0fb388db", func := "pension/pensionlaw38.AuditUnsoundAgrees", spec := "auditUnsoundAgrees", plainKeys := false, apart := false }
def AuditUnsoundAgreesSaid : Prop := auditUnsoundAgreesRow.holds Try.pinned (OpenSpec.ofChange auditUnsoundAgreesSpec)

/-- ITS FALSE NEIGHBOUR: 'it returns false'. Refute it at one input. -/
def auditUnsoundAgreesWrong : ChangeSpec := { name := "auditUnsoundAgrees", fn := fun _ => fun
  | [d1, d2] => { results := [.lit (.bool false)], args := [d1, d2] }
  | _ => none }
def AuditUnsoundAgreesWrongFalsely : Prop := auditUnsoundAgreesRow.holds Try.pinned (OpenSpec.ofChange auditUnsoundAgreesWrong)

/-- 'pensionlaw38.AuditSoundEntries': WHATEVER THE INPUT: true; the input reads as it did. -/
def auditSoundEntriesSpec : ChangeSpec := { name := "auditSoundEntries", fn := fun _ => fun
  | [d1, d2, d3, d4, d5, d6] => { results := [.lit (.bool true)], args := [d1, d2, d3, d4, d5, d6] }
  | _ => none }
def auditSoundEntriesRow : OpenClaim := { program := "ytnlcgiemhegmcaa", sum := "b819169ca6482f879f28ae25675c189a2aece641cfcbeaf34c8935cb0fb388db", func := "pension/pensionlaw38.AuditSoundEntries", spec := "auditSoundEntries", plainKeys := false, apart := false }
def AuditSoundEntriesSaid : Prop := auditSoundEntriesRow.holds Try.pinned (OpenSpec.ofChange auditSoundEntriesSpec)

/-- ITS FALSE NEIGHBOUR: 'it returns false'. Refute it at one input. -/
def auditSoundEntriesWrong : ChangeSpec := { name := "auditSoundEntries", fn := fun _ => fun
  | [d1, d2, d3, d4, d5, d6] => { results := [.lit (.bool false)], args := [d1, d2, d3, d4, d5, d6] }
  | _ => none }
def AuditSoundEntriesWrongFalsely : Prop := auditSoundEntriesRow.holds Try.pinned (OpenSpec.ofChange auditSoundEntriesWrong)

/-- 'pensionlaw38.AuditFindsAWrongNumber': WHATEVER THE INPUT: true; the input reads as it did. -/
def auditFindsAWrongNumberSpec : ChangeSpec := { name := "auditFindsAWrongNumber", fn := fun _ => fun
  | [d1, d2, d3, d4, d5, d6] => { results := [.lit (.bool true)], args := [d1, d2, d3, d4, d5, d6] }
  | _ => none }
def auditFindsAWrongNumberRow : OpenClaim := { program := "ytnlcgiemhegmcaa", sum := "b819169ca6482f879f28ae25675c189a2aece641cfcbeaf34c8935cb0fb388db", func := "pension/pensionlaw38.AuditFindsAWrongNumber", spec := "auditFindsAWrongNumber", plainKeys := false, apart := false }
def AuditFindsAWrongNumberSaid : Prop := auditFindsAWrongNumberRow.holds Try.pinned (OpenSpec.ofChange auditFindsAWrongNumberSpec)

/-- ITS FALSE NEIGHBOUR: 'it returns false'. Refute it at one input. -/
def auditFindsAWrongNumberWrong : ChangeSpec := { name := "auditFindsAWrongNumber", fn := fun _ => fun
  | [d1, d2, d3, d4, d5, d6] => { results := [.lit (.bool false)], args := [d1, d2, d3, d4, d5, d6] }
  | _ => none }
def AuditFindsAWrongNumberWrongFalsely : Prop := auditFindsAWrongNumberRow.holds Try.pinned (OpenSpec.ofChange auditFindsAWrongNumberWrong)

/-- 'pensionlaw38.AuditConsistentAgrees': WHATEVER THE INPUT: true; the input reads as it did. -/
def auditConsistentAgreesSpec : ChangeSpec := { name := "auditConsistentAgrees", fn := fun _ => fun
  | [d1, d2] => { results := [.lit (.bool true)], args := [d1, d2] }
  | _ => none }
def auditConsistentAgreesRow : OpenClaim := { program := "ytnlcgiemhegmcaa", sum := "b819169ca6482f879f28ae25675c189a2aece641cfcbeaf34c8935cb0fb388db", func := "pension/pensionlaw38.AuditConsistentAgrees", spec := "auditConsistentAgrees", plainKeys := false, apart := false }
def AuditConsistentAgreesSaid : Prop := auditConsistentAgreesRow.holds Try.pinned (OpenSpec.ofChange auditConsistentAgreesSpec)

/-- ITS FALSE NEIGHBOUR: 'it returns false'. Refute it at one input. -/
def auditConsistentAgreesWrong : ChangeSpec := { name := "auditConsistentAgrees", fn := fun _ => fun
  | [d1, d2] => { results := [.lit (.bool false)], args := [d1, d2] }
  | _ => none }
def AuditConsistentAgreesWrongFalsely : Prop := auditConsistentAgreesRow.holds Try.pinned (OpenSpec.ofChange auditConsistentAgreesWrong)

/- THE SECOND FORM. 'bulk': how many values and letters a reading holds, each counted each time it is reached (what is shared counts as often as it is met; a slice's spare places count too). A statement '..UptoSaid' is the law's where the arguments, and the package variables that the reading takes, are together of bulk at most 1048576: NARROWER than '..Said'. Prove '..Said' where nothing that the law and all that it calls make is longer than what came in: it says more and counts as full. Else prove '..UptoSaid'. A law counts once. -/
mutual
def uptoBulk {H : Type} : DataW H → Nat
  | .lit (.string bytes) => bytes.length + 1
  | .lit _ => 1
  | .nil => 1
  | .ptr d => uptoBulk d + 1
  | .slice elems spare => uptoBulkAll elems + uptoBulkAll spare + 1
  | .agg parts => uptoBulkAll parts + 1
  | .iface _ d => uptoBulk d + 1
  | .map entries => uptoBulkEntries entries + 1
  | .held _ => 1
def uptoBulkAll {H : Type} : List (DataW H) → Nat
  | [] => 0
  | d :: r => uptoBulk d + uptoBulkAll r
def uptoBulkEntries {H : Type} : List (Lit × DataW H) → Nat
  | [] => 0
  | x :: r => uptoBulkEntry x + uptoBulkEntries r
def uptoBulkEntry {H : Type} : Lit × DataW H → Nat
  | (.string bytes, d) => bytes.length + uptoBulk d + 1
  | (_, d) => uptoBulk d + 1
 end
def uptoSmall : (H : Type) → List (DataW H) → Bool := fun _ ds => decide (uptoBulkAll ds ≤ 1048576)
def OpenSpec.upto (s : _root_.Go.ChangeSpec) : _root_.Go.OpenSpec := { _root_.Go.OpenSpec.ofChange s with cond := some uptoSmall }

/-- 'pensionlaw38.AuditUnsoundAgrees', WHERE WHAT IT READS IS OF BULK AT MOST 1048576: true; the input reads as it did. -/
def auditUnsoundAgreesUptoRow : OpenClaim := { program := "ytnlcgiemhegmcaa", sum := "b819169ca6482f879f28ae25675c189a2aece641cfcbeaf34c8935cb0fb388db", func := "pension/pensionlaw38.AuditUnsoundAgrees", spec := "auditUnsoundAgrees", plainKeys := false, apart := false, narrowed := true }
def AuditUnsoundAgreesUptoSaid : Prop := auditUnsoundAgreesUptoRow.holds Try.pinned (OpenSpec.upto auditUnsoundAgreesSpec)

/-- 'pensionlaw38.AuditSoundEntries', WHERE WHAT IT READS IS OF BULK AT MOST 1048576: true; the input reads as it did. -/
def auditSoundEntriesUptoRow : OpenClaim := { program := "ytnlcgiemhegmcaa", sum := "b819169ca6482f879f28ae25675c189a2aece641cfcbeaf34c8935cb0fb388db", func := "pension/pensionlaw38.AuditSoundEntries", spec := "auditSoundEntries", plainKeys := false, apart := false, narrowed := true }
def AuditSoundEntriesUptoSaid : Prop := auditSoundEntriesUptoRow.holds Try.pinned (OpenSpec.upto auditSoundEntriesSpec)

/-- 'pensionlaw38.AuditFindsAWrongNumber', WHERE WHAT IT READS IS OF BULK AT MOST 1048576: true; the input reads as it did. -/
def auditFindsAWrongNumberUptoRow : OpenClaim := { program := "ytnlcgiemhegmcaa", sum := "b819169ca6482f879f28ae25675c189a2aece641cfcbeaf34c8935cb0fb388db", func := "pension/pensionlaw38.AuditFindsAWrongNumber", spec := "auditFindsAWrongNumber", plainKeys := false, apart := false, narrowed := true }
def AuditFindsAWrongNumberUptoSaid : Prop := auditFindsAWrongNumberUptoRow.holds Try.pinned (OpenSpec.upto auditFindsAWrongNumberSpec)

/-- 'pensionlaw38.AuditConsistentAgrees', WHERE WHAT IT READS IS OF BULK AT MOST 1048576: true; the input reads as it did. -/
def auditConsistentAgreesUptoRow : OpenClaim := { program := "ytnlcgiemhegmcaa", sum := "b819169ca6482f879f28ae25675c189a2aece641cfcbeaf34c8935cb0fb388db", func := "pension/pensionlaw38.AuditConsistentAgrees", spec := "auditConsistentAgrees", plainKeys := false, apart := false, narrowed := true }
def AuditConsistentAgreesUptoSaid : Prop := auditConsistentAgreesUptoRow.holds Try.pinned (OpenSpec.upto auditConsistentAgreesSpec)

end Rows
end Go.Proofs.Ytnlcgiemhegmcaa
