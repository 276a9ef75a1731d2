/-
  Facts on the program that every row's frame uses, and how a struct of plain numbers that came in is opened.
-/
import Derived.Test.YtplmpipenljonaaAft
import Derived.ProofKit
import Derived.OpenShut
import Derived.ShutString
import Derived.ChangeOld
import Derived.Deep.Fields
namespace Go.Proofs.Ytplmpipenljonaa
open Go.ChangeShapes Go.WideShapes Go.ChangeAt Go.RowKit Go.Deep

theorem own_knob : ownKnob Try.prog.godebug = none := by kernel_rfl
theorem laid_out : laidOutB Try.prog = true := by kernel_rfl

end Go.Proofs.Ytplmpipenljonaa
