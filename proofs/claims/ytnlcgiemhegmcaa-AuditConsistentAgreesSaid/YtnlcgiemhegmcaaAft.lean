/-
  A region that draws its order, whose operations read old memory and whose callees may make new memory: one walk in the order of the text serves every order. The class of worlds is 'what stood at the beginning of the region is as it was'.
-/
import Derived.Test.YtnlcgiemhegmcaaRows
import Derived.WalkKit
import Derived.WalkSpells
import Derived.WalkLawsBesides
import Derived.BigQuiet
import Derived.BigGuardPart
import Derived.Deep.QuietTactic
import Derived.Deep.Light
import Derived.Lib.Hide
namespace Go.Proofs.Ytnlcgiemhegmcaa
open Go.RowKit

/-- A world in which all that stood in w is as it was. -/
structure After (w : World) where
  x : World
  h : Below w.heap.size w x

section
variable {P : Program} {w : World}

instance : Nonempty (After w) := ⟨⟨w, Below.refl _ _⟩⟩

theorem After.cell (y : After w) (b o : Nat) (h : b < w.heap.size) : y.x.cell? ⟨b, o, none⟩ = w.cell? ⟨b, o, none⟩ := y.h.cell (p := ⟨b, o, none⟩) h
theorem After.frozen (y : After w) (b o : Nat) (h : b < w.heap.size) : y.x.frozen? ⟨b, o, none⟩ = w.frozen? ⟨b, o, none⟩ := y.h.frozen (p := ⟨b, o, none⟩) h
attribute [go_sem] After.cell After.frozen

theorem wp_region_after {id : Nat} {Q : Exit → Act → World → Prop} {a : Act} {l : List Oper} (hm : P.follows .mixedOrders = true) (hB : Region.lexB .any l.toArray = true)
    (h : wpQuiet P l.toArray (fun w' => ∃ y : After w, w' = y.x) (fun a' => ∀ w', (∃ y : After w, w' = y.x) → Q .normal a' w') l a) : (Code.region id l.toArray true).wp P Q a w :=
  wp_region_quiet (C := fun w' => ∃ y : After w, w' = y.x) hm hB ⟨⟨_, (Below.refl _ _).drew⟩, rfl⟩ (by simpa using h)

theorem aft_same {f : FuncId} {args : Array Value} {y : After w} {v : Value}
    (h : Calls P f args y.x fun e w' => e = .returned v ∧ y.x = w') : Calls P f args y.x fun e w'' => e = .returned v ∧ ∃ z : After w, w'' = z.x :=
  h.mono fun _ _ ⟨he, hm⟩ => ⟨he, y, hm.symm⟩
theorem aft_below {f : FuncId} {args : Array Value} {y : After w} {v : Value}
    (h : Calls P f args y.x fun e w' => e = .returned v ∧ Below y.x.heap.size y.x w') : Calls P f args y.x fun e w'' => e = .returned v ∧ ∃ z : After w, w'' = z.x :=
  h.mono fun _ _ ⟨he, hm⟩ => ⟨he, ⟨_, y.h.trans (hm.mono y.h.size)⟩, rfl⟩
end

theorem ret_bool {a b : Bool} (h : a = b) : Ending.returned (.bool a) = .returned (.bool b) := by rw [h]
theorem ret_int {k : IntKind} {a b : Int} (h : a = b) : Ending.returned (.int k a) = .returned (.int k b) := by rw [h]
theorem ret_str {a b : ByteArray} (h : a = b) : Ending.returned (.string a) = .returned (.string b) := by rw [h]
end Go.Proofs.Ytnlcgiemhegmcaa
