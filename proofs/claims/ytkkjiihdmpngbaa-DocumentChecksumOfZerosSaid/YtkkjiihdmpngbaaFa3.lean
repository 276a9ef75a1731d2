/-
  Contracts: strings.Contains at a string of one byte, and the closure of fact.Valid that calls it.
-/
import Derived.Test.YtkkjiihdmpngbaaFa2
import Derived.Lib.Bytealg
namespace Go.Proofs.Ytkkjiihdmpngbaa
open Go.RowKit

theorem idxb (s : ByteArray) (c : Int) (w : World) : (callFunc 96 #[.string s, .int .u8 c]).run Try.prog w = .ok (.value (.int .i64 (Lib.indexByte s.data.toList c.toNat.toUInt8))) w := by
  rw [run_callFunc_extern Try.func96 (by kernel_rfl) (by kernel_rfl) (by kernel_rfl) (e := Extern.BytealgIndexByte.indexByte) (by kernel_rfl), Lib.run_indexByteString]
  rfl

/-- the byte c occurs in l -/
def hasB (l : List UInt8) (c : UInt8) : Bool := decide (0 ≤ Lib.indexByte l c)

theorem hasB_single (c : UInt8) : hasB [c] c = true := by simp [hasB, Lib.indexByte]

set_option maxHeartbeats 400000 in
theorem contains_any (s : ByteArray) (c : UInt8) (w : World) :
    Calls Try.prog 85 #[.string s, .string ⟨#[c]⟩] w fun e w' => e = .returned (.bool (hasB s.data.toList c)) ∧ w = w' := by
  by_cases h : ([c] == s.toList) = true
  · have H : Hid (hasB s.data.toList c = true) := by
      have h2 := beq_iff_eq.1 h
      rw [ByteArray.toList_eq] at h2
      rw [← h2]
      exact hasB_single c
    go_enter Try.func85, Try.ntmps85
    go_wp2
    go_ret
    exact ⟨ret_bool H.out.symm, rfl⟩
  · have h' : ([c] == s.toList) = false := by simpa using h
    clear h
    have hx : ∀ w : World, (callFunc 96 #[.string s, .int .u8 (((⟨#[c]⟩ : ByteArray)[0]'Nat.one_pos).toNat : Int)]).run Try.prog w = .ok (.value (.int .i64 (Lib.indexByte s.data.toList c))) w := by
      intro w
      have h1 := idxb s c.toNat w
      have hc : (c.toNat : Int).toNat.toUInt8 = c := by simp
      rw [hc] at h1
      exact h1
    have H : Hid (hasB s.data.toList c = decide (0 ≤ Lib.indexByte s.data.toList c)) := rfl
    generalize Lib.indexByte s.data.toList c = r at *
    go_enter Try.func85, Try.ntmps85
    go_wp2
    go_ret
    exact ⟨ret_bool H.out.symm, rfl⟩

end Go.Proofs.Ytkkjiihdmpngbaa
