/-
  Contracts of the small functions of the fact chapter: Uses (both), within, field, validSpan. No conditions but that numbers are of type int.
-/
import Derived.Test.YtkkjiihdmpngbaaAft
namespace Go.Proofs.Ytkkjiihdmpngbaa
open Go.RowKit

/-- The letters of the fields that a kind uses. -/
def usesL (k : Int) : List UInt8 :=
  if k = 1 then [83, 80, 84, 72, 67, 65] else if k = 2 then [83, 80, 72, 67, 65] else if k = 3 then [83, 80, 72, 67, 65]
  else if k = 4 then [83, 80, 84] else if k = 5 then [83, 80] else if k = 6 then [83, 80, 67, 65] else if k = 7 then [83, 80]
  else if k = 8 then [83, 80] else if k = 9 then [83, 80] else if k = 10 then [83, 80, 82] else if k = 11 then [80]
  else if k = 12 then [80] else if k = 13 then [80] else if k = 14 then [80, 82] else []
def usesS (k : Int) : ByteArray := ⟨(usesL k).toArray⟩

theorem uses_else (k : Int) (h : k < 1 ∨ 14 < k) : usesL k = [] := by
  unfold usesL
  repeat (rw [if_neg (by omega)])

set_option maxHeartbeats 400000 in
theorem uses_any (k : Int) (w : World) :
    Calls Try.prog 79 #[.int .i64 k] w fun e w' => e = .returned (.string (usesS k)) ∧ w = w' := by
  by_cases h : 1 ≤ k ∧ k ≤ 14
  · have hk : k = 1 ∨ k = 2 ∨ k = 3 ∨ k = 4 ∨ k = 5 ∨ k = 6 ∨ k = 7 ∨ k = 8 ∨ k = 9 ∨ k = 10 ∨ k = 11 ∨ k = 12 ∨ k = 13 ∨ k = 14 := by omega
    clear h
    rcases hk with rfl | rfl | rfl | rfl | rfl | rfl | rfl | rfl | rfl | rfl | rfl | rfl | rfl | rfl
    all_goals
      go_enter Try.func79, Try.ntmps79
      go_wp2
      go_ret
      exact ⟨rfl, rfl⟩
  · have h' : usesL k = [] := uses_else k (by omega)
    have H : Hid (usesL k = []) := h'
    clear h'
    have h1 : (k == 1) = false := beq_eq_false_iff_ne.2 (by omega)
    have h2 : (k == 2) = false := beq_eq_false_iff_ne.2 (by omega)
    have h3 : (k == 3) = false := beq_eq_false_iff_ne.2 (by omega)
    have h4 : (k == 4) = false := beq_eq_false_iff_ne.2 (by omega)
    have h5 : (k == 5) = false := beq_eq_false_iff_ne.2 (by omega)
    have h6 : (k == 6) = false := beq_eq_false_iff_ne.2 (by omega)
    have h7 : (k == 7) = false := beq_eq_false_iff_ne.2 (by omega)
    have h8 : (k == 8) = false := beq_eq_false_iff_ne.2 (by omega)
    have h9 : (k == 9) = false := beq_eq_false_iff_ne.2 (by omega)
    have h10 : (k == 10) = false := beq_eq_false_iff_ne.2 (by omega)
    have h11 : (k == 11) = false := beq_eq_false_iff_ne.2 (by omega)
    have h12 : (k == 12) = false := beq_eq_false_iff_ne.2 (by omega)
    have h13 : (k == 13) = false := beq_eq_false_iff_ne.2 (by omega)
    have h14 : (k == 14) = false := beq_eq_false_iff_ne.2 (by omega)
    clear h
    go_enter Try.func79, Try.ntmps79
    go_wp2
    go_ret
    exact ⟨by simp [usesS, H.out], rfl⟩

end Go.Proofs.Ytkkjiihdmpngbaa
