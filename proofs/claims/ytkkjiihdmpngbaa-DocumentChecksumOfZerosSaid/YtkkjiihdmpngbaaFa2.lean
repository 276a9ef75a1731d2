/-
  Contracts of the small functions of the fact chapter: the reference's Uses and uses, within, field, validSpan.
-/
import Derived.Test.YtkkjiihdmpngbaaFa1
import Derived.Lib.Hide
namespace Go.Proofs.Ytkkjiihdmpngbaa
open Go.RowKit

set_option maxHeartbeats 4000000 in
theorem ruses_any (k : Int) (w : World) :
    Calls Try.prog 71 #[.int .i64 k] w fun e w' => e = .returned (.string (usesS k)) ∧ Below w.heap.size w w' := by
  by_cases h : 1 ≤ k ∧ k ≤ 14
  · have hk : k = 1 ∨ k = 2 ∨ k = 3 ∨ k = 4 ∨ k = 5 ∨ k = 6 ∨ k = 7 ∨ k = 8 ∨ k = 9 ∨ k = 10 ∨ k = 11 ∨ k = 12 ∨ k = 13 ∨ k = 14 := by omega
    clear h
    rcases hk with rfl | rfl | rfl | rfl | rfl | rfl | rfl | rfl | rfl | rfl | rfl | rfl | rfl | rfl
    all_goals
      go_enter Try.func71, Try.ntmps71
      go_wp2
      go_ret
      exact ⟨rfl, (Below.refl _ _).alloc (Nat.le_refl _) _⟩
  · have H : Hid (usesL k = []) := uses_else k (by omega)
    by_cases h1 : k < 1
    · clear h
      go_enter Try.func71, Try.ntmps71
      go_wp2
      go_ret
      exact ⟨by simp [usesS, H.out], (Below.refl _ _).alloc (Nat.le_refl _) _⟩
    · have h2 : 15 ≤ k := by omega
      clear h
      go_enter Try.func71, Try.ntmps71
      go_wp2
      go_ret
      exact ⟨by simp [usesS, H.out], (Below.refl _ _).alloc (Nat.le_refl _) _⟩

/-- lo ≤ x ≤ hi -/
def btw (x lo hi : Int) : Bool := decide (lo ≤ x ∧ x ≤ hi)

set_option maxHeartbeats 400000 in
theorem within_any (x lo hi : Int) (w : World) :
    Calls Try.prog 86 #[.int .i64 x, .int .i64 lo, .int .i64 hi] w fun e w' => e = .returned (.bool (btw x lo hi)) ∧ w = w' := by
  by_cases h : lo ≤ x
  · by_cases h2 : x ≤ hi
    · have H : Hid (btw x lo hi = true) := by simp [Hid, btw, h, h2]
      go_enter Try.func86, Try.ntmps86
      go_wp2
      go_ret
      exact ⟨ret_bool H.out.symm, rfl⟩
    · have H : Hid (btw x lo hi = false) := by simp [Hid, btw, h2]
      go_enter Try.func86, Try.ntmps86
      go_wp2
      go_ret
      exact ⟨ret_bool H.out.symm, rfl⟩
  · have H : Hid (btw x lo hi = false) := by simp [Hid, btw, h]
    go_enter Try.func86, Try.ntmps86
    go_wp2
    go_ret
    exact ⟨ret_bool H.out.symm, rfl⟩

def fieldB (used : Bool) (x lo hi : Int) : Bool := if used then btw x lo hi else x == 0

set_option maxHeartbeats 400000 in
theorem field_any (u : Bool) (x lo hi : Int) (w : World) :
    Calls Try.prog 87 #[.bool u, .int .i64 x, .int .i64 lo, .int .i64 hi] w fun e w' => e = .returned (.bool (fieldB u x lo hi)) ∧ w = w' := by
  cases u
  · by_cases h : x = 0
    · subst h
      go_enter Try.func87, Try.ntmps87
      go_wp2_with (go_at_call 86; refine (within_any _ _ _ _).mono ?_; rintro e w' ⟨rfl, rfl⟩)
      go_ret
      exact ⟨rfl, rfl⟩
    · have h' : (x == 0) = false := beq_eq_false_iff_ne.2 h
      have H : Hid (fieldB false x lo hi = false) := by simp [Hid, fieldB, h]
      clear h
      go_enter Try.func87, Try.ntmps87
      go_wp2_with (go_at_call 86; refine (within_any _ _ _ _).mono ?_; rintro e w' ⟨rfl, rfl⟩)
      go_ret
      exact ⟨ret_bool H.out.symm, rfl⟩
  · have H : Hid (fieldB true x lo hi = btw x lo hi) := rfl
    have H2 : ∀ w : World, Calls Try.prog 86 #[.int .i64 x, .int .i64 lo, .int .i64 hi] w fun e w' => e = .returned (.bool (btw x lo hi)) ∧ w = w' := within_any x lo hi
    generalize btw x lo hi = b at *
    have H3 := Lib.hid H2
    clear H2
    cases b
    all_goals
      go_enter Try.func87, Try.ntmps87
      go_wp2_with (go_at_call 86; refine (H3.out _).mono ?_; rintro e w' ⟨rfl, rfl⟩)
      go_ret
      exact ⟨ret_bool H.out.symm, rfl⟩

def spanB (a b : Int) : Bool := decide (0 ≤ a ∧ a < b ∧ b ≤ 73049)

set_option maxHeartbeats 400000 in
theorem vspan_any (a b : Int) (w : World) :
    Calls Try.prog 88 #[.agg #[.int .i64 a, .int .i64 b]] w fun e w' => e = .returned (.bool (spanB a b)) ∧ Below w.heap.size w w' := by
  by_cases h : 0 ≤ a
  · by_cases h2 : a < b
    · by_cases h3 : b ≤ 73049
      · have H : Hid (spanB a b = true) := by simp [Hid, spanB, h, h2, h3]
        go_enter Try.func88, Try.ntmps88
        go_wp2
        go_ret
        exact ⟨ret_bool H.out.symm, (Below.refl _ _).alloc (Nat.le_refl _) _⟩
      · have H : Hid (spanB a b = false) := by simp [Hid, spanB, h3]
        go_enter Try.func88, Try.ntmps88
        go_wp2
        go_ret
        exact ⟨ret_bool H.out.symm, (Below.refl _ _).alloc (Nat.le_refl _) _⟩
    · have H : Hid (spanB a b = false) := by simp [Hid, spanB, h2]
      go_enter Try.func88, Try.ntmps88
      go_wp2
      go_ret
      exact ⟨ret_bool H.out.symm, (Below.refl _ _).alloc (Nat.le_refl _) _⟩
  · have H : Hid (spanB a b = false) := by simp [Hid, spanB, h]
    go_enter Try.func88, Try.ntmps88
    go_wp2
    go_ret
    exact ⟨ret_bool H.out.symm, (Below.refl _ _).alloc (Nat.le_refl _) _⟩

end Go.Proofs.Ytkkjiihdmpngbaa
