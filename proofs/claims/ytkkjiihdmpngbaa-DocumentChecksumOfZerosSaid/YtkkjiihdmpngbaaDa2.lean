/-
  Contracts: the ranges of the numbers of documents' bodies.
-/
import Derived.Test.YtkkjiihdmpngbaaFa2
import Derived.Test.YtkkjiihdmpngbaaMix
namespace Go.Proofs.Ytkkjiihdmpngbaa
open Go.RowKit

theorem in_any (x lo hi : Int) (w : World) :
    Calls Try.prog 57 #[.int .i64 x, .int .i64 lo, .int .i64 hi] w fun e w' => e = .returned (.bool (btw x lo hi)) ∧ w = w' := by
  go_enter Try.func57, Try.ntmps57
  go_wp2
  all_goals
    go_ret
    refine ⟨ret_bool ?_, rfl⟩
    go_light
    simp only [btw]
    first | (simp; omega) | simp_all
theorem rwithin_any (x lo hi : Int) (w : World) :
    Calls Try.prog 59 #[.int .i64 x, .int .i64 lo, .int .i64 hi] w fun e w' => e = .returned (.bool (btw x lo hi)) ∧ w = w' := by
  go_enter Try.func59, Try.ntmps59
  go_wp2
  all_goals
    go_ret
    refine ⟨ret_bool ?_, rfl⟩
    go_light
    simp only [btw]
    first | (simp; omega) | simp_all
theorem vday_any (x : Int) (w : World) :
    Calls Try.prog 68 #[.int .i64 x] w fun e w' => e = .returned (.bool (btw x 0 73048)) ∧ w = w' := by
  go_enter Try.func68, Try.ntmps68
  go_wp2
  all_goals
    go_ret
    refine ⟨ret_bool ?_, rfl⟩
    go_light
    simp only [btw]
    first | (simp; omega) | simp_all
theorem vmonth_any (x : Int) (w : World) :
    Calls Try.prog 69 #[.int .i64 x] w fun e w' => e = .returned (.bool (btw x 0 2399)) ∧ w = w' := by
  go_enter Try.func69, Try.ntmps69
  go_wp2
  all_goals
    go_ret
    refine ⟨ret_bool ?_, rfl⟩
    go_light
    simp only [btw]
    first | (simp; omega) | simp_all
/-- Whether the numbers of a claim are in their ranges. -/
def claimB (x0 x1 x2 x3 x4 x5 : Int) : Bool := btw x0 0 5 && btw x1 1 999 && btw x2 1 99 && btw x3 1 5 && btw x4 0 99 && btw x5 0 73048
set_option maxHeartbeats 1000000 in
theorem vclaim_any (x0 x1 x2 x3 x4 x5 : Int) (w : World) : Calls Try.prog 67 #[.agg #[.int .i64 x0, .int .i64 x1, .int .i64 x2, .int .i64 x3, .int .i64 x4, .int .i64 x5]] w fun e w' => e = .returned (.bool (claimB x0 x1 x2 x3 x4 x5)) ∧ Below w.heap.size w w' := by
  have HB : Hid (claimB x0 x1 x2 x3 x4 x5 = (btw x0 0 5 && btw x1 1 999 && btw x2 1 99 && btw x3 1 5 && btw x4 0 99 && btw x5 0 73048)) := rfl
  go_enter Try.func67, Try.ntmps67
  go_wp2_with (go_at_call 57; refine (in_any _ _ _ _).mono ?_; rintro e w' ⟨rfl, rfl⟩)
  all_goals
    go_ret
    refine ⟨ret_bool ?_, (Below.refl _ _).alloc (Nat.le_refl _) _⟩
    rw [HB.out]
    go_light
    simp_all
/-- Whether the numbers of a request are in their ranges. -/
def requestB (x0 x1 x2 : Int) : Bool := btw x0 1 99 && btw x1 0 2399 && btw x2 0 1000000000000
set_option maxHeartbeats 1000000 in
theorem vrequest_any (x0 x1 x2 : Int) (w : World) : Calls Try.prog 64 #[.agg #[.int .i64 x0, .int .i64 x1, .int .i64 x2]] w fun e w' => e = .returned (.bool (requestB x0 x1 x2)) ∧ Below w.heap.size w w' := by
  have HB : Hid (requestB x0 x1 x2 = (btw x0 1 99 && btw x1 0 2399 && btw x2 0 1000000000000)) := rfl
  go_enter Try.func64, Try.ntmps64
  go_wp2_with (go_at_call 57; refine (in_any _ _ _ _).mono ?_; rintro e w' ⟨rfl, rfl⟩)
  all_goals
    go_ret
    refine ⟨ret_bool ?_, (Below.refl _ _).alloc (Nat.le_refl _) _⟩
    rw [HB.out]
    go_light
    simp_all
/-- Whether the numbers of a remittance are in their ranges. -/
def remittanceB (x0 x1 x2 x3 x4 x5 : Int) : Bool := btw x0 0 5 && btw x1 1 99 && btw x2 0 2399 && btw x3 1 999 && btw x4 1 1000000000000 && btw x5 1 1000000000000
set_option maxHeartbeats 1000000 in
theorem vremittance_any (x0 x1 x2 x3 x4 x5 : Int) (w : World) : Calls Try.prog 65 #[.agg #[.int .i64 x0, .int .i64 x1, .int .i64 x2, .int .i64 x3, .int .i64 x4, .int .i64 x5]] w fun e w' => e = .returned (.bool (remittanceB x0 x1 x2 x3 x4 x5)) ∧ Below w.heap.size w w' := by
  have HB : Hid (remittanceB x0 x1 x2 x3 x4 x5 = (btw x0 0 5 && btw x1 1 99 && btw x2 0 2399 && btw x3 1 999 && btw x4 1 1000000000000 && btw x5 1 1000000000000)) := rfl
  go_enter Try.func65, Try.ntmps65
  go_wp2_with (go_at_call 57; refine (in_any _ _ _ _).mono ?_; rintro e w' ⟨rfl, rfl⟩)
  all_goals
    go_ret
    refine ⟨ret_bool ?_, (Below.refl _ _).alloc (Nat.le_refl _) _⟩
    rw [HB.out]
    go_light
    simp_all
/-- Whether the numbers of a notice are in their ranges. -/
def noticeB (x0 x1 x2 x3 : Int) : Bool := btw x0 1 99 && btw x1 0 2399 && btw x2 0 1000000000000 && btw x3 (-1000000000000) 1000000000000
set_option maxHeartbeats 1000000 in
theorem vnotice_any (x0 x1 x2 x3 : Int) (w : World) : Calls Try.prog 66 #[.agg #[.int .i64 x0, .int .i64 x1, .int .i64 x2, .int .i64 x3]] w fun e w' => e = .returned (.bool (noticeB x0 x1 x2 x3)) ∧ Below w.heap.size w w' := by
  have HB : Hid (noticeB x0 x1 x2 x3 = (btw x0 1 99 && btw x1 0 2399 && btw x2 0 1000000000000 && btw x3 (-1000000000000) 1000000000000)) := rfl
  go_enter Try.func66, Try.ntmps66
  go_wp2_with (go_at_call 57; refine (in_any _ _ _ _).mono ?_; rintro e w' ⟨rfl, rfl⟩)
  all_goals
    go_ret
    refine ⟨ret_bool ?_, (Below.refl _ _).alloc (Nat.le_refl _) _⟩
    rw [HB.out]
    go_light
    simp_all
end Go.Proofs.Ytkkjiihdmpngbaa
