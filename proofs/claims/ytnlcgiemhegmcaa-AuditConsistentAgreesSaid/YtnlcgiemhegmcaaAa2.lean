/-
  The value of an item is in its range: the program's fits and the reference's value. No conditions.
-/
import Derived.Test.YtnlcgiemhegmcaaAa1
namespace Go.Proofs.Ytnlcgiemhegmcaa
open Go.RowKit
set_option linter.unusedVariables false

def shB (it : Int) : Bool := it == 3 || it == 5
theorem share_any (it : Int) (w : World) : Calls Try.prog 30 #[.int .i64 it] w fun e w' => e = .returned (.bool (shB it)) ∧ w = w' := by
  go_enter Try.func30, Try.ntmps30
  go_wp2
  all_goals
    go_ret
    refine ⟨ret_bool ?_, rfl⟩
    simp_all [shB]
set_option maxRecDepth 100000 in
set_option maxHeartbeats 1000000 in
theorem fits_any (it n d : Int) (w : World) : Calls Try.prog 25 #[.int .i64 it, .agg #[.int .i64 n, .int .i64 d]] w fun e w' => e = .returned (.bool (fitB it n d)) ∧ Below w.heap.size w w' := by
  go_enter Try.func25, Try.ntmps25
  have hB : Below w.heap.size w (w.alloc (.cells #[.int .i64 n, .int .i64 d] 34)) := (Below.refl _ _).alloc (Nat.le_refl _) _
  rcases h1 : vfB n d with _ | _ <;> rcases h2 : shB it with _ | _
  all_goals
    go_wp2_with (first
      | (go_at_call 29; refine (valid_any _ _ _).mono ?_; rintro e w1 ⟨rfl, hb1⟩; obtain ⟨hc, hf⟩ := bcell hb1)
      | (go_at_call 30; refine (share_any _ _).mono ?_; rintro e w2 ⟨rfl, rfl⟩))
    all_goals
      go_ret
      refine ⟨ret_bool ?_, hB.trans (hb1.mono hB.size)⟩
      have h3 : (it == 3 || it == 5) = _ := h2
      simp only [fitB, h1, h3]
      clear hc hf
      (try simp_all) <;> (intros; omega)
set_option maxRecDepth 100000 in
set_option maxHeartbeats 1000000 in
theorem value_any (s b it n d : Int) (w : World) : Calls Try.prog 28 #[.agg #[.int .i64 s, .int .i64 b, .int .i64 it, .int .i64 n, .int .i64 d]] w fun e w' => e = .returned (.bool (fitB it n d)) ∧ Below w.heap.size w w' := by
  go_enter Try.func28, Try.ntmps28
  have hB : Below w.heap.size w (w.alloc (.cells #[.int .i64 s, .int .i64 b, .int .i64 it, .int .i64 n, .int .i64 d] 36)) := (Below.refl _ _).alloc (Nat.le_refl _) _
  rcases h1 : vfB n d with _ | _
  all_goals
    go_wp2_with (first
      | (go_at_call 31; refine (rvalid_any _ _ _).mono ?_; rintro e w1 ⟨rfl, hb1⟩; obtain ⟨hc, hf⟩ := bcell hb1))
    all_goals
      go_ret
      refine ⟨ret_bool ?_, hB.trans (hb1.mono hB.size)⟩
      simp only [fitB, h1]
      clear hc hf
      (try simp_all) <;> (intros; (try split) <;> omega)
end Go.Proofs.Ytnlcgiemhegmcaa
