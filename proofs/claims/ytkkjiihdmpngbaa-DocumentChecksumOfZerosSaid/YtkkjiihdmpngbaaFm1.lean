/-
  The contract of Mod.
-/
import Derived.Test.YtkkjiihdmpngbaaFb2
namespace Go.Proofs.Ytkkjiihdmpngbaa
open Go.RowKit

theorem tmod_eq (n m : Int) (h : 0 < m) : n.tmod m = if 0 ≤ n ∨ n % m = 0 then n % m else n % m - m := by
  rw [Int.tmod_eq_emod]
  by_cases h0 : 0 ≤ n
  · simp [h0]
  · by_cases h1 : n % m = 0
    · have : m ∣ n := Int.dvd_of_emod_eq_zero h1
      simp [this, h1]
    · have : ¬ m ∣ n := fun hd => h1 (Int.emod_eq_zero_of_dvd hd)
      simp [h0, this, h1]
      omega
theorem tmod_lo (n m : Int) (h : 0 < m) : -m < n.tmod m ∧ n.tmod m < m := by
  rw [tmod_eq n m h]
  have h1 := Int.emod_nonneg n (show m ≠ 0 by omega)
  have h2 := Int.emod_lt_of_pos n h
  split <;> omega
theorem tmod_fix (n m : Int) (h : 0 < m) : (n.tmod m + m) % m = n % m := by
  rw [tmod_eq n m h]
  split
  · rw [Int.add_emod_right, Int.emod_emod]
  · rw [Int.sub_add_cancel, Int.emod_emod]

set_option maxHeartbeats 400000 in
theorem mod_any (n m : Int) (w : World) (h0 : 1 ≤ m) (h1 : m ≤ 1000000000000) :
    Calls Try.prog 20 #[.int .i64 n, .int .i64 m] w fun e w' => e = .returned (.int .i64 (n % m)) ∧ w = w' := by
  have hb := tmod_lo n m (by omega)
  have H := Lib.hid (tmod_eq n m (by omega))
  have h3 := Int.emod_nonneg n (show m ≠ 0 by omega)
  have h4 := Int.emod_lt_of_pos n (show 0 < m by omega)
  obtain ⟨hb1, hb2⟩ := hb
  have hm0 : (m == 0) = false := beq_eq_false_iff_ne.2 (by omega)
  go_enter Try.func20, Try.ntmps20
  go_wp2
  all_goals
    go_ret
    refine ⟨ret_int ?_, rfl⟩
    go_light
    have h5 := H.out
    split at h5 <;> omega

theorem own_len {w : World} {base n : Nat} {t : TypeId} {v : Value} {xs : List Value} (h : w.ownsRow base t 1 v n xs) : ∃ a c, v = .slice a n c := by
  rcases h.2 with ⟨rfl, rfl⟩ | ⟨g, cap, cur, rfl, _⟩
  · exact ⟨_, _, rfl⟩
  · exact ⟨_, _, rfl⟩
end Go.Proofs.Ytkkjiihdmpngbaa
