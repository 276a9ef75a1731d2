/-
  Contracts: Mod for great numbers, Amount, Bytes, Same, awake.
-/
import Derived.Test.YtkkjiihdmpngbaaDg3
import Derived.Outline
namespace Go.Proofs.Ytkkjiihdmpngbaa
open Go.RowKit
set_option linter.unusedVariables false

set_option maxHeartbeats 400000 in
theorem mod2_any (n m : Int) (w : World) (h0 : 1 ≤ m) (h1 : m ≤ 2000000000000) :
    Calls Try.prog 20 #[.int .i64 n, .int .i64 m] w fun e w' => e = .returned (.int .i64 (n % m)) ∧ w = w' := by
  have hb := tmod_lo n m (by omega)
  have H := Lib.hid (tmod_eq n m (by omega))
  have h3 := Int.emod_nonneg n (show m ≠ 0 by omega)
  have h4 := Int.emod_lt_of_pos n (show 0 < m by omega)
  obtain ⟨hb1, hb2⟩ := hb
  have hm0 : (m == 0) = false := beq_eq_false_iff_ne.2 (by omega)
  go_enter Try.func20, Try.ntmps20
  go_wp2
  all_goals
    go_ret
    refine ⟨ret_int ?_, rfl⟩
    go_light
    have h5 := H.out
    split at h5 <;> omega
/-- An amount. -/
def AmtPost (w : World) (e : Ending) (w' : World) : Prop := ∃ x : Int, e = .returned (.int .i64 x) ∧ 0 ≤ x ∧ x ≤ 1000000000000 ∧ w = w'
set_option maxHeartbeats 400000 in
theorem amount_any (n : Int) (w : World) (h1 : -9223372036854775808 ≤ n) (h2 : n ≤ 9223372036854775807) :
    Calls Try.prog 47 #[.int .i64 n] w (AmtPost w) := by
  have b1 := fun x : Int => emod_bd x 1000 (by omega)
  have b2 := fun x : Int => emod_bd x 1000000000001 (by omega)
  have b3 := fun x : Int => emod_bd x 5000 (by omega)
  have B1 := Lib.hid b1
  have B2 := Lib.hid b2
  have B3 := Lib.hid b3
  clear b1 b2 b3
  obtain ⟨q1, q2⟩ := emod_bd n 8 (by omega)
  go_enter Try.func47, Try.ntmps47
  go_wp2_with fail
  refine (mod2_any n 8 _ (by omega) (by omega)).mono ?_
  rintro e w' ⟨rfl, rfl⟩
  generalize n % 8 = r at *
  by_cases r0 : r = 0
  · subst r0
    go_wp2
    go_ret
    exact ⟨0, rfl, by omega, by omega, rfl⟩
  by_cases r1 : r = 1
  · subst r1
    go_wp2_with fail
    refine (mod2_any _ 1000 _ (by omega) (by omega)).mono ?_
    rintro e w' ⟨rfl, rfl⟩
    have hb := B1.out (n.tdiv 8)
    generalize n.tdiv 8 % 1000 = y at *
    obtain ⟨y1, y2⟩ := hb
    go_wp2
    go_ret
    exact ⟨1000000000000 - y, rfl, by omega, by omega, rfl⟩
  by_cases r2 : r = 2
  · subst r2
    go_wp2_with fail
    refine (mod2_any _ 1000000000001 _ (by omega) (by omega)).mono ?_
    rintro e w' ⟨rfl, rfl⟩
    have hb := B2.out (n.tdiv 8)
    generalize n.tdiv 8 % 1000000000001 = y at *
    obtain ⟨y1, y2⟩ := hb
    go_wp2
    go_ret
    exact ⟨y, rfl, by omega, by omega, rfl⟩
  · have r3 : 3 ≤ r := by omega
    go_wp2_with fail
    refine (mod2_any _ 5000 _ (by omega) (by omega)).mono ?_
    rintro e w' ⟨rfl, rfl⟩
    have hb := B3.out (n.tdiv 8)
    generalize n.tdiv 8 % 5000 = y at *
    obtain ⟨y1, y2⟩ := hb
    go_wp2
    go_ret
    exact ⟨y, rfl, by omega, by omega, rfl⟩

set_option maxHeartbeats 400000 in
theorem pbytes_any (u v : Value) (l m : List UInt8) (B : Nat) (w : World) (hu : Sl B w u l) (hv : Sl B w v m) :
    Calls Try.prog 25 #[u, v] w fun e w' => e = .returned (.bool (l == m)) ∧ w = w' := by
  have hcu := hu.string
  have hcv := hv.string
  obtain ⟨a, c, rfl, _, _⟩ := hu
  obtain ⟨a', c', rfl, _, _⟩ := hv
  generalize hn : l.length = n at *
  generalize hn' : m.length = n' at *
  clear hn hn'
  by_cases hlm : l = m
  · subst hlm
    go_enter Try.func25, Try.ntmps25
    go_wp2
    go_ret
    exact ⟨ret_bool (by simp), rfl⟩
  · have hne : (l == m) = false := beq_eq_false_iff_ne.2 hlm
    go_enter Try.func25, Try.ntmps25
    go_wp2
    go_ret
    exact ⟨ret_bool (by simp [hne]), rfl⟩

set_option maxRecDepth 100000 in
set_option maxHeartbeats 1000000 in
theorem same_eq (s n k p : Int) (u v : Value) (l : List UInt8) (w : World) (hu : Sl w.heap.size w u l) (hv : Sl w.heap.size w v l) :
    Calls Try.prog 28 #[.agg (docV s n k p u), .agg (docV s n k p v)] w fun e w' => e = .returned (.bool true) ∧ Below w.heap.size w w' := by
  simp only [docV]
  obtain ⟨a, c, hu', _, _⟩ := id hu
  obtain ⟨a', c', hv', _, _⟩ := id hv
  subst hu' hv'
  have hb : Below w.heap.size w ((w.alloc (.cells #[.int .i64 s, .int .i64 n, .int .i64 k, .int .u32 p, .slice a l.length c] 34)).alloc (.cells #[.int .i64 s, .int .i64 n, .int .i64 k, .int .u32 p, .slice a' l.length c'] 34)) := ((Below.refl _ _).alloc (Nat.le_refl _) _).alloc (by simp) _
  have HU := Lib.hid (hu.below hb)
  have HV := Lib.hid (hv.below hb)
  have hll : (l == l) = true := by simp
  go_enter Try.func28, Try.ntmps28
  go_wp2_with fail
  refine (pbytes_any _ _ l l _ _ HU.out HV.out).mono ?_
  rintro e w' ⟨rfl, rfl⟩
  rw [hll]
  go_wp2
  go_ret
  exact ⟨rfl, hb⟩
end Go.Proofs.Ytkkjiihdmpngbaa
