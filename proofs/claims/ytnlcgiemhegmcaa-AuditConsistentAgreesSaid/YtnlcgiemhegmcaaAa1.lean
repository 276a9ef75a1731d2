/-
  The greatest common divisor, the size of a number, valid fractions: the program's and the reference's. Conditions: none beyond the machine's ranges.
-/
import Derived.Test.YtnlcgiemhegmcaaBlk
import Derived.Test.YtnlcgiemhegmcaaAup
namespace Go.Proofs.Ytnlcgiemhegmcaa
open Go.RowKit
set_option linter.unusedVariables false

set_option maxHeartbeats 400000 in
theorem gcd_any (a0 b0 : Nat) (w : World) (ha : a0 < 18446744073709551616) (hb : b0 < 18446744073709551616) :
    Calls Try.prog 32 #[.int .u64 (a0 : Int), .int .u64 (b0 : Int)] w fun e w' => e = .returned (.int .u64 (Nat.gcd a0 b0 : Int)) ∧ Below w.heap.size w w' := by
  go_enter Try.func32, Try.ntmps32
  go_wp2
  go_loopw [0, 1] (fun x y wr => ∃ a b : Nat, a < 18446744073709551616 ∧ b < 18446744073709551616 ∧ x = .int .u64 (a : Int) ∧ y = .int .u64 (b : Int) ∧ Hid (Nat.gcd a b = Nat.gcd a0 b0) ∧ Below w.heap.size w wr) (fun _ y _ => (intOf y).toNat)
  case atStart => exact ⟨a0, b0, ha, hb, rfl, rfl, rfl, Below.refl _ _⟩
  case round =>
    obtain ⟨a, b, ha1, hb1, rfl, rfl, hg, hbel⟩ := hrel
    clear ha hb
    by_cases hz : b = 0
    · subst hz
      go_wp2
      go_ret
      exact ⟨ret_int (by rw [← hg.out]; simp), hbel⟩
    · have hb0 : ((b : Int) == 0) = false := beq_eq_false_iff_ne.2 (by omega)
      have hb2 : ((b : Int) != 0) = true := bne_iff_ne.2 (by omega)
      have hl : a % b < b := Nat.mod_lt _ (by omega)
      go_wp2
      go_quiet (fail)
      go_roundw
      case rel => exact ⟨_, _, _, _, _, _, _, _, ⟨b, a % b, hb1, by omega, rfl, rfl, by show _ = _; rw [← hg.out, Nat.gcd_comm a b, Nat.gcd_rec b a, Nat.gcd_comm], bdrewN hbel _⟩, rfl⟩
      case measure => simp [intOf]; omega
set_option maxHeartbeats 400000 in
theorem rgcd_any (a0 b0 : Nat) (w : World) (ha : a0 < 18446744073709551616) (hb : b0 < 18446744073709551616) :
    Calls Try.prog 34 #[.int .u64 (a0 : Int), .int .u64 (b0 : Int)] w fun e w' => e = .returned (.int .u64 (Nat.gcd a0 b0 : Int)) ∧ Below w.heap.size w w' := by
  go_enter Try.func34, Try.ntmps34
  go_wp2
  go_loopw [0, 1] (fun x y wr => ∃ a b : Nat, a < 18446744073709551616 ∧ b < 18446744073709551616 ∧ x = .int .u64 (a : Int) ∧ y = .int .u64 (b : Int) ∧ Hid (Nat.gcd a b = Nat.gcd a0 b0) ∧ Below w.heap.size w wr) (fun _ y _ => (intOf y).toNat)
  case atStart => exact ⟨a0, b0, ha, hb, rfl, rfl, rfl, Below.refl _ _⟩
  case round =>
    obtain ⟨a, b, ha1, hb1, rfl, rfl, hg, hbel⟩ := hrel
    clear ha hb
    by_cases hz : b = 0
    · subst hz
      go_wp2
      go_ret
      exact ⟨ret_int (by rw [← hg.out]; simp), hbel⟩
    · have hb0 : ((b : Int) == 0) = false := beq_eq_false_iff_ne.2 (by omega)
      have hb2 : ((b : Int) != 0) = true := bne_iff_ne.2 (by omega)
      have hl : a % b < b := Nat.mod_lt _ (by omega)
      go_wp2
      go_quiet (fail)
      go_roundw
      case rel => exact ⟨_, _, _, _, _, _, _, _, ⟨b, a % b, hb1, by omega, rfl, rfl, by show _ = _; rw [← hg.out, Nat.gcd_comm a b, Nat.gcd_rec b a, Nat.gcd_comm], bdrewN hbel _⟩, rfl⟩
      case measure => simp [intOf]; omega
theorem u64_wrap (x : Int) : IntKind.u64.wrap x = x % 18446744073709551616 := by simp [IntKind.wrap, IntKind.bits, IntKind.signed]
theorem size_any (x : Int) (w : World) (h1 : -9223372036854775808 ≤ x) (h2 : x ≤ 9223372036854775807) :
    Calls Try.prog 33 #[.int .i64 x] w fun e w' => e = .returned (.int .u64 (x.natAbs : Int)) ∧ w = w' := by
  go_enter Try.func33, Try.ntmps33
  go_wp2
  all_goals
    go_ret
    refine ⟨ret_int ?_, rfl⟩
    try simp only [u64_wrap]
    omega
theorem rsize_any (x : Int) (w : World) (h1 : -9223372036854775808 ≤ x) (h2 : x ≤ 9223372036854775807) :
    Calls Try.prog 35 #[.int .i64 x] w fun e w' => e = .returned (.int .u64 (x.natAbs : Int)) ∧ w = w' := by
  go_enter Try.func35, Try.ntmps35
  go_wp2
  all_goals
    go_ret
    refine ⟨ret_int ?_, rfl⟩
    try simp only [u64_wrap]
    omega
set_option maxRecDepth 100000 in
set_option maxHeartbeats 1000000 in
theorem valid_any (n d : Int) (w : World) :
    Calls Try.prog 29 #[.agg #[.int .i64 n, .int .i64 d]] w fun e w' => e = .returned (.bool (vfB n d)) ∧ Below w.heap.size w w' := by
  go_enter Try.func29, Try.ntmps29
  go_wp2
  have hB : Below w.heap.size w (w.alloc (.cells #[.int .i64 n, .int .i64 d] 34)) := (Below.refl _ _).alloc (Nat.le_refl _) _
  rcases h1 : decide (1 ≤ d) with _ | _
  ·
    refine wp_region_after (by kernel_rfl) (by kernel_rfl) ?_
    repeat (go_big_quiet_step ((first
      | (go_at_call 33; exact aft_same (size_any _ _ (by omega) (by omega)))
      | (go_at_call 32; exact aft_below (gcd_any _ _ _ (by omega) (by omega))))))
    refine wpQuiet_nil ?_
    rintro w2 ⟨⟨w3, hb3⟩, hw''⟩
    subst hw''
    go_wp2
    go_ret
    refine ⟨ret_bool ?_, hB.trans (hb3.mono hB.size)⟩
    simp [vfB, h1]
  rcases h2 : decide (d ≤ 1000000000) with _ | _
  ·
    refine wp_region_after (by kernel_rfl) (by kernel_rfl) ?_
    repeat (go_big_quiet_step ((first
      | (go_at_call 33; exact aft_same (size_any _ _ (by omega) (by omega)))
      | (go_at_call 32; exact aft_below (gcd_any _ _ _ (by omega) (by omega))))))
    refine wpQuiet_nil ?_
    rintro w2 ⟨⟨w3, hb3⟩, hw''⟩
    subst hw''
    go_wp2
    go_ret
    refine ⟨ret_bool ?_, hB.trans (hb3.mono hB.size)⟩
    simp [vfB, h1, h2]
  rcases h3 : decide (-1000000000000000 ≤ n) with _ | _
  ·
    refine wp_region_after (by kernel_rfl) (by kernel_rfl) ?_
    repeat (go_big_quiet_step ((first
      | (go_at_call 33; exact aft_same (size_any _ _ (by omega) (by omega)))
      | (go_at_call 32; exact aft_below (gcd_any _ _ _ (by omega) (by omega))))))
    refine wpQuiet_nil ?_
    rintro w2 ⟨⟨w3, hb3⟩, hw''⟩
    subst hw''
    go_wp2
    go_ret
    refine ⟨ret_bool ?_, hB.trans (hb3.mono hB.size)⟩
    simp [vfB, h1, h2, h3]
  rcases h4 : decide (n ≤ 1000000000000000) with _ | _
  ·
    refine wp_region_after (by kernel_rfl) (by kernel_rfl) ?_
    repeat (go_big_quiet_step ((first
      | (go_at_call 33; exact aft_same (size_any _ _ (by omega) (by omega)))
      | (go_at_call 32; exact aft_below (gcd_any _ _ _ (by omega) (by omega))))))
    refine wpQuiet_nil ?_
    rintro w2 ⟨⟨w3, hb3⟩, hw''⟩
    subst hw''
    go_wp2
    go_ret
    refine ⟨ret_bool ?_, hB.trans (hb3.mono hB.size)⟩
    simp [vfB, h1, h2, h3, h4]
  have e1 := of_decide_eq_true h1
  have e2 := of_decide_eq_true h2
  have e3 := of_decide_eq_true h3
  have e4 := of_decide_eq_true h4
  have hwd : IntKind.u64.wrap d = d := by rw [u64_wrap]; omega
  refine wp_region_after (by kernel_rfl) (by kernel_rfl) ?_
  repeat (go_big_quiet_step ((first
    | (go_at_call 33; exact aft_same (size_any _ _ (by omega) (by omega)))
    | (go_at_call 32; exact aft_below (gcd_any _ _ _ (by omega) (by omega))))))
  refine wpQuiet_nil ?_
  rintro w2 ⟨⟨w3, hb3⟩, hw''⟩
  subst hw''
  go_wp2
  go_ret
  refine ⟨ret_bool ?_, hB.trans (hb3.mono hB.size)⟩
  simp only [vfB, h1, h2, h3, h4, Bool.true_and]
  rw [Bool.eq_iff_iff]
  simp only [beq_iff_eq]
  omega
theorem rgcd_d (a0 : Nat) (d : Int) (w : World) (ha : a0 < 18446744073709551616) (h0 : 0 ≤ d) (h1 : d < 18446744073709551616) :
    Calls Try.prog 34 #[.int .u64 (a0 : Int), .int .u64 d] w fun e w' => e = .returned (.int .u64 (Nat.gcd a0 d.natAbs : Int)) ∧ Below w.heap.size w w' := by
  obtain ⟨k, rfl⟩ := Int.eq_ofNat_of_zero_le h0
  exact rgcd_any a0 k w ha (by omega)
set_option maxRecDepth 100000 in
set_option maxHeartbeats 1000000 in
theorem rvalid_any (n d : Int) (w : World) :
    Calls Try.prog 31 #[.agg #[.int .i64 n, .int .i64 d]] w fun e w' => e = .returned (.bool (vfB n d)) ∧ Below w.heap.size w w' := by
  go_enter Try.func31, Try.ntmps31
  go_wp2
  have hB : Below w.heap.size w (w.alloc (.cells #[.int .i64 n, .int .i64 d] 34)) := (Below.refl _ _).alloc (Nat.le_refl _) _
  rcases h1 : decide (1 ≤ d) with _ | _
  ·
    refine wp_region_after (by kernel_rfl) (by kernel_rfl) ?_
    repeat (go_big_quiet_step ((first
      | (go_at_call 35; exact aft_same (rsize_any _ _ (by omega) (by omega)))
      | (go_at_call 34; exact aft_below (rgcd_d _ _ _ (by omega) (by omega) (by omega))))))
    refine wpQuiet_nil ?_
    rintro w2 ⟨⟨w3, hb3⟩, hw''⟩
    subst hw''
    go_wp2
    go_ret
    refine ⟨ret_bool ?_, hB.trans (hb3.mono hB.size)⟩
    simp [vfB, h1]
  rcases h2 : decide (d ≤ 1000000000) with _ | _
  ·
    refine wp_region_after (by kernel_rfl) (by kernel_rfl) ?_
    repeat (go_big_quiet_step ((first
      | (go_at_call 35; exact aft_same (rsize_any _ _ (by omega) (by omega)))
      | (go_at_call 34; exact aft_below (rgcd_d _ _ _ (by omega) (by omega) (by omega))))))
    refine wpQuiet_nil ?_
    rintro w2 ⟨⟨w3, hb3⟩, hw''⟩
    subst hw''
    go_wp2
    go_ret
    refine ⟨ret_bool ?_, hB.trans (hb3.mono hB.size)⟩
    simp [vfB, h1, h2]
  rcases h3 : decide (-1000000000000000 ≤ n) with _ | _
  ·
    refine wp_region_after (by kernel_rfl) (by kernel_rfl) ?_
    repeat (go_big_quiet_step ((first
      | (go_at_call 35; exact aft_same (rsize_any _ _ (by omega) (by omega)))
      | (go_at_call 34; exact aft_below (rgcd_d _ _ _ (by omega) (by omega) (by omega))))))
    refine wpQuiet_nil ?_
    rintro w2 ⟨⟨w3, hb3⟩, hw''⟩
    subst hw''
    go_wp2
    go_ret
    refine ⟨ret_bool ?_, hB.trans (hb3.mono hB.size)⟩
    simp [vfB, h1, h2, h3]
  rcases h4 : decide (n ≤ 1000000000000000) with _ | _
  ·
    refine wp_region_after (by kernel_rfl) (by kernel_rfl) ?_
    repeat (go_big_quiet_step ((first
      | (go_at_call 35; exact aft_same (rsize_any _ _ (by omega) (by omega)))
      | (go_at_call 34; exact aft_below (rgcd_d _ _ _ (by omega) (by omega) (by omega))))))
    refine wpQuiet_nil ?_
    rintro w2 ⟨⟨w3, hb3⟩, hw''⟩
    subst hw''
    go_wp2
    go_ret
    refine ⟨ret_bool ?_, hB.trans (hb3.mono hB.size)⟩
    simp [vfB, h1, h2, h3, h4]
  have e1 := of_decide_eq_true h1
  have e2 := of_decide_eq_true h2
  have e3 := of_decide_eq_true h3
  have e4 := of_decide_eq_true h4
  have hwd : IntKind.u64.wrap d = d := by rw [u64_wrap]; omega
  refine wp_region_after (by kernel_rfl) (by kernel_rfl) ?_
  repeat (go_big_quiet_step ((first
    | (go_at_call 35; exact aft_same (rsize_any _ _ (by omega) (by omega)))
    | (go_at_call 34; exact aft_below (rgcd_d _ _ _ (by omega) (by omega) (by omega))))))
  refine wpQuiet_nil ?_
  rintro w2 ⟨⟨w3, hb3⟩, hw''⟩
  subst hw''
  go_wp2
  go_ret
  refine ⟨ret_bool ?_, hB.trans (hb3.mono hB.size)⟩
  simp only [vfB, h1, h2, h3, h4, Bool.true_and]
  rw [Bool.eq_iff_iff]
  simp only [beq_iff_eq]
  omega
end Go.Proofs.Ytnlcgiemhegmcaa
