/-
  Contracts of the reference's uses and field.
-/
import Derived.Test.YtkkjiihdmpngbaaFa4
namespace Go.Proofs.Ytkkjiihdmpngbaa
open Go.RowKit

theorem hasB_nil (c : UInt8) : hasB [] c = false := by simp [hasB, Lib.indexByte]
theorem hasB_cons (b c : UInt8) (l : List UInt8) : hasB (b :: l) c = (b == c || hasB l c) := by
  unfold hasB
  have h := Lib.indexByte_ge l c
  by_cases hb : b == c
  · simp [Lib.indexByte, hb]
  · simp only [Lib.indexByte, hb]
    by_cases h1 : Lib.indexByte l c = -1
    · simp [h1]
    · have h2 : (Lib.indexByte l c == -1) = false := by simpa using h1
      simp only [h2]
      have : 0 ≤ Lib.indexByte l c := by omega
      simp [this]
      omega
theorem hasB_iff (l : List UInt8) (c : UInt8) : hasB l c = decide (c ∈ l) := by
  induction l with
  | nil => simp [hasB_nil]
  | cons b l ih =>
    rw [hasB_cons, ih]
    by_cases h : b = c
    · subst h; simp
    · have h1 : (b == c) = false := by simpa using h
      have h2 : ¬ c = b := fun e => h e.symm
      simp [h1, h2]

theorem usesL_le (k : Int) : (usesL k).length ≤ 6 := by
  by_cases h : 1 ≤ k ∧ k ≤ 14
  · have hk : k = 1 ∨ k = 2 ∨ k = 3 ∨ k = 4 ∨ k = 5 ∨ k = 6 ∨ k = 7 ∨ k = 8 ∨ k = 9 ∨ k = 10 ∨ k = 11 ∨ k = 12 ∨ k = 13 ∨ k = 14 := by omega
    rcases hk with rfl | rfl | rfl | rfl | rfl | rfl | rfl | rfl | rfl | rfl | rfl | rfl | rfl | rfl
    all_goals decide
  · rw [uses_else k (by omega)]; decide
theorem usesS_size (k : Int) : (usesS k).size = (usesL k).length := rfl
theorem usesS_data (k : Int) : (usesS k).data.toList = usesL k := rfl

/-- None of the first i bytes is c. -/
def noneB (s : ByteArray) (i : Nat) (c : UInt8) : Prop := ∀ j (h : j < s.size), j < i → s[j] ≠ c

theorem none_has {s : ByteArray} {c : UInt8} (h : noneB s s.size c) : hasB s.data.toList c = false := by
  rw [hasB_iff]
  simp only [decide_eq_false_iff_not]
  intro hm
  obtain ⟨j, hj, he⟩ := List.getElem_of_mem hm
  have hj' : j < s.size := by simpa using hj
  have he2 : s.data[j]'(by simpa using hj) = c := by simpa using he
  exact h j hj' hj' he2
theorem some_has {s : ByteArray} {c : UInt8} {i : Nat} (hi : i < s.size) (h : s[i] = c) : hasB s.data.toList c = true := by
  rw [hasB_iff]
  simp only [decide_eq_true_eq]
  rw [← h]
  exact List.getElem_mem (l := s.data.toList) (n := i) (by simpa using hi)

set_option maxHeartbeats 400000 in
theorem ruse_any (k : Int) (c : UInt8) (w : World) :
    Calls Try.prog 89 #[.int .i64 k, .int .u8 c.toNat] w fun e w' => e = .returned (.bool (usesB k c)) ∧ Below w.heap.size w w' := by
  have hsz : (usesS k).size ≤ 6 := usesL_le k
  have H : Hid (usesB k c = hasB (usesS k).data.toList c) := rfl
  have HR := Lib.hid (ruses_any k)
  generalize usesS k = s at *
  go_enter Try.func89, Try.ntmps89
  go_wp2_with (go_at_call 71; refine (HR.out _).mono ?_; rintro e w' ⟨rfl, hb⟩)
  go_loop [6] (fun t => ∃ i : Nat, i ≤ s.size ∧ t = .int .i64 i ∧ noneB s i c) (fun t => s.size - (intOf t).toNat)
  case atStart => exact ⟨0, Nat.zero_le _, rfl, fun j _ h => absurd h (by omega)⟩
  case round =>
    obtain ⟨i, hi, rfl, hn⟩ := hrel
    have HN := Lib.hid hn
    clear hn
    by_cases hlt : i < s.size
    · by_cases hc : s[i] = c
      · have hc' : ((s[i].toNat : Int) == c.toNat) = true := by rw [hc]; simp
        have HC : Hid (hasB s.data.toList c = true) := some_has hlt hc
        clear hc
        go_wp2
        go_ret
        exact ⟨ret_bool (H.out.trans HC.out).symm, hb⟩
      · have hc' : ((s[i].toNat : Int) == c.toNat) = false := by
          rw [beq_eq_false_iff_ne]
          intro h
          exact hc (UInt8.toNat_inj.1 (by omega))
        have HC := Lib.hid hc
        clear hc
        go_wp2
        go_round
        case rel =>
          refine ⟨i + 1, by omega, by go_num, fun j hj hji => ?_⟩
          by_cases hji' : j = i
          · subst hji'; exact HC.out
          · exact HN.out j hj (by omega)
        case measure => simp [intOf]; omega
    · have hi' : i = s.size := by omega
      subst hi'
      go_wp2
      go_ret
      exact ⟨ret_bool (H.out.trans (none_has HN.out)).symm, hb⟩

/-- the letter as a number -/
def usesI (k m : Int) : Bool := usesB k m.toNat.toUInt8

set_option maxHeartbeats 400000 in
theorem rfield_any (k m n lo hi : Int) (w : World) (h0 : 0 ≤ m) (h1 : m ≤ 255) :
    Calls Try.prog 80 #[.int .i64 k, .int .u8 m, .int .i64 n, .int .i64 lo, .int .i64 hi] w fun e w' => e = .returned (.bool (fieldB (usesI k m) n lo hi)) ∧ Below w.heap.size w w' := by
  have hm : m = (m.toNat.toUInt8.toNat : Int) := by simp; omega
  have HU : Hid (∀ w : World, Calls Try.prog 89 #[.int .i64 k, .int .u8 m] w fun e w' => e = .returned (.bool (usesI k m)) ∧ Below w.heap.size w w') := by
    intro w
    have := ruse_any k m.toNat.toUInt8 w
    rw [← hm] at this
    exact this
  clear hm
  go_enter Try.func80, Try.ntmps80
  go_wp2_with (go_at_call 89; refine (HU.out _).mono ?_; rintro e w' ⟨rfl, hb⟩)
  all_goals
    go_ret
    refine ⟨ret_bool ?_, hb⟩
    go_light
    simp_all [fieldB, btw]
    try omega

theorem Below.next {w W w1 : World} (h : Below w.heap.size w W) (hb : Below W.heap.size W w1) : Below w.heap.size w w1 := h.trans (hb.mono h.size)
theorem Below.boxed {w w' : World} {o : Obj} (h : Below (w.alloc o).heap.size (w.alloc o) w') : Below w.heap.size w w' :=
  ((Below.refl _ _).alloc (Nat.le_refl _) _).trans (h.mono (by simp))

end Go.Proofs.Ytkkjiihdmpngbaa
