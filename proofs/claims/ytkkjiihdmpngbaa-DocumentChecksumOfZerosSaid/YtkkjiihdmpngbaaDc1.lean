/-
  Contracts: OfFact and Fact of the document and of the reference.
-/
import Derived.Test.YtkkjiihdmpngbaaDb3
namespace Go.Proofs.Ytkkjiihdmpngbaa
open Go.RowKit
set_option linter.unusedVariables false

theorem factO_len (f : Fct) : decide ((0 : Int) < ((factO f).length : Int)) = validB f := by
  cases hv : validB f
  · simp [factO, hv]
  · have := (factL_len f).1
    rw [factO_valid hv]
    simp
    omega
set_option maxRecDepth 100000 in
set_option maxHeartbeats 1000000 in
theorem offact_any (f : Fct) (w : World) : Calls Try.prog 49 #[.agg (fcells f)] w (OfPost (factO f) (validB f) w) := by
  have HL := Lib.hid (factO_len f)
  obtain ⟨a0, a1, a2, a3, a4, a5, a6, a7, a8, a9, a10, a11, a12, a13⟩ := f
  simp only [fcells]
  have HB := Lib.hid (bytes_any a0 a1 a2 a3 a4 a5 a6 a7 a8 a9 a10 a11 a12 a13)
  generalize validB ⟨a0, a1, a2, a3, a4, a5, a6, a7, a8, a9, a10, a11, a12, a13⟩ = vb at *
  generalize factO ⟨a0, a1, a2, a3, a4, a5, a6, a7, a8, a9, a10, a11, a12, a13⟩ = L at *
  obtain ⟨n, hn⟩ : ∃ n, n = L.length := ⟨_, rfl⟩
  have hvb : vb = decide (0 < n) := by rw [hn, ← HL.out]; simp
  have HN := Lib.hid hn
  have HVB := Lib.hid hvb
  clear hn hvb
  have key : ∀ (va : Option Addr) (vc : Nat), True := fun _ _ => trivial
  rcases Nat.eq_zero_or_pos n with h0 | h0
  · subst h0
    go_enter Try.func49, Try.ntmps49
    go_wp2_with (go_at_call 72; refine (HB.out _).mono ?_; rintro e w1 ⟨v1, rfl, hown, hb1, hk1⟩; obtain ⟨va, vc, rfl⟩ := own_len hown; rw [← HN.out])
    go_ret2
    have hb := bnext ((Below.refl _ _).alloc (Nat.le_refl _) _) hb1
    rw [← HN.out] at hown
    refine ⟨_, by rw [HVB.out]; rfl, by rw [← HN.out]; exact own_mono hown (by simp), hb⟩
  · have h1 : (0 : Int) < (n : Int) := by omega
    go_enter Try.func49, Try.ntmps49
    go_wp2_with (go_at_call 72; refine (HB.out _).mono ?_; rintro e w1 ⟨v1, rfl, hown, hb1, hk1⟩; obtain ⟨va, vc, rfl⟩ := own_len hown; rw [← HN.out])
    go_ret2
    have hb := bnext ((Below.refl _ _).alloc (Nat.le_refl _) _) hb1
    rw [← HN.out] at hown
    have hvt : vb = true := by rw [HVB.out]; simpa using h0
    refine ⟨_, by rw [hvt]; rfl, by rw [← HN.out]; exact own_mono hown (by simp), hb⟩
set_option maxRecDepth 100000 in
set_option maxHeartbeats 1000000 in
theorem roffact_any (f : Fct) (w : World) : Calls Try.prog 50 #[.agg (fcells f)] w (OfPost (factO f) (validB f) w) := by
  obtain ⟨a0, a1, a2, a3, a4, a5, a6, a7, a8, a9, a10, a11, a12, a13⟩ := f
  simp only [fcells]
  have HV := Lib.hid (rvalid_any a0 a1 a2 a3 a4 a5 a6 a7 a8 a9 a10 a11 a12 a13)
  rcases hv : validB ⟨a0, a1, a2, a3, a4, a5, a6, a7, a8, a9, a10, a11, a12, a13⟩ with _ | _
  · rw [hv] at HV
    have HO : Hid (factO ⟨a0, a1, a2, a3, a4, a5, a6, a7, a8, a9, a10, a11, a12, a13⟩ = []) := by simp [Hid, factO, hv]
    clear hv
    go_enter Try.func50, Try.ntmps50
    go_wp2_with (go_at_call 73; refine (HV.out _).mono ?_; rintro e w1 ⟨rfl, hb1⟩)
    go_ret2
    rw [HO.out]
    exact ⟨_, rfl, ⟨rfl, .inl ⟨rfl, rfl⟩⟩, bnext ((Below.refl _ _).alloc (Nat.le_refl _) _) hb1⟩
  · rw [hv] at HV
    clear hv
    go_enter Try.func50, Try.ntmps50
    go_wp2_with fail
    refine (HV.out _).mono ?_
    rintro e w1 ⟨rfl, hb1⟩
    have hbox : BlkIs w1 w.heap.size 76 #[.int .i64 a0, .int .i64 a1, .int .i64 a2, .bool a3, .int .i64 a4, .int .i64 a5, .int .i64 a6, .int .i64 a7, .int .i64 a8, .int .i64 a9, .int .i64 a10, .int .i64 a11, .int .i64 a12, .int .i64 a13] := (BlkIs.new _ _ _).below hb1 (by simp)
    have hcl := hbox.cell
    have hbel := bnext ((Below.refl _ _).alloc (Nat.le_refl _) _) hb1
    clear hb1
    go_wp2_with fail
    refine (rbytes_any a0 a1 a2 a3 a4 a5 a6 a7 a8 a9 a10 a11 a12 a13 _).mono ?_
    rintro e w2 ⟨v2, rfl, hown, hb2, hk2⟩
    go_wp2
    go_ret2
    exact ⟨_, rfl, own_mono hown hbel.size, bnext hbel hb2⟩
end Go.Proofs.Ytkkjiihdmpngbaa
