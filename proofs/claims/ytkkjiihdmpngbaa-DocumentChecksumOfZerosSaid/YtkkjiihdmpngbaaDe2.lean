/-
  Contracts: Valid of the document, ValidDocument of the reference.
-/
import Derived.Test.YtkkjiihdmpngbaaDe1
import Derived.Outline
namespace Go.Proofs.Ytkkjiihdmpngbaa
open Go.RowKit
set_option linter.unusedVariables false

theorem docB_eq (s n k p : Int) (l : List UInt8) : docB s n k p l = (btw s 0 5 && btw n 1 999 && (decide (1 < n) || (p == 0)) && bodyB k s l) := rfl
set_option maxRecDepth 100000 in
set_option maxHeartbeats 400000 in
theorem dvalid_any (s n k p : Int) (v : Value) (l : List UInt8) (w : World) (hsl : Sl w.heap.size w v l) (hl : l.length ≤ 4611686018427387904) :
    Calls Try.prog 24 #[.agg (docV s n k p v)] w fun e w' => e = .returned (.bool (docB s n k p l)) ∧ Below w.heap.size w w' := by
  obtain ⟨a, c, hv, hc, hx⟩ := id hsl
  subst hv
  clear hx
  simp only [docV]
  have hbel : Below w.heap.size w (w.alloc (.cells #[.int .i64 s, .int .i64 n, .int .i64 k, .int .u32 p, .slice a l.length c] 34)) := (Below.refl _ _).alloc (Nat.le_refl _) _
  have HSL := Lib.hid ((hsl.below hbel).mono hbel.size)
  have HO := Lib.hid (docB_eq s n k p l)

  rcases h1 : btw s 0 5 with _ | _
  · rw [h1] at HO
    have H1 := Lib.hid h1
    clear h1
    go_enter Try.func24, Try.ntmps24
    go_wp2_with fail
    refine (in_any _ _ _ _).mono ?_
    rintro e w' ⟨rfl, rfl⟩
    rw [H1.out]
    go_wp2
    go_ret
    exact ⟨ret_bool HO.out.symm, hbel⟩
  rw [h1] at HO
  have H1 := Lib.hid h1
  clear h1
  rcases h2 : btw n 1 999 with _ | _
  · rw [h2] at HO
    have H2 := Lib.hid h2
    clear h2
    go_enter Try.func24, Try.ntmps24
    go_wp2_with fail
    refine (in_any _ _ _ _).mono ?_
    rintro e w' ⟨rfl, rfl⟩
    rw [H1.out]
    go_wp2_with fail
    refine (in_any _ _ _ _).mono ?_
    rintro e w' ⟨rfl, rfl⟩
    rw [H2.out]
    go_wp2
    go_ret
    exact ⟨ret_bool HO.out.symm, hbel⟩
  rw [h2] at HO
  have H2 := Lib.hid h2
  clear h2
  by_cases h3 : 1 < n
  · have HB : Hid (docB s n k p l = bodyB k s l) := by
      have h4 := HO.out
      exact h4.trans (by simp [h3])
    go_enter Try.func24, Try.ntmps24
    go_wp2_with fail
    refine (in_any _ _ _ _).mono ?_
    rintro e w' ⟨rfl, rfl⟩
    rw [H1.out]
    go_wp2_with fail
    refine (in_any _ _ _ _).mono ?_
    rintro e w' ⟨rfl, rfl⟩
    rw [H2.out]
    go_wp2_with fail
    refine (vbody_any s n k _ _ l _ HSL.out hl).mono ?_
    rintro e w1 ⟨rfl, hb1⟩
    rw [← HB.out]
    go_wp2
    go_ret
    exact ⟨rfl, bnext hbel hb1⟩
  have h3' : decide (1 < n) = false := by simpa using h3
  by_cases h4 : p = 0
  · have HB : Hid (docB s n k p l = bodyB k s l) := by
      have h5 := HO.out
      rw [h3', h4] at h5
      rw [Hid, h4]
      exact h5.trans (by simp)
    subst h4
    go_enter Try.func24, Try.ntmps24
    go_wp2_with fail
    refine (in_any _ _ _ _).mono ?_
    rintro e w' ⟨rfl, rfl⟩
    rw [H1.out]
    go_wp2_with fail
    refine (in_any _ _ _ _).mono ?_
    rintro e w' ⟨rfl, rfl⟩
    rw [H2.out]
    go_wp2_with fail
    refine (vbody_any s n k _ _ l _ HSL.out hl).mono ?_
    rintro e w1 ⟨rfl, hb1⟩
    rw [← HB.out]
    go_wp2
    go_ret
    exact ⟨rfl, bnext hbel hb1⟩
  · have hp : (p == 0) = false := beq_eq_false_iff_ne.2 h4
    have HB : Hid (docB s n k p l = false) := by
      have h5 := HO.out
      rw [h3', hp] at h5
      exact h5.trans (by simp)
    go_enter Try.func24, Try.ntmps24
    go_wp2_with fail
    refine (in_any _ _ _ _).mono ?_
    rintro e w' ⟨rfl, rfl⟩
    rw [H1.out]
    go_wp2_with fail
    refine (in_any _ _ _ _).mono ?_
    rintro e w' ⟨rfl, rfl⟩
    rw [H2.out]
    go_wp2
    go_ret
    exact ⟨ret_bool HB.out.symm, hbel⟩
set_option maxRecDepth 100000 in
set_option maxHeartbeats 400000 in
theorem rvalidd_any (s n k p : Int) (v : Value) (l : List UInt8) (w : World) (hsl : Sl w.heap.size w v l) (hl : l.length ≤ 4611686018427387904) :
    Calls Try.prog 26 #[.agg (docV s n k p v)] w fun e w' => e = .returned (.bool (docB s n k p l)) ∧ Below w.heap.size w w' := by
  obtain ⟨a, c, hv, hc, hx⟩ := id hsl
  subst hv
  clear hx
  simp only [docV]
  have hbel : Below w.heap.size w (w.alloc (.cells #[.int .i64 s, .int .i64 n, .int .i64 k, .int .u32 p, .slice a l.length c] 34)) := (Below.refl _ _).alloc (Nat.le_refl _) _
  have HSL := Lib.hid ((hsl.below hbel).mono hbel.size)
  have HO := Lib.hid (docB_eq s n k p l)

  rcases h1 : btw s 0 5 with _ | _
  · rw [h1] at HO
    have H1 := Lib.hid h1
    clear h1
    go_enter Try.func26, Try.ntmps26
    go_wp2_with fail
    refine (rwithin_any _ _ _ _).mono ?_
    rintro e w' ⟨rfl, rfl⟩
    rw [H1.out]
    go_wp2
    go_ret
    exact ⟨ret_bool HO.out.symm, hbel⟩
  rw [h1] at HO
  have H1 := Lib.hid h1
  clear h1
  rcases h2 : btw n 1 999 with _ | _
  · rw [h2] at HO
    have H2 := Lib.hid h2
    clear h2
    go_enter Try.func26, Try.ntmps26
    go_wp2_with fail
    refine (rwithin_any _ _ _ _).mono ?_
    rintro e w' ⟨rfl, rfl⟩
    rw [H1.out]
    go_wp2_with fail
    refine (rwithin_any _ _ _ _).mono ?_
    rintro e w' ⟨rfl, rfl⟩
    rw [H2.out]
    go_wp2
    go_ret
    exact ⟨ret_bool HO.out.symm, hbel⟩
  rw [h2] at HO
  have H2 := Lib.hid h2
  clear h2
  by_cases h3 : 1 < n
  · have HB : Hid (docB s n k p l = bodyB k s l) := by
      have h4 := HO.out
      exact h4.trans (by simp [h3])
    go_enter Try.func26, Try.ntmps26
    go_wp2_with fail
    refine (rwithin_any _ _ _ _).mono ?_
    rintro e w' ⟨rfl, rfl⟩
    rw [H1.out]
    go_wp2_with fail
    refine (rwithin_any _ _ _ _).mono ?_
    rintro e w' ⟨rfl, rfl⟩
    rw [H2.out]
    go_wp2_with fail
    refine (rbody_any k s _ l _ HSL.out hl).mono ?_
    rintro e w1 ⟨rfl, hb1⟩
    rw [← HB.out]
    go_wp2
    go_ret
    exact ⟨rfl, bnext hbel hb1⟩
  have h3' : decide (1 < n) = false := by simpa using h3
  by_cases h4 : p = 0
  · have HB : Hid (docB s n k p l = bodyB k s l) := by
      have h5 := HO.out
      rw [h3', h4] at h5
      rw [Hid, h4]
      exact h5.trans (by simp)
    subst h4
    go_enter Try.func26, Try.ntmps26
    go_wp2_with fail
    refine (rwithin_any _ _ _ _).mono ?_
    rintro e w' ⟨rfl, rfl⟩
    rw [H1.out]
    go_wp2_with fail
    refine (rwithin_any _ _ _ _).mono ?_
    rintro e w' ⟨rfl, rfl⟩
    rw [H2.out]
    go_wp2_with fail
    refine (rbody_any k s _ l _ HSL.out hl).mono ?_
    rintro e w1 ⟨rfl, hb1⟩
    rw [← HB.out]
    go_wp2
    go_ret
    exact ⟨rfl, bnext hbel hb1⟩
  · have hp : (p == 0) = false := beq_eq_false_iff_ne.2 h4
    have HB : Hid (docB s n k p l = false) := by
      have h5 := HO.out
      rw [h3', hp] at h5
      exact h5.trans (by simp)
    go_enter Try.func26, Try.ntmps26
    go_wp2_with fail
    refine (rwithin_any _ _ _ _).mono ?_
    rintro e w' ⟨rfl, rfl⟩
    rw [H1.out]
    go_wp2_with fail
    refine (rwithin_any _ _ _ _).mono ?_
    rintro e w' ⟨rfl, rfl⟩
    rw [H2.out]
    go_wp2
    go_ret
    exact ⟨ret_bool HB.out.symm, hbel⟩
end Go.Proofs.Ytkkjiihdmpngbaa
