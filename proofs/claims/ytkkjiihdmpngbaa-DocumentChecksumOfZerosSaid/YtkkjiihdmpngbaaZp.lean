/-
  The checksums of rows of fewer than 64 zeros differ where the lengths do. No program in sight.
-/
import Derived.Test.YtkkjiihdmpngbaaCrc
namespace Go.Proofs.Ytkkjiihdmpngbaa
theorem crcz0 : ∀ d : Fin 64, 0 < d.val → crcF (List.replicate d.val 0) 4294967295 ≠ 4294967295 := by decide +kernel
theorem crcz_lt {m n : Nat} (h : m < n) (hn : n ≤ 63) : crcL (List.replicate m 0) ≠ crcL (List.replicate n 0) := by
  intro he
  have b1 := crcF_lt (List.replicate m 0) (v := 4294967295) (by decide)
  have b2 := crcF_lt (List.replicate n 0) (v := 4294967295) (by decide)
  have h1 : crcF (List.replicate m 0) 4294967295 = crcF (List.replicate n 0) 4294967295 := by unfold crcL at he; omega
  have e : List.replicate n (0 : UInt8) = List.replicate (n - m) 0 ++ List.replicate m 0 := by rw [List.replicate_append_replicate]; congr 1; omega
  rw [e] at h1
  simp only [crcF, List.foldl_append] at h1
  have b3 := crcF_lt (List.replicate (n - m) 0) (v := 4294967295) (by decide)
  have h2 := crcF_inj (List.replicate m 0) (by decide) b3 h1
  exact crcz0 ⟨n - m, by omega⟩ (by show 0 < n - m; omega) h2.symm
theorem crcz {m n : Nat} (hm : m ≤ 63) (hn : n ≤ 63) : ((crcL (List.replicate m 0) : Int) == (crcL (List.replicate n 0) : Int)) = ((m : Int) == (n : Int)) := by
  rcases Nat.lt_trichotomy m n with h | rfl | h
  · have := crcz_lt h hn
    rw [Bool.eq_iff_iff]; simp only [beq_iff_eq]; omega
  · simp
  · have := crcz_lt h hm
    rw [Bool.eq_iff_iff]; simp only [beq_iff_eq]; omega
end Go.Proofs.Ytkkjiihdmpngbaa
