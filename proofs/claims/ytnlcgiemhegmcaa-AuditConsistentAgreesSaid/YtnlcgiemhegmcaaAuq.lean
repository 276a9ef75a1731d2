/-
  The entries of an explanation in the order of their first lines. No program in sight.
-/
import Derived.Test.YtnlcgiemhegmcaaAup
namespace Go.Proofs.Ytnlcgiemhegmcaa

/-- The line at i. -/
def ln (L : List Ln) (i : Nat) : Ln := L.getD i default
def same (a b : Ln) : Bool := a.s == b.s && a.b == b.b
theorem same_iff (a b : Ln) : same a b = true ↔ a.s = b.s ∧ a.b = b.b := by simp [same]
theorem same_comm (a b : Ln) : same a b = same b a := by
  rw [Bool.eq_iff_iff, same_iff, same_iff]; constructor <;> rintro ⟨h, k⟩ <;> exact ⟨h.symm, k.symm⟩
def fs (L : List Ln) (i : Nat) : List Nat := (List.range i).filter (isFst L)
def gAt (L : List Ln) (i j : Nat) : List Ln := grp (L.take i) (ln L j).s (ln L j).b
theorem fs_succ (L : List Ln) (i : Nat) : fs L (i + 1) = if isFst L i then fs L i ++ [i] else fs L i := by
  unfold fs
  rw [List.range_succ, List.filter_append]
  by_cases h : isFst L i <;> simp [h]
theorem fs_lt {L : List Ln} {i j : Nat} (h : j ∈ fs L i) : j < i := by
  simp only [fs, List.mem_filter, List.mem_range] at h
  exact h.1
theorem fs_fst {L : List Ln} {i j : Nat} (h : j ∈ fs L i) : isFst L j = true := by
  simp only [fs, List.mem_filter, List.mem_range] at h
  exact h.2
theorem isFst_iff {L : List Ln} {i : Nat} (hi : i ≤ L.length) : isFst L i = true ↔ ∀ k, k < i → same (ln L k) (ln L i) = false := by
  unfold isFst
  simp only [Bool.not_eq_true', List.any_eq_false]
  constructor
  · intro h k hk
    have hk' : k < L.length := by omega
    have h1 := h (ln L k) (by
      rw [List.mem_take_iff_getElem]
      exact ⟨k, by omega, by simp [ln, List.getD, hk']⟩)
    simpa [same, ln] using h1
  · intro h x hx
    rw [List.mem_take_iff_getElem] at hx
    obtain ⟨k, hk, rfl⟩ := hx
    have h1 := h k (by omega)
    have e : ln L k = L[k]'(by omega) := by simp [ln, List.getD, show k < L.length by omega]
    rw [e] at h1
    simpa [same, ln] using h1
theorem first_of {L : List Ln} {i : Nat} (hi : i ≤ L.length) : ∀ k, k < i → ∃ j ∈ fs L i, same (ln L j) (ln L k) = true := by
  intro k
  induction k using Nat.strongRecOn with
  | ind k ih =>
    intro hk
    by_cases hf : isFst L k = true
    · refine ⟨k, ?_, by simp [same_iff]⟩
      simp only [fs, List.mem_filter, List.mem_range]
      exact ⟨hk, hf⟩
    · have h1 : ¬ ∀ q, q < k → same (ln L q) (ln L k) = false := fun h => hf ((isFst_iff (by omega)).2 h)
      have h2 : ∃ q, q < k ∧ same (ln L q) (ln L k) = true := by
        apply Classical.byContradiction
        intro h3
        apply h1
        intro q hq
        cases h4 : same (ln L q) (ln L k) with
        | false => rfl
        | true => exact absurd ⟨q, hq, h4⟩ h3
      obtain ⟨q, hq, hs⟩ := h2
      obtain ⟨j, hj, hs'⟩ := ih q hq (by omega)
      refine ⟨j, hj, ?_⟩
      rw [same_iff] at hs hs' ⊢
      exact ⟨hs'.1.trans hs.1, hs'.2.trans hs.2⟩
theorem fs_same {L : List Ln} {i j k : Nat} (hi : i ≤ L.length) (hj : j ∈ fs L i) (hk : k ∈ fs L i) (h : same (ln L j) (ln L k) = true) : j = k := by
  have a1 := fs_lt hj
  have a2 := fs_lt hk
  rcases Nat.lt_trichotomy j k with hlt | rfl | hlt
  · have := (isFst_iff (L := L) (i := k) (by omega)).1 (fs_fst hk) j hlt
    rw [h] at this; cases this
  · rfl
  · have := (isFst_iff (L := L) (i := j) (by omega)).1 (fs_fst hj) k hlt
    rw [same_comm, h] at this; cases this
/-- Line i belongs to an entry that has begun, or begins one. -/
theorem find_fs {L : List Ln} {i : Nat} (hi : i ≤ L.length) :
    (isFst L i = true ∧ ∀ j ∈ fs L i, same (ln L j) (ln L i) = false) ∨ (isFst L i = false ∧ ∃ j ∈ fs L i, same (ln L j) (ln L i) = true) := by
  cases hf : isFst L i with
  | true => exact .inl ⟨rfl, fun j hj => (isFst_iff hi).1 hf j (fs_lt hj)⟩
  | false =>
    right
    refine ⟨rfl, ?_⟩
    have h2 : ∃ q, q < i ∧ same (ln L q) (ln L i) = true := by
      apply Classical.byContradiction
      intro h3
      have : isFst L i = true := (isFst_iff hi).2 (by
        intro q hq
        cases h4 : same (ln L q) (ln L i) with
        | false => rfl
        | true => exact absurd ⟨q, hq, h4⟩ h3)
      rw [hf] at this; cases this
    obtain ⟨q, hq, hs⟩ := h2
    obtain ⟨j, hj, hs'⟩ := first_of hi q hq
    refine ⟨j, hj, ?_⟩
    rw [same_iff] at hs hs' ⊢
    exact ⟨hs'.1.trans hs.1, hs'.2.trans hs.2⟩
theorem take_ln {L : List Ln} {i : Nat} (hi : i < L.length) : L.take (i + 1) = L.take i ++ [ln L i] := by
  rw [List.take_add_one]
  simp [ln, List.getD, hi]
theorem gAt_hit {L : List Ln} {i j : Nat} (hi : i < L.length) (h : same (ln L j) (ln L i) = true) : gAt L (i + 1) j = gAt L i j ++ [ln L i] := by
  unfold gAt
  rw [take_ln hi, grp_snoc]
  rw [same_iff] at h
  simp [h.1, h.2]
theorem gAt_miss {L : List Ln} {i j : Nat} (hi : i < L.length) (h : same (ln L j) (ln L i) = false) : gAt L (i + 1) j = gAt L i j := by
  unfold gAt
  rw [take_ln hi, grp_snoc]
  rw [if_neg]
  intro h2
  rw [same_comm] at h
  unfold same at h
  rw [h] at h2
  cases h2
theorem gAt_new {L : List Ln} {i : Nat} (hi : i < L.length) (h : isFst L i = true) : gAt L i i = [] := by
  unfold gAt grp
  rw [List.filter_eq_nil_iff]
  intro x hx
  rw [List.mem_take_iff_getElem] at hx
  obtain ⟨k, hk, rfl⟩ := hx
  have h1 := (isFst_iff (by omega)).1 h k (by omega)
  have e : ln L k = L[k]'(by omega) := by simp [ln, List.getD, show k < L.length by omega]
  rw [e] at h1
  simpa [same] using h1
theorem gAt_all (L : List Ln) (j : Nat) : gAt L L.length j = grpAt L j := by
  unfold gAt grpAt ln
  rw [List.take_length]
theorem fs_all (L : List Ln) : fs L L.length = fsts L := rfl
theorem unsL_eq (L : List Ln) : unsL L = (fs L L.length).filter fun j => !(!wrongB (gAt L L.length j) && arithB (lastV (gAt L L.length j))) := by
  unfold unsL
  rw [fs_all]
  congr 1
  funext j
  rw [gAt_all, sound_last]
theorem fit_bd {it n d : Int} (h : fitB it n d = true) : 0 ≤ n ∧ n ≤ 1000000000000000 := by
  simp only [fitB, vfB, Bool.and_eq_true, decide_eq_true_eq] at h
  exact ⟨h.2.1, h.1.2.2.2.1⟩
theorem last_bd {g : List Ln} (h : wrongB g = false) {x : Int} {p : Int × Int} (hx : lastV g x = some p) : 0 ≤ p.1 ∧ p.1 ≤ 1000000000000000 := by
  unfold lastV at hx
  rw [Option.map_eq_some_iff] at hx
  obtain ⟨l, hl, rfl⟩ := hx
  have hm := List.mem_of_find?_eq_some hl
  simp only [wrongB, Bool.or_eq_false_iff, List.any_eq_false, Bool.not_eq_true', Bool.not_eq_false] at h
  have h1 := h.1 l (by simpa using hm)
  exact fit_bd h1
end Go.Proofs.Ytnlcgiemhegmcaa
