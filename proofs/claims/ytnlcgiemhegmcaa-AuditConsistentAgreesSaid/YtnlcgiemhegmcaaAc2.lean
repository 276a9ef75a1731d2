/-
  An entry is sound, as the reference says it: the plain part. No program in sight.
-/
import Derived.Test.YtnlcgiemhegmcaaAc1
namespace Go.Proofs.Ytnlcgiemhegmcaa
open Go.RowKit
set_option linter.unusedVariables false

theorem wrong_count (g : List Ln) : wrongB g = g.any fun l => decide (1 < (g.filter fun m => m.it == l.it).length) || !fitB l.it l.n l.d := by
  have hc : ∀ a, (g.map (·.it)).count a = (g.filter fun m => m.it == a).length := by
    intro a
    rw [List.count, List.countP_map, List.countP_eq_length_filter]
    rfl
  rw [Bool.eq_iff_iff]
  unfold wrongB
  simp only [Bool.or_eq_true, List.any_eq_true, Bool.not_eq_true', decide_eq_false_iff_not, decide_eq_true_eq]
  constructor
  · rintro (⟨l, hl, hf⟩ | hn)
    · exact ⟨l, hl, .inr hf⟩
    · rw [List.nodup_iff_count] at hn
      have : ∃ a, ¬ (g.map (·.it)).count a ≤ 1 := by
        apply Classical.byContradiction
        intro h
        exact hn fun a => Classical.byContradiction fun h2 => h ⟨a, h2⟩
      obtain ⟨a, ha⟩ := this
      rw [hc] at ha
      have hpos : 0 < (g.filter fun m => m.it == a).length := by omega
      obtain ⟨l, hl⟩ := List.exists_mem_of_length_pos hpos
      rw [List.mem_filter] at hl
      have e : l.it = a := by simpa using hl.2
      refine ⟨l, hl.1, .inl ?_⟩
      rw [e]
      omega
  · rintro ⟨l, hl, h | h⟩
    · right
      intro hn
      rw [List.nodup_iff_count] at hn
      have := hn l.it
      rw [hc] at this
      omega
    · exact .inl ⟨l, hl, h⟩
/-- Line l of the entry is in order. -/
def okL (L : List Ln) (s b : Int) (l : Ln) : Bool := !(decide (1 < (mt L s b l.it).length) || !fitB l.it l.n l.d)
def inG (s b : Int) (l : Ln) : Bool := l.s == s && l.b == b
theorem wrong_ok (L : List Ln) (s b : Int) : wrongB (grp L s b) = !(L.all fun l => !inG s b l || okL L s b l) := by
  rw [wrong_count]
  have e : ∀ x, (grp L s b).filter (fun m => m.it == x) = mt L s b x := fun x => (mt_grp L s b x).symm
  simp only [e]
  rw [Bool.eq_iff_iff]
  simp only [List.any_eq_true, Bool.not_eq_true', List.all_eq_false]
  constructor
  · rintro ⟨l, hl, h⟩
    unfold grp at hl
    rw [List.mem_filter] at hl
    refine ⟨l, hl.1, ?_⟩
    unfold inG okL
    rw [hl.2, h]
    simp
  · rintro ⟨l, hl, h⟩
    unfold inG okL at h
    refine ⟨l, ?_, ?_⟩
    · unfold grp
      rw [List.mem_filter]
      refine ⟨hl, ?_⟩
      cases h1 : (l.s == s && l.b == b) with
      | true => rfl
      | false => rw [h1] at h; simp at h
    · cases h1 : (decide (1 < (mt L s b l.it).length) || !fitB l.it l.n l.d) with
      | true => rfl
      | false => rw [h1] at h; simp at h
def arithF (f1 f2 f4 f5 f6 f7 f8 : Bool) (n1 n2 n4 n6 n7 n8 : Int) : Bool :=
  (f5 || ((!(f1 && (f4 && (f6 && f7))) || (n7 == max (n1 - n6) n4)) && (!(f1 && f6) || decide (n6 ≤ n1)))) && ((!(f2 && f4) || decide (n4 ≤ n2)) && (!(f7 && f8) || decide (n7 < n8)))
def fB (L : List Ln) (s b x : Int) : Bool := decide (0 < (mt L s b x).length)
def nV (L : List Ln) (s b x : Int) : Int := (hdV (mt L s b x)).1
theorem first_fB (L : List Ln) (s b x : Int) : firstV (grp L s b) x = if fB L s b x then some (hdV (mt L s b x)) else none := by
  rw [first_mt]
  unfold fB
  by_cases h : (mt L s b x).length = 0
  · simp [h]
  · rw [if_neg h, if_pos (by simp; omega)]
theorem arith_F (L : List Ln) (s b : Int) : arithB (firstV (grp L s b)) = arithF (fB L s b 1) (fB L s b 2) (fB L s b 4) (fB L s b 5) (fB L s b 6) (fB L s b 7) (fB L s b 8) (nV L s b 1) (nV L s b 2) (nV L s b 4) (nV L s b 6) (nV L s b 7) (nV L s b 8) := by
  unfold arithB
  rw [first_fB, first_fB, first_fB, first_fB, first_fB, first_fB, first_fB]
  unfold nV arithF
  cases fB L s b 1 <;> cases fB L s b 2 <;> cases fB L s b 4 <;> cases fB L s b 5 <;> cases fB L s b 6 <;> cases fB L s b 7 <;> cases fB L s b 8 <;> simp
theorem nV_bd {L : List Ln} {s b : Int} (h : wrongB (grp L s b) = false) (x : Int) : 0 ≤ nV L s b x ∧ nV L s b x ≤ 1000000000000000 := by
  unfold nV
  cases hm : mt L s b x with
  | nil => simp [hdV]
  | cons l r =>
    have hl : l ∈ grp L s b := by
      have : l ∈ mt L s b x := by rw [hm]; simp
      rw [mt_grp, List.mem_filter] at this
      exact this.1
    rw [wrong_count, List.any_eq_false] at h
    have := h l hl
    simp only [Bool.or_eq_true, not_or, Bool.not_eq_true', Bool.not_eq_false] at this
    exact fit_bd this.2
end Go.Proofs.Ytnlcgiemhegmcaa
