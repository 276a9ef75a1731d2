/-
  The contract of the reference's Valid: the same function as that of fact.Valid.
-/
import Derived.Test.YtkkjiihdmpngbaaFa5
namespace Go.Proofs.Ytkkjiihdmpngbaa
open Go.RowKit
/-- The part of validity that is plain bounds. -/
def coreP (f : Fct) : Prop := 0 ≤ f.iss ∧ f.iss ≤ 5 ∧ 1 ≤ f.num ∧ f.num ≤ 999 ∧ 1 ≤ f.ver ∧ f.ver ≤ 99 ∧ 1 ≤ f.per ∧ f.per ≤ 99 ∧ 0 ≤ f.fr ∧ f.fr < f.til ∧ f.til ≤ 73049
theorem vo_core {f : Fct} (h : ¬ coreP f) : false = validB f := by
  refine Eq.symm (Bool.eq_false_iff.2 fun hv => h ?_)
  simp only [validB, btw, spanB, Bool.and_eq_true, decide_eq_true_eq] at hv
  unfold coreP
  omega
theorem vo_uses {f : Fct} (h : (usesL f.kind).isEmpty = true) : false = validB f := by simp [validB, h]
theorem vo_tail {f : Fct} (h : validTail f = false) : false = validB f := by simp [validB, h]
theorem vi_all {f : Fct} (h : coreP f) (hu : (usesL f.kind).isEmpty = false) (ht : validTail f = true) : validB f =
    (fieldB (usesI f.kind 83) f.st 0 5 && fieldB (usesI f.kind 84) f.seat 0 5 && fieldB (usesI f.kind 72) f.share 1 100 && fieldB (usesI f.kind 67) f.cur 1 999 && fieldB (usesI f.kind 65) f.amt 0 1000000000 && fieldB (usesI f.kind 82) f.ref 1 99) := by
  unfold coreP at h
  have e1 : btw f.iss 0 5 = true := by simp only [btw, decide_eq_true_eq]; omega
  have e2 : btw f.num 1 999 = true := by simp only [btw, decide_eq_true_eq]; omega
  have e3 : btw f.ver 1 99 = true := by simp only [btw, decide_eq_true_eq]; omega
  have e4 : btw f.per 1 99 = true := by simp only [btw, decide_eq_true_eq]; omega
  have e5 : spanB f.fr f.til = true := by simp only [spanB, decide_eq_true_eq]; omega
  have u1 : usesI f.kind 83 = usesB f.kind 83 := rfl
  have u2 : usesI f.kind 84 = usesB f.kind 84 := rfl
  have u3 : usesI f.kind 72 = usesB f.kind 72 := rfl
  have u4 : usesI f.kind 67 = usesB f.kind 67 := rfl
  have u5 : usesI f.kind 65 = usesB f.kind 65 := rfl
  have u6 : usesI f.kind 82 = usesB f.kind 82 := rfl
  simp [validB, hu, ht, e1, e2, e3, e4, e5, u1, u2, u3, u4, u5, u6]

set_option maxRecDepth 100000 in
set_option maxHeartbeats 8000000 in
theorem rvalid_any (a0 a1 a2 : Int) (a3 : Bool) (a4 a5 a6 a7 a8 a9 a10 a11 a12 a13 : Int) (w : World) :
    Calls Try.prog 73 #[.agg #[.int .i64 a0, .int .i64 a1, .int .i64 a2, .bool a3, .int .i64 a4, .int .i64 a5, .int .i64 a6, .int .i64 a7, .int .i64 a8, .int .i64 a9, .int .i64 a10, .int .i64 a11, .int .i64 a12, .int .i64 a13]] w
      fun e w' => e = .returned (.bool (validB ⟨a0, a1, a2, a3, a4, a5, a6, a7, a8, a9, a10, a11, a12, a13⟩)) ∧ Below w.heap.size w w' := by
  go_enter Try.func73, Try.ntmps73
  go_wp2_with (first
    | (go_at_call 71; refine (ruses_any _ _).mono ?_; rintro e w1 ⟨rfl, hb1⟩; obtain ⟨hc1, hf1⟩ := bcell hb1; clear hf1)
    | (go_at_call 80; refine (rfield_any _ _ _ _ _ _ (by decide) (by decide)).mono ?_; rintro e w2 ⟨rfl, hb2⟩; replace hb2 := Below.next (by assumption) hb2; obtain ⟨hc2, hf2⟩ := bcell hb2; clear hf2))
  all_goals
    go_ret
    refine ⟨ret_bool ?_, by first | exact Below.boxed (by assumption) | exact (Below.refl _ _).alloc (Nat.le_refl _) _⟩
    go_light
    first
      | (refine vo_core ?_; simp only [coreP]; omega)
      | (refine vo_uses ?_; simp_all [usesS]; done)
      | (refine vo_tail ?_; simp only [validTail]; simp_all; done)
      | (refine vo_tail ?_; simp only [validTail]; simp_all; omega)
      | (rw [vi_all (by simp only [coreP]; omega) (by simp_all [usesS]) (by simp only [validTail]; simp_all; try omega)]; simp_all; done)
end Go.Proofs.Ytkkjiihdmpngbaa
