/-
  The contract of fact.Valid, and of the closure in it.
-/
import Derived.Test.YtkkjiihdmpngbaaFa3
namespace Go.Proofs.Ytkkjiihdmpngbaa
open Go.RowKit

theorem bcell {W w1 : World} (hb : Below W.heap.size W w1) : (∀ b o, b < W.heap.size → w1.cell? ⟨b, o, none⟩ = W.cell? ⟨b, o, none⟩) ∧ (∀ b o, b < W.heap.size → w1.frozen? ⟨b, o, none⟩ = W.frozen? ⟨b, o, none⟩) :=
  ⟨fun b o h => hb.cell (p := ⟨b, o, none⟩) h, fun b o h => hb.frozen (p := ⟨b, o, none⟩) h⟩

theorem has_any (s : ByteArray) (c : UInt8) (b o : Nat) (w : World) (hc : w.cell? ⟨b, o, none⟩ = some (.string s)) :
    Calls Try.prog 84 #[.string ⟨#[c]⟩, .pointer (some ⟨b, o, none⟩)] w fun e w' => e = .returned (.bool (hasB s.data.toList c)) ∧ w = w' := by
  go_enter Try.func84, Try.ntmps84
  go_wp2_with (go_at_call 85; refine (contains_any _ _ _).mono ?_; rintro e w' ⟨rfl, rfl⟩)
  go_ret
  exact ⟨rfl, rfl⟩

/-- A fact as numbers. -/
structure Fct where
  iss : Int
  num : Int
  ver : Int
  gone : Bool
  per : Int
  kind : Int
  st : Int
  fr : Int
  til : Int
  seat : Int
  share : Int
  cur : Int
  amt : Int
  ref : Int

def usesB (k : Int) (c : UInt8) : Bool := hasB (usesL k) c

def validTail (f : Fct) : Bool :=
  if f.kind = 4 then f.st != f.seat
  else if f.kind = 11 ∨ f.kind = 12 then f.til == f.fr + 1
  else if f.kind = 10 ∨ f.kind = 14 then f.ref != f.per
  else true

def validB (f : Fct) : Bool :=
  !(usesL f.kind).isEmpty && btw f.iss 0 5 && btw f.num 1 999 && btw f.ver 1 99 && btw f.per 1 99
  && fieldB (usesB f.kind 83) f.st 0 5 && fieldB (usesB f.kind 84) f.seat 0 5 && spanB f.fr f.til
  && fieldB (usesB f.kind 72) f.share 1 100 && fieldB (usesB f.kind 67) f.cur 1 999 && fieldB (usesB f.kind 65) f.amt 0 1000000000 && fieldB (usesB f.kind 82) f.ref 1 99
  && validTail f

set_option maxRecDepth 100000 in
set_option maxHeartbeats 4000000 in
theorem valid_any (a0 a1 a2 : Int) (a3 : Bool) (a4 a5 a6 a7 a8 a9 a10 a11 a12 a13 : Int) (w : World) :
    Calls Try.prog 77 #[.agg #[.int .i64 a0, .int .i64 a1, .int .i64 a2, .bool a3, .int .i64 a4, .int .i64 a5, .int .i64 a6, .int .i64 a7, .int .i64 a8, .int .i64 a9, .int .i64 a10, .int .i64 a11, .int .i64 a12, .int .i64 a13]] w
      fun e w' => e = .returned (.bool (validB ⟨a0, a1, a2, a3, a4, a5, a6, a7, a8, a9, a10, a11, a12, a13⟩)) ∧ Below w.heap.size w w' := by
  go_enter Try.func77, Try.ntmps77
  go_wp2_with (first
    | (go_at_call 79; refine (uses_any _ _).mono ?_; rintro e w' ⟨rfl, rfl⟩)
    | (go_at_call 86; refine (within_any _ _ _ _).mono ?_; rintro e w' ⟨rfl, rfl⟩))
  iterate 5
    (focus
      go_ret
      refine ⟨ret_bool ?_, ?_⟩
      · go_light; simp_all [validB, usesS, usesB]
      · exact ((Below.refl _ _).alloc (Nat.le_refl _) _).alloc (by simp) _)
  rcases hb5 : fieldB (hasB (usesS a5).data.toList 83) a6 0 5 with _ | _
  ·
    refine wp_region_after (by kernel_rfl) (by kernel_rfl) ?_
    repeat (go_big_quiet_step ((first
      | (go_at_call 84; refine aft_same (has_any (usesS a5) _ _ _ _ ?_); go_simp)
      | (go_at_call 87; exact aft_same (field_any _ _ _ _ _))
      | (go_at_call 88; exact aft_below (vspan_any _ _ _)))))
    refine wpQuiet_nil ?_
    rintro w' ⟨⟨w2, hb2⟩, hw''⟩
    subst hw''
    go_wp2
    go_ret
    refine ⟨ret_bool ?_, ?_⟩
    · go_light; simp_all [validB, usesS, usesB]
    · exact (((Below.refl _ _).alloc (Nat.le_refl _) _).alloc (by simp) _).trans (hb2.mono (by simp; omega))
  rcases hb6 : fieldB (hasB (usesS a5).data.toList 84) a9 0 5 with _ | _
  ·
    refine wp_region_after (by kernel_rfl) (by kernel_rfl) ?_
    repeat (go_big_quiet_step ((first
      | (go_at_call 84; refine aft_same (has_any (usesS a5) _ _ _ _ ?_); go_simp)
      | (go_at_call 87; exact aft_same (field_any _ _ _ _ _))
      | (go_at_call 88; exact aft_below (vspan_any _ _ _)))))
    refine wpQuiet_nil ?_
    rintro w' ⟨⟨w2, hb2⟩, hw''⟩
    subst hw''
    go_wp2
    go_ret
    refine ⟨ret_bool ?_, ?_⟩
    · go_light; simp_all [validB, usesS, usesB]
    · exact (((Below.refl _ _).alloc (Nat.le_refl _) _).alloc (by simp) _).trans (hb2.mono (by simp; omega))
  rcases hb7 : spanB a7 a8 with _ | _
  ·
    refine wp_region_after (by kernel_rfl) (by kernel_rfl) ?_
    repeat (go_big_quiet_step ((first
      | (go_at_call 84; refine aft_same (has_any (usesS a5) _ _ _ _ ?_); go_simp)
      | (go_at_call 87; exact aft_same (field_any _ _ _ _ _))
      | (go_at_call 88; exact aft_below (vspan_any _ _ _)))))
    refine wpQuiet_nil ?_
    rintro w' ⟨⟨w2, hb2⟩, hw''⟩
    subst hw''
    go_wp2
    go_ret
    refine ⟨ret_bool ?_, ?_⟩
    · go_light; simp_all [validB, usesS, usesB]
    · exact (((Below.refl _ _).alloc (Nat.le_refl _) _).alloc (by simp) _).trans (hb2.mono (by simp; omega))
  ·
    refine wp_region_after (by kernel_rfl) (by kernel_rfl) ?_
    repeat (go_big_quiet_step ((first
      | (go_at_call 84; refine aft_same (has_any (usesS a5) _ _ _ _ ?_); go_simp)
      | (go_at_call 87; exact aft_same (field_any _ _ _ _ _))
      | (go_at_call 88; exact aft_below (vspan_any _ _ _)))))
    refine wpQuiet_nil ?_
    rintro w' ⟨⟨w2, hb2⟩, hw''⟩
    subst hw''
    go_wp2
    have hz0 : w.heap.size < w'.heap.size := by have := hb2.size; simp at this; omega
    have hz1 : w.heap.size + 1 < w'.heap.size := by have := hb2.size; simp at this; omega
    have hB : Below w.heap.size w w' := (((Below.refl _ _).alloc (Nat.le_refl _) _).alloc (by simp) _).trans (hb2.mono (by simp; omega))
    obtain ⟨hc, hf⟩ := bcell hb2
    clear hb2 hf
    rcases hb8 : fieldB (hasB (usesS a5).data.toList 72) a10 1 100 with _ | _
    ·
      refine wp_region_after (by kernel_rfl) (by kernel_rfl) ?_
      repeat (go_big_quiet_step ((first
        | (go_at_call 84; refine aft_same (has_any (usesS a5) _ _ _ _ ?_); go_simp)
        | (go_at_call 87; exact aft_same (field_any _ _ _ _ _))
        | (go_at_call 88; exact aft_below (vspan_any _ _ _)))))
      refine wpQuiet_nil ?_
      rintro w2 ⟨⟨w3, hb3⟩, hw''⟩
      subst hw''
      go_wp2
      go_ret
      refine ⟨ret_bool ?_, ?_⟩
      · go_light; simp_all [validB, usesS, usesB]
      · exact hB.trans (hb3.mono hB.size)
    rcases hb9 : fieldB (hasB (usesS a5).data.toList 67) a11 1 999 with _ | _
    ·
      refine wp_region_after (by kernel_rfl) (by kernel_rfl) ?_
      repeat (go_big_quiet_step ((first
        | (go_at_call 84; refine aft_same (has_any (usesS a5) _ _ _ _ ?_); go_simp)
        | (go_at_call 87; exact aft_same (field_any _ _ _ _ _))
        | (go_at_call 88; exact aft_below (vspan_any _ _ _)))))
      refine wpQuiet_nil ?_
      rintro w2 ⟨⟨w3, hb3⟩, hw''⟩
      subst hw''
      go_wp2
      go_ret
      refine ⟨ret_bool ?_, ?_⟩
      · go_light; simp_all [validB, usesS, usesB]
      · exact hB.trans (hb3.mono hB.size)
    rcases hb10 : fieldB (hasB (usesS a5).data.toList 65) a12 0 1000000000 with _ | _
    ·
      refine wp_region_after (by kernel_rfl) (by kernel_rfl) ?_
      repeat (go_big_quiet_step ((first
        | (go_at_call 84; refine aft_same (has_any (usesS a5) _ _ _ _ ?_); go_simp)
        | (go_at_call 87; exact aft_same (field_any _ _ _ _ _))
        | (go_at_call 88; exact aft_below (vspan_any _ _ _)))))
      refine wpQuiet_nil ?_
      rintro w2 ⟨⟨w3, hb3⟩, hw''⟩
      subst hw''
      go_wp2
      go_ret
      refine ⟨ret_bool ?_, ?_⟩
      · go_light; simp_all [validB, usesS, usesB]
      · exact hB.trans (hb3.mono hB.size)
    rcases hb11 : fieldB (hasB (usesS a5).data.toList 82) a13 1 99 with _ | _
    ·
      refine wp_region_after (by kernel_rfl) (by kernel_rfl) ?_
      repeat (go_big_quiet_step ((first
        | (go_at_call 84; refine aft_same (has_any (usesS a5) _ _ _ _ ?_); go_simp)
        | (go_at_call 87; exact aft_same (field_any _ _ _ _ _))
        | (go_at_call 88; exact aft_below (vspan_any _ _ _)))))
      refine wpQuiet_nil ?_
      rintro w2 ⟨⟨w3, hb3⟩, hw''⟩
      subst hw''
      go_wp2
      go_ret
      refine ⟨ret_bool ?_, ?_⟩
      · go_light; simp_all [validB, usesS, usesB]
      · exact hB.trans (hb3.mono hB.size)
    ·
      refine wp_region_after (by kernel_rfl) (by kernel_rfl) ?_
      repeat (go_big_quiet_step ((first
        | (go_at_call 84; refine aft_same (has_any (usesS a5) _ _ _ _ ?_); go_simp)
        | (go_at_call 87; exact aft_same (field_any _ _ _ _ _))
        | (go_at_call 88; exact aft_below (vspan_any _ _ _)))))
      refine wpQuiet_nil ?_
      rintro w2 ⟨⟨w3, hb3⟩, hw''⟩
      subst hw''
      obtain ⟨hc3, hf3⟩ := bcell hb3
      have hB3 := hB.trans (hb3.mono hB.size)
      clear hb3 hf3 hB
      have hsp : 0 ≤ a7 ∧ a7 < a8 ∧ a8 ≤ 73049 := by simpa [spanB] using hb7
      obtain ⟨hs1, hs2, hs3⟩ := hsp
      go_wp2
      all_goals
        go_ret
        refine ⟨ret_bool ?_, hB3⟩
        go_light
        clear hc3 hc
        simp_all [validB, validTail, usesS, usesB]

end Go.Proofs.Ytkkjiihdmpngbaa
