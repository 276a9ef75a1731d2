/-
  Reading by the reference: what was read is made again and compared. No program in sight.
-/
import Derived.Test.YtkkjiihdmpngbaaRd1
namespace Go.Proofs.Ytkkjiihdmpngbaa
open Go.RowKit

theorem tk_long (k : Nat) (l : List UInt8) (h : k ≤ l.length) : tkVal k l = numB (l.take k) ∧ tkRest k l = l.drop k ∧ ∀ sh, tkShort k l sh = sh := by
  have h2 : ¬ l.length < k := by omega
  simp [tkVal, tkRest, tkShort, h2]
theorem rdHead_len {l : List UInt8} (h : (rdHead l).sh = false) : 7 ≤ l.length := by
  unfold rdHead at h
  dsimp only at h
  unfold rdSh at h
  obtain ⟨h6, h'⟩ := tkShort_false h
  obtain ⟨h5, h'⟩ := tkShort_false h'
  obtain ⟨h4, h'⟩ := tkShort_false h'
  obtain ⟨h3, h'⟩ := tkShort_false h'
  obtain ⟨h2, h'⟩ := tkShort_false h'
  obtain ⟨h1, _⟩ := tkShort_false h'
  have e1 : (rd1 l).length = l.length - 1 := by unfold rd1; rw [(tk_long 1 l h1).2.1, List.length_drop]
  have e2 : (rd2 l).length = (rd1 l).length - 2 := by unfold rd2; rw [(tk_long 2 _ h2).2.1, List.length_drop]
  have e3 : (rd3 l).length = (rd2 l).length - 1 := by unfold rd3; rw [(tk_long 1 _ h3).2.1, List.length_drop]
  have e4 : (rd4 l).length = (rd3 l).length - 1 := by unfold rd4; rw [(tk_long 1 _ h4).2.1, List.length_drop]
  have e5 : (rd5 l).length = (rd4 l).length - 1 := by unfold rd5; rw [(tk_long 1 _ h5).2.1, List.length_drop]
  omega
theorem rdOk_sh {l : List UInt8} (h : rdOk l = true) : (rdAll l).sh = false := by
  unfold rdOk at h
  cases hs : (rdAll l).sh
  · rfl
  · rw [hs] at h; simp at h
theorem rdOk_of_sh {l : List UInt8} (h : (rdAll l).sh = true) : rdOk l = false := by
  unfold rdOk; rw [h]; simp
theorem rdOk_len {l : List UInt8} (h : l.length < 7) : rdOk l = false := by
  cases hk : rdOk l
  · rfl
  · have h1 := rdOk_sh hk
    unfold rdAll at h1
    have := rdHead_len (rdFold_more _ _ [] h1).1
    omega
/-- Too few bytes at a letter: nothing is read. -/
theorem rdOk_cut {l : List UInt8} {u : List UInt8} {c : UInt8} {v : List UInt8} (hu : usesL (rdKind l) = u ++ c :: v) (h : (rdLetter (u.foldl rdLetter (rdHead l)) c).sh = true) : rdOk l = false := by
  apply rdOk_of_sh
  unfold rdAll
  rw [hu, List.foldl_append, List.foldl_cons]
  cases hs : (v.foldl rdLetter (rdLetter (u.foldl rdLetter (rdHead l)) c)).sh
  · have := (rdFold_more _ _ [] hs).1
    rw [h] at this
    cases this
  · rfl
theorem rdHead_seven (b0 b1 b2 b3 b4 b5 b6 : UInt8) (t : List UInt8) : rdKind (b0 :: b1 :: b2 :: b3 :: b4 :: b5 :: b6 :: t) = (b6.toNat : Int) ∧ rdGone (b0 :: b1 :: b2 :: b3 :: b4 :: b5 :: b6 :: t) = (b4.toNat : Int) ∧
    rdHead (b0 :: b1 :: b2 :: b3 :: b4 :: b5 :: b6 :: t) = ⟨⟨(b0.toNat : Int), numB [b1, b2], (b3.toNat : Int), (b4.toNat : Int) == 1, (b5.toNat : Int), (b6.toNat : Int), 0, 0, 0, 0, 0, 0, 0, 0⟩, t, false⟩ := by
  have n1 : ∀ b : UInt8, numB [b] = (b.toNat : Int) := fun b => by simp [numB]
  obtain ⟨a1, c1, s1⟩ := tk_app 1 [b0] (b1 :: b2 :: b3 :: b4 :: b5 :: b6 :: t) rfl
  obtain ⟨a2, c2, s2⟩ := tk_app 2 [b1, b2] (b3 :: b4 :: b5 :: b6 :: t) rfl
  obtain ⟨a3, c3, s3⟩ := tk_app 1 [b3] (b4 :: b5 :: b6 :: t) rfl
  obtain ⟨a4, c4, s4⟩ := tk_app 1 [b4] (b5 :: b6 :: t) rfl
  obtain ⟨a5, c5, s5⟩ := tk_app 1 [b5] (b6 :: t) rfl
  obtain ⟨a6, c6, s6⟩ := tk_app 1 [b6] t rfl
  simp only [List.cons_append, List.nil_append, n1] at a1 a2 a3 a4 a5 a6 c1 c2 c3 c4 c5 c6 s1 s2 s3 s4 s5 s6
  simp only [rdKind, rdGone, rdHead, rdSh, rd6, rd5, rd4, rd3, rd2, rd1, a1, a2, a3, a4, a5, a6, c1, c2, c3, c4, c5, c6, s1, s2, s3, s4, s5, s6, and_self]
theorem seven {l : List UInt8} (h : 7 ≤ l.length) : ∃ b0 b1 b2 b3 b4 b5 b6 t, l = b0 :: b1 :: b2 :: b3 :: b4 :: b5 :: b6 :: t := by
  match l, h with
  | b0 :: b1 :: b2 :: b3 :: b4 :: b5 :: b6 :: t, _ => exact ⟨b0, b1, b2, b3, b4, b5, b6, t, rfl⟩
/-- Letters leave the head alone. -/
theorem rdLetter_head (s : RdS) (c : UInt8) : headB (rdLetter s c).f = headB s.f ∧ (rdLetter s c).f.kind = s.f.kind := by
  by_cases d1 : c = 83
  · subst d1; exact ⟨rfl, rfl⟩
  by_cases d2 : c = 80
  · subst d2; exact ⟨rfl, rfl⟩
  by_cases d3 : c = 84
  · subst d3; exact ⟨rfl, rfl⟩
  by_cases d4 : c = 72
  · subst d4; exact ⟨rfl, rfl⟩
  by_cases d5 : c = 67
  · subst d5; exact ⟨rfl, rfl⟩
  by_cases d6 : c = 65
  · subst d6; exact ⟨rfl, rfl⟩
  by_cases d7 : c = 82
  · subst d7; exact ⟨rfl, rfl⟩
  simp [rdLetter, d1, d2, d3, d4, d5, d6, d7]
theorem rdFold_head (u : List UInt8) : ∀ s : RdS, headB (u.foldl rdLetter s).f = headB s.f ∧ (u.foldl rdLetter s).f.kind = s.f.kind := by
  induction u with
  | nil => intro s; exact ⟨rfl, rfl⟩
  | cons c u ih =>
    intro s
    rw [List.foldl_cons]
    obtain ⟨h1, h2⟩ := ih (rdLetter s c)
    obtain ⟨h3, h4⟩ := rdLetter_head s c
    exact ⟨h1.trans h3, h2.trans h4⟩
theorem be1_toNat (b : UInt8) : be 1 (b.toNat : Int) = [b] := by
  have := be_numB1 b
  simpa [numB] using this
/-- What was read is what would be written, if the byte for 'withdrawn' is 0 or 1. -/
theorem rd_made {l r : List UInt8} {f : Fct} (h : rdAll l = ⟨f, r, false⟩) : factL f ++ r = l ↔ rdGone l ≤ 1 := by
  have hsh : (rdAll l).sh = false := by rw [h]
  unfold rdAll at h hsh
  obtain ⟨h0, hl⟩ := rdFold_inv _ (rdHead l) (uses_nodup _) hsh
  obtain ⟨hh, hk⟩ := rdFold_head (usesL (rdKind l)) (rdHead l)
  rw [h] at hl hh hk
  simp only at hl hh hk
  obtain ⟨b0, b1, b2, b3, b4, b5, b6, t, rfl⟩ := seven (rdHead_len h0)
  obtain ⟨e1, e2, e3⟩ := rdHead_seven b0 b1 b2 b3 b4 b5 b6 t
  rw [e3] at hl hh hk
  rw [e1] at hl
  simp only at hl hh hk
  have hfl : factL f ++ r = headB f ++ t := by
    unfold factL
    rw [hk, List.append_assoc, ← hl]
  rw [hfl, hh, e2]
  have c2 : be 2 (numB [b1, b2]) = [b1, b2] := be_numB2 b1 b2
  unfold headB
  simp only [be1_toNat, c2]
  have hb := b4.toNat_lt
  have hz : be 1 (b01 ((b4.toNat : Int) == 1)) = [byteOf (b01 ((b4.toNat : Int) == 1))] := by simp [be]
  rw [hz]
  simp only [List.cons_append, List.nil_append, List.cons.injEq, true_and, and_true]
  constructor
  · intro he
    rw [← he]
    have := byteOf_toNat (b01 ((b4.toNat : Int) == 1))
    have h1 : b01 ((b4.toNat : Int) == 1) = 0 ∨ b01 ((b4.toNat : Int) == 1) = 1 := by unfold b01; split <;> simp
    rcases h1 with h1 | h1 <;> rw [h1] at this ⊢ <;> omega
  · intro hle
    have h1 : b4.toNat = 0 ∨ b4.toNat = 1 := by omega
    apply byteOf_eq
    rcases h1 with h1 | h1 <;> rw [h1] <;> rfl
theorem rd_ref {l : List UInt8} {f : Fct} {n : Nat} (h : rdAll l = ⟨f, l.drop n, false⟩) : rdOk l = (validB f && decide (factL f = l.take n)) := by
  have h1 := rd_made h
  have h2 : factL f ++ l.drop n = l ↔ factL f = l.take n := by
    constructor
    · intro he
      have h3 : factL f ++ l.drop n = l.take n ++ l.drop n := by rw [he, List.take_append_drop]
      exact List.append_cancel_right h3
    · intro he
      rw [he, List.take_append_drop]
  unfold rdOk
  rw [h]
  by_cases hg : rdGone l ≤ 1
  · have : factL f = l.take n := h2.1 (h1.2 hg)
    simp [hg, this]
  · have : ¬ factL f = l.take n := fun he => hg (h1.1 (h2.2 he))
    simp [hg, this]
end Go.Proofs.Ytkkjiihdmpngbaa
