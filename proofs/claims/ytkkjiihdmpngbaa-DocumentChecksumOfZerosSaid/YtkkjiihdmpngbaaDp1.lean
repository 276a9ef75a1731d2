/-
  The plain law of documents: bodies are read back; encodings; what decoding gives. No program in sight.
-/
import Derived.Test.YtkkjiihdmpngbaaDc2
import Derived.Test.YtkkjiihdmpngbaaCrc
import Derived.Test.YtkkjiihdmpngbaaRd2
namespace Go.Proofs.Ytkkjiihdmpngbaa
open Go.RowKit

theorem numB_be5 (x : Int) (h0 : 0 ≤ x) (h1 : x < 1099511627776) : numB (be 5 x) = x := by
  simp [be, numB, byteOf_toNat]; omega
theorem numB_be6 (x : Int) (h0 : 0 ≤ x) (h1 : x < 281474976710656) : numB (be 6 x) = x := by
  simp [be, numB, byteOf_toNat]; omega

theorem claim_back {x0 x1 x2 x3 x4 x5 : Int} (h : claimB x0 x1 x2 x3 x4 x5 = true) : claimOk (claimL x0 x1 x2 x3 x4 x5) = true ∧ claimI0 (claimL x0 x1 x2 x3 x4 x5) = x0 ∧ claimI1 (claimL x0 x1 x2 x3 x4 x5) = x1 ∧ claimI2 (claimL x0 x1 x2 x3 x4 x5) = x2 ∧ claimI3 (claimL x0 x1 x2 x3 x4 x5) = x3 ∧ claimI4 (claimL x0 x1 x2 x3 x4 x5) = x4 ∧ claimI5 (claimL x0 x1 x2 x3 x4 x5) = x5 := by
  have h0 := h
  simp only [claimB, btw, Bool.and_eq_true, decide_eq_true_eq] at h0
  have e0 : numB (List.take 1 (claimL x0 x1 x2 x3 x4 x5)) = x0 := by show numB (be 1 x0) = x0; exact numB_be1 _ (by omega) (by omega)
  have e1 : numB (List.take 2 (List.drop 1 (claimL x0 x1 x2 x3 x4 x5))) = x1 := by show numB (be 2 x1) = x1; exact numB_be2 _ (by omega) (by omega)
  have e2 : numB (List.take 1 (List.drop 2 (List.drop 1 (claimL x0 x1 x2 x3 x4 x5)))) = x2 := by show numB (be 1 x2) = x2; exact numB_be1 _ (by omega) (by omega)
  have e3 : numB (List.take 1 (List.drop 1 (List.drop 2 (List.drop 1 (claimL x0 x1 x2 x3 x4 x5))))) = x3 := by show numB (be 1 x3) = x3; exact numB_be1 _ (by omega) (by omega)
  have e4 : numB (List.take 1 (List.drop 1 (List.drop 1 (List.drop 2 (List.drop 1 (claimL x0 x1 x2 x3 x4 x5)))))) = x4 := by show numB (be 1 x4) = x4; exact numB_be1 _ (by omega) (by omega)
  have e5 : numB (List.take 3 (List.drop 1 (List.drop 1 (List.drop 1 (List.drop 2 (List.drop 1 (claimL x0 x1 x2 x3 x4 x5))))))) = x5 := by show numB (be 3 x5) = x5; exact numB_be3 _ (by omega) (by omega)
  have hok : claimOk (claimL x0 x1 x2 x3 x4 x5) = true := by unfold claimOk; rw [e0, e1, e2, e3, e4, e5, claimL_len, h]; rfl
  refine ⟨hok, ?_, ?_, ?_, ?_, ?_, ?_⟩
  · unfold claimI0; rw [if_pos hok, e0]
  · unfold claimI1; rw [if_pos hok, e1]
  · unfold claimI2; rw [if_pos hok, e2]
  · unfold claimI3; rw [if_pos hok, e3]
  · unfold claimI4; rw [if_pos hok, e4]
  · unfold claimI5; rw [if_pos hok, e5]
theorem claim_len {l : List UInt8} (h : claimOk l = true) : l.length = 9 := by
  unfold claimOk at h; simp only [Bool.and_eq_true, decide_eq_true_eq] at h; exact h.1
theorem claim_short {l : List UInt8} (h : l.length ≠ 9) : claimOk l = false := by simp [claimOk, h]
theorem request_back {x0 x1 x2 : Int} (h : requestB x0 x1 x2 = true) : requestOk (requestL x0 x1 x2) = true ∧ requestI0 (requestL x0 x1 x2) = x0 ∧ requestI1 (requestL x0 x1 x2) = x1 ∧ requestI2 (requestL x0 x1 x2) = x2 := by
  have h0 := h
  simp only [requestB, btw, Bool.and_eq_true, decide_eq_true_eq] at h0
  have e0 : numB (List.take 1 (requestL x0 x1 x2)) = x0 := by show numB (be 1 x0) = x0; exact numB_be1 _ (by omega) (by omega)
  have e1 : numB (List.take 2 (List.drop 1 (requestL x0 x1 x2))) = x1 := by show numB (be 2 x1) = x1; exact numB_be2 _ (by omega) (by omega)
  have e2 : numB (List.take 5 (List.drop 2 (List.drop 1 (requestL x0 x1 x2)))) = x2 := by show numB (be 5 x2) = x2; exact numB_be5 _ (by omega) (by omega)
  have hok : requestOk (requestL x0 x1 x2) = true := by unfold requestOk; rw [e0, e1, e2, requestL_len, h]; rfl
  refine ⟨hok, ?_, ?_, ?_⟩
  · unfold requestI0; rw [if_pos hok, e0]
  · unfold requestI1; rw [if_pos hok, e1]
  · unfold requestI2; rw [if_pos hok, e2]
theorem request_len {l : List UInt8} (h : requestOk l = true) : l.length = 8 := by
  unfold requestOk at h; simp only [Bool.and_eq_true, decide_eq_true_eq] at h; exact h.1
theorem request_short {l : List UInt8} (h : l.length ≠ 8) : requestOk l = false := by simp [requestOk, h]
theorem remittance_back {x0 x1 x2 x3 x4 x5 : Int} (h : remittanceB x0 x1 x2 x3 x4 x5 = true) : remittanceOk (remittanceL x0 x1 x2 x3 x4 x5) = true ∧ remittanceI0 (remittanceL x0 x1 x2 x3 x4 x5) = x0 ∧ remittanceI1 (remittanceL x0 x1 x2 x3 x4 x5) = x1 ∧ remittanceI2 (remittanceL x0 x1 x2 x3 x4 x5) = x2 ∧ remittanceI3 (remittanceL x0 x1 x2 x3 x4 x5) = x3 ∧ remittanceI4 (remittanceL x0 x1 x2 x3 x4 x5) = x4 ∧ remittanceI5 (remittanceL x0 x1 x2 x3 x4 x5) = x5 := by
  have h0 := h
  simp only [remittanceB, btw, Bool.and_eq_true, decide_eq_true_eq] at h0
  have e0 : numB (List.take 1 (remittanceL x0 x1 x2 x3 x4 x5)) = x0 := by show numB (be 1 x0) = x0; exact numB_be1 _ (by omega) (by omega)
  have e1 : numB (List.take 1 (List.drop 1 (remittanceL x0 x1 x2 x3 x4 x5))) = x1 := by show numB (be 1 x1) = x1; exact numB_be1 _ (by omega) (by omega)
  have e2 : numB (List.take 2 (List.drop 1 (List.drop 1 (remittanceL x0 x1 x2 x3 x4 x5)))) = x2 := by show numB (be 2 x2) = x2; exact numB_be2 _ (by omega) (by omega)
  have e3 : numB (List.take 2 (List.drop 2 (List.drop 1 (List.drop 1 (remittanceL x0 x1 x2 x3 x4 x5))))) = x3 := by show numB (be 2 x3) = x3; exact numB_be2 _ (by omega) (by omega)
  have e4 : numB (List.take 5 (List.drop 2 (List.drop 2 (List.drop 1 (List.drop 1 (remittanceL x0 x1 x2 x3 x4 x5)))))) = x4 := by show numB (be 5 x4) = x4; exact numB_be5 _ (by omega) (by omega)
  have e5 : numB (List.take 5 (List.drop 5 (List.drop 2 (List.drop 2 (List.drop 1 (List.drop 1 (remittanceL x0 x1 x2 x3 x4 x5))))))) = x5 := by show numB (be 5 x5) = x5; exact numB_be5 _ (by omega) (by omega)
  have hok : remittanceOk (remittanceL x0 x1 x2 x3 x4 x5) = true := by unfold remittanceOk; rw [e0, e1, e2, e3, e4, e5, remittanceL_len, h]; rfl
  refine ⟨hok, ?_, ?_, ?_, ?_, ?_, ?_⟩
  · unfold remittanceI0; rw [if_pos hok, e0]
  · unfold remittanceI1; rw [if_pos hok, e1]
  · unfold remittanceI2; rw [if_pos hok, e2]
  · unfold remittanceI3; rw [if_pos hok, e3]
  · unfold remittanceI4; rw [if_pos hok, e4]
  · unfold remittanceI5; rw [if_pos hok, e5]
theorem remittance_len {l : List UInt8} (h : remittanceOk l = true) : l.length = 16 := by
  unfold remittanceOk at h; simp only [Bool.and_eq_true, decide_eq_true_eq] at h; exact h.1
theorem remittance_short {l : List UInt8} (h : l.length ≠ 16) : remittanceOk l = false := by simp [remittanceOk, h]
theorem notice_back {x0 x1 x2 x3 : Int} (h : noticeB x0 x1 x2 x3 = true) : noticeOk (noticeL x0 x1 x2 x3) = true ∧ noticeI0 (noticeL x0 x1 x2 x3) = x0 ∧ noticeI1 (noticeL x0 x1 x2 x3) = x1 ∧ noticeI2 (noticeL x0 x1 x2 x3) = x2 ∧ noticeI3 (noticeL x0 x1 x2 x3) = x3 := by
  have h0 := h
  simp only [noticeB, btw, Bool.and_eq_true, decide_eq_true_eq] at h0
  have e0 : numB (List.take 1 (noticeL x0 x1 x2 x3)) = x0 := by show numB (be 1 x0) = x0; exact numB_be1 _ (by omega) (by omega)
  have e1 : numB (List.take 2 (List.drop 1 (noticeL x0 x1 x2 x3))) = x1 := by show numB (be 2 x1) = x1; exact numB_be2 _ (by omega) (by omega)
  have e2 : numB (List.take 5 (List.drop 2 (List.drop 1 (noticeL x0 x1 x2 x3)))) = x2 := by show numB (be 5 x2) = x2; exact numB_be5 _ (by omega) (by omega)
  have e3 : numB (List.take 6 (List.drop 5 (List.drop 2 (List.drop 1 (noticeL x0 x1 x2 x3))))) - 1000000000000 = x3 := by
    have : numB (List.take 6 (List.drop 5 (List.drop 2 (List.drop 1 (noticeL x0 x1 x2 x3))))) = x3 + 1000000000000 := by show numB (be 6 (x3 + 1000000000000)) = x3 + 1000000000000; exact numB_be6 _ (by omega) (by omega)
    omega
  have hok : noticeOk (noticeL x0 x1 x2 x3) = true := by unfold noticeOk; rw [e0, e1, e2, e3, noticeL_len, h]; rfl
  refine ⟨hok, ?_, ?_, ?_, ?_⟩
  · unfold noticeI0; rw [if_pos hok, e0]
  · unfold noticeI1; rw [if_pos hok, e1]
  · unfold noticeI2; rw [if_pos hok, e2]
  · unfold noticeI3; rw [if_pos hok, e3]
theorem notice_len {l : List UInt8} (h : noticeOk l = true) : l.length = 14 := by
  unfold noticeOk at h; simp only [Bool.and_eq_true, decide_eq_true_eq] at h; exact h.1
theorem notice_short {l : List UInt8} (h : l.length ≠ 14) : noticeOk l = false := by simp [noticeOk, h]

theorem fc_back {f : Fct} (h : validB f = true) : fcOk (factL f) = true ∧ fcR (factL f) = f := by
  obtain ⟨h1, h2, h3⟩ := rd_back h []
  rw [List.append_nil] at h1 h2 h3
  have hok : fcOk (factL f) = true := by simp [fcOk, h1, h3]
  exact ⟨hok, by simp [fcR, hok, h2]⟩
theorem fc_inv {l : List UInt8} (h : fcOk l = true) : validB (fcR l) = true ∧ l = factL (fcR l) := by
  have h' := h
  unfold fcOk at h
  simp only [Bool.and_eq_true, decide_eq_true_eq] at h
  obtain ⟨h1, h2⟩ := h
  have hs := rdOk_sh h1
  rcases hr : rdAll l with ⟨f, r, sh⟩
  rw [hr] at hs
  simp only at hs
  subst hs
  have h3 := h1
  unfold rdOk at h3
  rw [hr] at h3
  simp only [Bool.and_eq_true, decide_eq_true_eq, Bool.not_false, true_and] at h3
  unfold rdLen at h2
  rw [if_pos h1, hr] at h2
  simp only at h2
  have hr0 : r = [] := by
    have : r.length = 0 := by omega
    exact List.eq_nil_of_length_eq_zero this
  subst hr0
  have h4 := (rd_made hr).2 h3.1
  rw [List.append_nil] at h4
  have hf : fcR l = f := by simp [fcR, h', rdFact, h1, hr]
  rw [hf]
  exact ⟨h3.2, h4.symm⟩
theorem fc_len {l : List UInt8} (h : fcOk l = true) : 7 ≤ l.length ∧ l.length ≤ 43 := by
  have h1 := (fc_inv h).2
  have h2 := factL_len (fcR l)
  rw [← h1] at h2
  exact h2
theorem fc_more {f : Fct} (h : validB f = true) (c : UInt8) : fcOk (factL f ++ [c]) = false := by
  obtain ⟨h1, h2, h3⟩ := rd_back h [c]
  unfold fcOk
  rw [h3]
  have : ¬ ((factL f).length : Int) = ((factL f ++ [c]).length : Int) := by simp; omega
  simp only [this, decide_false, Bool.and_false]
theorem fc_cut {f : Fct} (h : validB f = true) : fcOk ((factL f).take ((factL f).length - 1)) = false := by
  have h1 := (factL_len f).1
  unfold fcOk
  rw [rd_cut h _ (by omega)]
  rfl

/-- Whether a body is one of a kind, of a sender. -/
def bodyB (k s : Int) (l : List UInt8) : Bool :=
  if k = 1 then fcOk l && ((fcR l).iss == s) else if k = 2 then claimOk l && (claimI0 l == s) else if k = 3 then requestOk l else if k = 4 then remittanceOk l && !(remittanceI0 l == s) else if k = 5 then noticeOk l else false
theorem bodyB_len {k s : Int} {l : List UInt8} (h : bodyB k s l = true) : 7 ≤ l.length ∧ l.length ≤ 43 := by
  unfold bodyB at h
  by_cases h1 : k = 1
  · rw [if_pos h1] at h; simp only [Bool.and_eq_true] at h; exact fc_len h.1
  rw [if_neg h1] at h
  by_cases h2 : k = 2
  · rw [if_pos h2] at h; simp only [Bool.and_eq_true] at h; have := claim_len h.1; omega
  rw [if_neg h2] at h
  by_cases h3 : k = 3
  · rw [if_pos h3] at h; have := request_len h; omega
  rw [if_neg h3] at h
  by_cases h4 : k = 4
  · rw [if_pos h4] at h; simp only [Bool.and_eq_true] at h; have := remittance_len h.1; omega
  rw [if_neg h4] at h
  by_cases h5 : k = 5
  · rw [if_pos h5] at h; have := notice_len h; omega
  rw [if_neg h5] at h
  cases h
/-- Whether a document is valid. -/
def docB (s n k p : Int) (l : List UInt8) : Bool := btw s 0 5 && btw n 1 999 && (decide (1 < n) || (p == 0)) && bodyB k s l
theorem docB_parts {s n k p : Int} {l : List UInt8} (h : docB s n k p l = true) : (0 ≤ s ∧ s ≤ 5) ∧ (1 ≤ n ∧ n ≤ 999) ∧ (1 < n ∨ p = 0) ∧ bodyB k s l = true := by
  simpa [docB, btw, and_assoc] using h
/-- The encoding of a document, without and with its checksum. -/
def encL (s n k p : Int) (l : List UInt8) : List UInt8 := [68, byteOf k, byteOf s] ++ be 2 n ++ be 4 p ++ be 2 (l.length : Int) ++ l
def encA (s n k p : Int) (l : List UInt8) : List UInt8 := encL s n k p l ++ be 4 (crcL (encL s n k p l) : Int)
def encO (s n k p : Int) (l : List UInt8) : List UInt8 := if docB s n k p l then encA s n k p l else []
theorem encL_len (s n k p : Int) (l : List UInt8) : (encL s n k p l).length = 11 + l.length := by simp [encL, be_length]; omega
theorem encA_len (s n k p : Int) (l : List UInt8) : (encA s n k p l).length = 15 + l.length := by simp [encA, be_length, encL_len]; omega

/-- What decoding reads. -/
def dS (l : List UInt8) : Int := numB (List.take 1 (List.drop 2 l))
def dK (l : List UInt8) : Int := numB (List.take 1 (List.drop 1 l))
def dN (l : List UInt8) : Int := numB (List.take 2 (List.drop 3 l))
def dP (l : List UInt8) : Int := numB (List.take 4 (List.drop 5 l))
def dM (l : List UInt8) : Int := numB (List.take 2 (List.drop 9 l))
def dBody (l : List UInt8) : List UInt8 := List.take (l.length - 15) (List.drop 11 l)
def dFront (l : List UInt8) : List UInt8 := List.take (l.length - 4) l
def dSum (l : List UInt8) : Int := numB (List.drop (l.length - 4) l)
def dOk (l : List UInt8) : Bool := decide (15 ≤ l.length) && (numB (List.take 1 l) == 68) && (dM l == (l.length : Int) - 15) && (dSum l == (crcL (dFront l) : Int)) && docB (dS l) (dN l) (dK l) (dP l) (dBody l)

theorem dFront_body {l : List UInt8} (h : 15 ≤ l.length) : dFront l = l.take 11 ++ dBody l := by
  unfold dFront dBody
  have e : l.length - 4 = 11 + (l.length - 15) := by omega
  rw [e, List.take_add]
theorem byteOf_numB1 (c : UInt8) : byteOf (numB [c]) = c := byteOf_eq _ _ (by have := c.toNat_lt; simp [numB]; omega)
theorem eleven {l : List UInt8} (h : 15 ≤ l.length) : ∃ b0 b1 b2 b3 b4 b5 b6 b7 b8 b9 b10 t, l = b0 :: b1 :: b2 :: b3 :: b4 :: b5 :: b6 :: b7 :: b8 :: b9 :: b10 :: t := by
  match l, h with
  | b0 :: b1 :: b2 :: b3 :: b4 :: b5 :: b6 :: b7 :: b8 :: b9 :: b10 :: t, _ => exact ⟨b0, b1, b2, b3, b4, b5, b6, b7, b8, b9, b10, t, rfl⟩
/-- What was read is what would be written, but for the checksum. -/
theorem dec_enc {l : List UInt8} (h : 15 ≤ l.length) (h0 : numB (List.take 1 l) = 68) (hm : dM l = (l.length : Int) - 15) : encL (dS l) (dN l) (dK l) (dP l) (dBody l) = dFront l := by
  rw [dFront_body h]
  have hb : ((dBody l).length : Int) = dM l := by
    rw [hm]; unfold dBody; simp; omega
  unfold encL
  rw [hb]
  generalize dBody l = B at *
  obtain ⟨b0, b1, b2, b3, b4, b5, b6, b7, b8, b9, b10, t, rfl⟩ := eleven h
  have e0 : b0 = 68 := by
    have h1 : (b0.toNat : Int) = 68 := by simpa [numB] using h0
    apply UInt8.toNat_inj.1
    show b0.toNat = 68
    omega
  have e1 : byteOf (dK (b0 :: b1 :: b2 :: b3 :: b4 :: b5 :: b6 :: b7 :: b8 :: b9 :: b10 :: t)) = b1 := byteOf_numB1 b1
  have e2 : byteOf (dS (b0 :: b1 :: b2 :: b3 :: b4 :: b5 :: b6 :: b7 :: b8 :: b9 :: b10 :: t)) = b2 := byteOf_numB1 b2
  have e3 : be 2 (dN (b0 :: b1 :: b2 :: b3 :: b4 :: b5 :: b6 :: b7 :: b8 :: b9 :: b10 :: t)) = [b3, b4] := be_numB2 b3 b4
  have e4 : be 4 (dP (b0 :: b1 :: b2 :: b3 :: b4 :: b5 :: b6 :: b7 :: b8 :: b9 :: b10 :: t)) = [b5, b6, b7, b8] := be_numB4 b5 b6 b7 b8
  have e5 : be 2 (dM (b0 :: b1 :: b2 :: b3 :: b4 :: b5 :: b6 :: b7 :: b8 :: b9 :: b10 :: t)) = [b9, b10] := be_numB2 b9 b10
  rw [e1, e2, e3, e4, e5, e0]
  rfl
theorem dec_ref {l : List UInt8} (h : 15 ≤ l.length) (h0 : numB (List.take 1 l) = 68) (hm : dM l = (l.length : Int) - 15) : (encA (dS l) (dN l) (dK l) (dP l) (dBody l) = l) ↔ dSum l = (crcL (dFront l) : Int) := by
  unfold encA
  rw [dec_enc h h0 hm]
  have hl4 : (List.drop (l.length - 4) l).length = 4 := by simp; omega
  have hc := crcL_lt (dFront l)
  constructor
  · intro he
    have h1 : List.drop (l.length - 4) l = be 4 (crcL (dFront l) : Int) := by
      have h2 : dFront l ++ be 4 (crcL (dFront l) : Int) = dFront l ++ List.drop (l.length - 4) l := by
        rw [he]; unfold dFront; rw [List.take_append_drop]
      exact (List.append_cancel_left h2).symm
    unfold dSum
    rw [h1, numB_be4 _ (by omega) (by omega)]
  · intro he
    have h1 : be 4 (dSum l) = List.drop (l.length - 4) l := be_numB 4 _ hl4 (by omega) (by omega)
    rw [← he, h1]
    unfold dFront
    rw [List.take_append_drop]

theorem enc_head (s n k p : Int) (l t : List UInt8) : numB (List.take 1 (encL s n k p l ++ t)) = 68 ∧ dS (encL s n k p l ++ t) = numB [byteOf s] ∧ dK (encL s n k p l ++ t) = numB [byteOf k] ∧ dN (encL s n k p l ++ t) = numB (be 2 n) ∧ dP (encL s n k p l ++ t) = numB (be 4 p) ∧ dM (encL s n k p l ++ t) = numB (be 2 (l.length : Int)) := by
  unfold dS dK dN dP dM encL
  refine ⟨rfl, rfl, rfl, rfl, rfl, rfl⟩
/-- The numbers of a document fit. -/
theorem doc_bd {s n k p : Int} {l : List UInt8} (h : docB s n k p l = true) (hp0 : 0 ≤ p) (hp1 : p < 4294967296) (t : List UInt8) :
    dS (encL s n k p l ++ t) = s ∧ dK (encL s n k p l ++ t) = k ∧ dN (encL s n k p l ++ t) = n ∧ dP (encL s n k p l ++ t) = p ∧ dM (encL s n k p l ++ t) = l.length := by
  obtain ⟨hs, hn, _, hb⟩ := docB_parts h
  have hlen := bodyB_len hb
  have hk : 1 ≤ k ∧ k ≤ 5 := by
    unfold bodyB at hb
    by_cases h1 : k = 1
    · omega
    rw [if_neg h1] at hb
    by_cases h2 : k = 2
    · omega
    rw [if_neg h2] at hb
    by_cases h3 : k = 3
    · omega
    rw [if_neg h3] at hb
    by_cases h4 : k = 4
    · omega
    rw [if_neg h4] at hb
    by_cases h5 : k = 5
    · omega
    rw [if_neg h5] at hb
    cases hb
  obtain ⟨_, e1, e2, e3, e4, e5⟩ := enc_head s n k p l t
  have b1 : ∀ x : Int, 0 ≤ x → x < 256 → numB [byteOf x] = x := by
    intro x h0 h1
    have := byteOf_toNat x
    simp [numB]
    omega
  rw [e1, e2, e3, e4, e5, b1 s (by omega) (by omega), b1 k (by omega) (by omega), numB_be2 n (by omega) (by omega), numB_be4 p hp0 hp1, numB_be2 _ (by omega) (by omega)]
  exact ⟨rfl, rfl, rfl, rfl, rfl⟩
theorem encA_front (s n k p : Int) (l : List UInt8) : dFront (encA s n k p l) = encL s n k p l := by
  unfold dFront
  rw [encA_len]
  have h := encL_len s n k p l
  rw [show 15 + l.length - 4 = (encL s n k p l).length by omega]
  unfold encA
  simp
theorem encA_sum (s n k p : Int) (l : List UInt8) : dSum (encA s n k p l) = crcL (encL s n k p l) := by
  unfold dSum
  rw [encA_len]
  have h := encL_len s n k p l
  have hc := crcL_lt (encL s n k p l)
  rw [show 15 + l.length - 4 = (encL s n k p l).length by omega]
  unfold encA
  rw [List.drop_left, numB_be4 _ (by omega) (by omega)]
theorem encL_drop (s n k p : Int) (l t : List UInt8) : List.drop 11 (encL s n k p l ++ t) = l ++ t := by unfold encL; rfl
theorem encA_body (s n k p : Int) (l : List UInt8) : dBody (encA s n k p l) = l := by
  unfold dBody
  rw [encA_len]
  unfold encA
  rw [encL_drop, show 15 + l.length - 15 = l.length by omega]
  simp
/-- Decoding an encoding gives the document. -/
theorem doc_back {s n k p : Int} {l : List UInt8} (h : docB s n k p l = true) (hp0 : 0 ≤ p) (hp1 : p < 4294967296) :
    dOk (encA s n k p l) = true ∧ dS (encA s n k p l) = s ∧ dK (encA s n k p l) = k ∧ dN (encA s n k p l) = n ∧ dP (encA s n k p l) = p ∧ dBody (encA s n k p l) = l := by
  obtain ⟨e1, e2, e3, e4, e5⟩ := doc_bd h hp0 hp1 (be 4 (crcL (encL s n k p l) : Int))
  have e0 := (enc_head s n k p l (be 4 (crcL (encL s n k p l) : Int))).1
  change dS (encA s n k p l) = s at e1
  change dK (encA s n k p l) = k at e2
  change dN (encA s n k p l) = n at e3
  change dP (encA s n k p l) = p at e4
  change dM (encA s n k p l) = l.length at e5
  change numB (List.take 1 (encA s n k p l)) = 68 at e0
  refine ⟨?_, e1, e2, e3, e4, encA_body s n k p l⟩
  unfold dOk
  rw [e0, e1, e2, e3, e4, e5, encA_body, encA_sum, encA_front, h, encA_len]
  have : ((l.length : Int) == ((15 + l.length : Nat) : Int) - 15) = true := beq_iff_eq.2 (by omega)
  rw [this]
  simp
/-- Another length is no encoding. -/
theorem doc_cut {s n k p : Int} {l m : List UInt8} (h : docB s n k p l = true) (hm : m.take 11 = (encA s n k p l).take 11) (hne : m.length ≠ (encA s n k p l).length) : dOk m = false := by
  obtain ⟨_, _, hn, hb⟩ := docB_parts h
  have hlen := bodyB_len hb
  rw [encA_len] at hne
  by_cases h15 : 15 ≤ m.length
  · have hM : dM m = dM (encA s n k p l) := by
      unfold dM
      have e : ∀ x : List UInt8, List.take 2 (List.drop 9 x) = List.drop 9 (List.take 11 x) := by intro x; rw [List.drop_take]
      rw [e, e, hm]
    have e5 : dM (encA s n k p l) = numB (be 2 (l.length : Int)) := (enc_head s n k p l _).2.2.2.2.2
    rw [numB_be2 _ (by omega) (by omega)] at e5
    have : (dM m == (m.length : Int) - 15) = false := beq_eq_false_iff_ne.2 (by omega)
    simp [dOk, this]
  · simp [dOk, h15]
/-- One changed byte is no encoding. -/
theorem doc_byte (m : List UInt8) (i : Nat) (hi : i < m.length) (c : UInt8) (hc : c ≠ m[i]) (h15 : 15 ≤ m.length) (hs : dSum m = (crcL (dFront m) : Int)) : dOk (m.set i c) = false := by
  have hlen : (m.set i c).length = m.length := by simp
  have hcl := crcL_lt (dFront m)
  have hne : dSum (m.set i c) ≠ (crcL (dFront (m.set i c)) : Int) := by
    by_cases hif : i < m.length - 4
    · have e1 : dSum (m.set i c) = dSum m := by
        unfold dSum
        rw [hlen, List.drop_set_of_lt hif]
      have hfl : i < (dFront m).length := by unfold dFront; simp; omega
      have e2 : dFront (m.set i c) = (dFront m).set i c := by
        unfold dFront
        rw [hlen, List.take_set]
      rw [e1, hs, e2]
      intro he
      have he' : crcL (dFront m) = crcL ((dFront m).set i c) := by omega
      have hg : (dFront m)[i] = m[i] := List.getElem_take
      have s1 : dFront m = (dFront m).take i ++ (dFront m)[i] :: (dFront m).drop (i + 1) := by simp
      have s2 : (dFront m).set i c = (dFront m).take i ++ c :: (dFront m).drop (i + 1) := List.set_eq_take_append_cons_drop.trans (if_pos hfl)
      rw [s2] at he'
      rw [hg] at s1
      have he2 : crcL ((dFront m).take i ++ m[i] :: (dFront m).drop (i + 1)) = crcL ((dFront m).take i ++ c :: (dFront m).drop (i + 1)) := by rw [← s1]; exact he'
      exact hc (crcL_byte _ _ _ _ he2).symm
    · have e2 : dFront (m.set i c) = dFront m := by
        unfold dFront
        rw [hlen, List.take_set_of_le (by omega)]
      rw [e2, ← hs]
      unfold dSum
      rw [hlen]
      intro he
      have l1 : (List.drop (m.length - 4) m).length = 4 := by simp; omega
      have l2 : (List.drop (m.length - 4) (m.set i c)).length = 4 := by simp; omega
      have he2 := congrArg (be 4) he
      rw [be_numB 4 _ l1 (by omega) (by omega), be_numB 4 _ l2 (by omega) (by omega)] at he2
      have h3 : (List.drop (m.length - 4) (m.set i c))[i - (m.length - 4)]? = (List.drop (m.length - 4) m)[i - (m.length - 4)]? := by rw [he2]
      rw [List.getElem?_drop, List.getElem?_drop, show m.length - 4 + (i - (m.length - 4)) = i by omega, List.getElem?_set_self hi, List.getElem?_eq_getElem hi] at h3
      injection h3 with h3
      exact hc h3
  have : (dSum (m.set i c) == (crcL (dFront (m.set i c)) : Int)) = false := beq_eq_false_iff_ne.2 hne
  simp [dOk, this]
/-- What the reference's decoding finds. -/
theorem dOk_ref {l : List UInt8} (h : 15 ≤ l.length) (h0 : numB (List.take 1 l) = 68) (hm : dM l = (l.length : Int) - 15) : dOk l = (docB (dS l) (dN l) (dK l) (dP l) (dBody l) && decide (encO (dS l) (dN l) (dK l) (dP l) (dBody l) = l)) := by
  have h1 := dec_ref h h0 hm
  unfold encO dOk
  rcases hd : docB (dS l) (dN l) (dK l) (dP l) (dBody l) with _ | _
  · simp
  · by_cases hs : dSum l = (crcL (dFront l) : Int)
    · simp [h, h0, hm, hs, h1.2 hs]
    · have : ¬ encA (dS l) (dN l) (dK l) (dP l) (dBody l) = l := fun he => hs (h1.1 he)
      simp [hs, this]
theorem dOk_short {l : List UInt8} (h : ¬ 15 ≤ l.length) : dOk l = false := by simp [dOk, h]
theorem dOk_head {l : List UInt8} (h : numB (List.take 1 l) ≠ 68) : dOk l = false := by
  have : (numB (List.take 1 l) == 68) = false := beq_eq_false_iff_ne.2 h
  simp [dOk, this]
theorem dOk_m {l : List UInt8} (h : dM l ≠ (l.length : Int) - 15) : dOk l = false := by
  have : (dM l == (l.length : Int) - 15) = false := beq_eq_false_iff_ne.2 h
  simp [dOk, this]
end Go.Proofs.Ytkkjiihdmpngbaa