/-
  What reading does to what was written, and the other way round: no program in sight.
-/
import Derived.Test.YtkkjiihdmpngbaaFe2
namespace Go.Proofs.Ytkkjiihdmpngbaa
open Go.RowKit

theorem byteOf_eq (x : Int) (c : UInt8) (h : x % 256 = (c.toNat : Int)) : byteOf x = c := by
  apply UInt8.toNat_inj.1
  have := byteOf_toNat x
  omega
theorem be_numB1 (a : UInt8) : be 1 (numB [a]) = [a] := by
  have ha := a.toNat_lt
  simp only [be, numB, List.foldl_cons, List.foldl_nil]
  rw [byteOf_eq _ a (by simp; omega)]
theorem be_numB2 (a b : UInt8) : be 2 (numB [a, b]) = [a, b] := by
  have ha := a.toNat_lt
  have hb := b.toNat_lt
  simp only [be, numB, List.foldl_cons, List.foldl_nil]
  rw [byteOf_eq _ a (by simp; omega), byteOf_eq _ b (by simp; omega)]
theorem be_numB3 (a b c : UInt8) : be 3 (numB [a, b, c]) = [a, b, c] := by
  have ha := a.toNat_lt
  have hb := b.toNat_lt
  have hc := c.toNat_lt
  simp only [be, numB, List.foldl_cons, List.foldl_nil]
  rw [byteOf_eq _ a (by simp; omega), byteOf_eq _ b (by simp; omega), byteOf_eq _ c (by simp; omega)]
theorem be_numB4 (a b c d : UInt8) : be 4 (numB [a, b, c, d]) = [a, b, c, d] := by
  have ha := a.toNat_lt
  have hb := b.toNat_lt
  have hc := c.toNat_lt
  have hd := d.toNat_lt
  simp only [be, numB, List.foldl_cons, List.foldl_nil]
  rw [byteOf_eq _ a (by simp; omega), byteOf_eq _ b (by simp; omega), byteOf_eq _ c (by simp; omega), byteOf_eq _ d (by simp; omega)]
theorem be_numB (k : Nat) (l : List UInt8) (h : l.length = k) (h1 : 1 ≤ k) (h4 : k ≤ 4) : be k (numB l) = l := by
  match l, h with
  | [a], h => simp at h; subst h; exact be_numB1 a
  | [a, b], h => simp at h; subst h; exact be_numB2 a b
  | [a, b, c], h => simp at h; subst h; exact be_numB3 a b c
  | [a, b, c, d], h => simp at h; subst h; exact be_numB4 a b c d
  | [], h => simp at h; omega
  | _ :: _ :: _ :: _ :: _ :: _, h => simp at h; omega
theorem numB_be1 (x : Int) (h0 : 0 ≤ x) (h1 : x < 256) : numB (be 1 x) = x := by
  simp [be, numB, byteOf_toNat]; omega
theorem numB_be2 (x : Int) (h0 : 0 ≤ x) (h1 : x < 65536) : numB (be 2 x) = x := by
  simp [be, numB, byteOf_toNat]; omega
theorem numB_be3 (x : Int) (h0 : 0 ≤ x) (h1 : x < 16777216) : numB (be 3 x) = x := by
  simp [be, numB, byteOf_toNat]; omega
theorem numB_be4 (x : Int) (h0 : 0 ≤ x) (h1 : x < 4294967296) : numB (be 4 x) = x := by
  simp [be, numB, byteOf_toNat]; omega

theorem tk_app (k : Nat) (p t : List UInt8) (h : p.length = k) : tkVal k (p ++ t) = numB p ∧ tkRest k (p ++ t) = t ∧ ∀ sh, tkShort k (p ++ t) sh = sh := by
  subst h
  have h1 : ¬ p.length + t.length < p.length := by omega
  simp [tkVal, tkRest, tkShort, h1]
theorem tk_more (k : Nat) (l t : List UInt8) (h : k ≤ l.length) : tkVal k (l ++ t) = tkVal k l ∧ tkRest k (l ++ t) = tkRest k l ++ t ∧ ∀ sh, tkShort k (l ++ t) sh = tkShort k l sh := by
  have h1 : ¬ l.length + t.length < k := by omega
  have h2 : ¬ l.length < k := by omega
  simp [tkVal, tkRest, tkShort, h1, h2, List.take_append_of_le_length h, List.drop_append_of_le_length h]
theorem tkShort_false {k : Nat} {l : List UInt8} {sh : Bool} (h : tkShort k l sh = false) : k ≤ l.length ∧ sh = false := by
  unfold tkShort at h
  split at h
  · cases h
  · exact ⟨by omega, h⟩
/-- What was taken is the beginning. -/
theorem tk_inv {k : Nat} {l : List UInt8} {sh : Bool} (h : tkShort k l sh = false) (h1 : 1 ≤ k) (h4 : k ≤ 4) : be k (tkVal k l) ++ tkRest k l = l ∧ sh = false := by
  obtain ⟨hk, hs⟩ := tkShort_false h
  have h2 : ¬ l.length < k := by omega
  refine ⟨?_, hs⟩
  simp only [tkVal, tkRest, if_neg h2]
  rw [be_numB k (l.take k) (by simp; omega) h1 h4, List.take_append_drop]

/-- Reading what begins like l goes like reading l, unless there was too little. -/
theorem rdLetter_more (s : RdS) (c : UInt8) (t : List UInt8) (h : (rdLetter s c).sh = false) : s.sh = false ∧ rdLetter ⟨s.f, s.l ++ t, s.sh⟩ c = ⟨(rdLetter s c).f, (rdLetter s c).l ++ t, false⟩ := by
  obtain ⟨f, l, sh⟩ := s
  unfold rdLetter at h ⊢
  by_cases c1 : c = 83
  · simp only [if_pos c1] at h ⊢
    obtain ⟨hk, rfl⟩ := tkShort_false h
    obtain ⟨e1, e2, e3⟩ := tk_more _ l t hk
    simp [e1, e2, e3, h]
  by_cases c2 : c = 80
  · simp only [if_neg c1, if_pos c2] at h ⊢
    obtain ⟨hk, h0⟩ := tkShort_false h
    obtain ⟨hk0, rfl⟩ := tkShort_false h0
    obtain ⟨e1, e2, e3⟩ := tk_more _ l t hk0
    obtain ⟨d1, d2, d3⟩ := tk_more _ _ t hk
    simp [e1, e2, e3, d1, d2, d3, h]
  by_cases c3 : c = 84
  · simp only [if_neg c1, if_neg c2, if_pos c3] at h ⊢
    obtain ⟨hk, rfl⟩ := tkShort_false h
    obtain ⟨e1, e2, e3⟩ := tk_more _ l t hk
    simp [e1, e2, e3, h]
  by_cases c4 : c = 72
  · simp only [if_neg c1, if_neg c2, if_neg c3, if_pos c4] at h ⊢
    obtain ⟨hk, rfl⟩ := tkShort_false h
    obtain ⟨e1, e2, e3⟩ := tk_more _ l t hk
    simp [e1, e2, e3, h]
  by_cases c5 : c = 67
  · simp only [if_neg c1, if_neg c2, if_neg c3, if_neg c4, if_pos c5] at h ⊢
    obtain ⟨hk, rfl⟩ := tkShort_false h
    obtain ⟨e1, e2, e3⟩ := tk_more _ l t hk
    simp [e1, e2, e3, h]
  by_cases c6 : c = 65
  · simp only [if_neg c1, if_neg c2, if_neg c3, if_neg c4, if_neg c5, if_pos c6] at h ⊢
    obtain ⟨hk, rfl⟩ := tkShort_false h
    obtain ⟨e1, e2, e3⟩ := tk_more _ l t hk
    simp [e1, e2, e3, h]
  by_cases c7 : c = 82
  · simp only [if_neg c1, if_neg c2, if_neg c3, if_neg c4, if_neg c5, if_neg c6, if_pos c7] at h ⊢
    obtain ⟨hk, rfl⟩ := tkShort_false h
    obtain ⟨e1, e2, e3⟩ := tk_more _ l t hk
    simp [e1, e2, e3, h]
  simp only [if_neg c1, if_neg c2, if_neg c3, if_neg c4, if_neg c5, if_neg c6, if_neg c7] at h ⊢
  exact ⟨h, by rw [h]⟩
theorem rdFold_more (u : List UInt8) : ∀ (s : RdS) (t : List UInt8), (u.foldl rdLetter s).sh = false → s.sh = false ∧ u.foldl rdLetter ⟨s.f, s.l ++ t, s.sh⟩ = ⟨(u.foldl rdLetter s).f, (u.foldl rdLetter s).l ++ t, false⟩ := by
  induction u with
  | nil => intro s t h; exact ⟨h, by simp only [List.foldl_nil] at h ⊢; rw [h]⟩
  | cons c u ih =>
    intro s t h
    rw [List.foldl_cons] at h
    obtain ⟨h1, h2⟩ := ih (rdLetter s c) t h
    obtain ⟨h3, h4⟩ := rdLetter_more s c t h1
    refine ⟨h3, ?_⟩
    rw [List.foldl_cons, List.foldl_cons, h4]
    rw [h1] at h2
    exact h2
theorem rdHead_more (l t : List UInt8) (h : (rdHead l).sh = false) : rdKind (l ++ t) = rdKind l ∧ rdGone (l ++ t) = rdGone l ∧ rdHead (l ++ t) = ⟨(rdHead l).f, (rdHead l).l ++ t, (rdHead l).sh⟩ := by
  unfold rdHead at h
  dsimp only at h
  unfold rdSh at h
  obtain ⟨h6, h'⟩ := tkShort_false h
  obtain ⟨h5, h'⟩ := tkShort_false h'
  obtain ⟨h4, h'⟩ := tkShort_false h'
  obtain ⟨h3, h'⟩ := tkShort_false h'
  obtain ⟨h2, h'⟩ := tkShort_false h'
  obtain ⟨h1, _⟩ := tkShort_false h'
  clear h'
  obtain ⟨a1, b1, s1⟩ := tk_more 1 l t h1
  obtain ⟨a2, b2, s2⟩ := tk_more 2 (rd1 l) t h2
  obtain ⟨a3, b3, s3⟩ := tk_more 1 (rd2 l) t h3
  obtain ⟨a4, b4, s4⟩ := tk_more 1 (rd3 l) t h4
  obtain ⟨a5, b5, s5⟩ := tk_more 1 (rd4 l) t h5
  obtain ⟨a6, b6, s6⟩ := tk_more 1 (rd5 l) t h6
  have e1 : rd1 (l ++ t) = rd1 l ++ t := b1
  have e2 : rd2 (l ++ t) = rd2 l ++ t := by unfold rd2; rw [e1]; exact b2
  have e3 : rd3 (l ++ t) = rd3 l ++ t := by unfold rd3; rw [e2]; exact b3
  have e4 : rd4 (l ++ t) = rd4 l ++ t := by unfold rd4; rw [e3]; exact b4
  have e5 : rd5 (l ++ t) = rd5 l ++ t := by unfold rd5; rw [e4]; exact b5
  have e6 : rd6 (l ++ t) = rd6 l ++ t := by unfold rd6; rw [e5]; exact b6
  have k1 : rdKind (l ++ t) = rdKind l := by unfold rdKind; rw [e5]; exact a6
  have k2 : rdGone (l ++ t) = rdGone l := by unfold rdGone; rw [e3]; exact a4
  refine ⟨k1, k2, ?_⟩
  unfold rdHead rdSh
  simp only [k1, k2, e1, e2, e3, e4, e5, e6, a1, a2, a3, a5, s1, s2, s3, s4, s5, s6]
theorem rdAll_more (l t : List UInt8) (h : (rdAll l).sh = false) : rdGone (l ++ t) = rdGone l ∧ rdAll (l ++ t) = ⟨(rdAll l).f, (rdAll l).l ++ t, false⟩ := by
  unfold rdAll at h ⊢
  obtain ⟨h0, h1⟩ := rdFold_more _ _ t h
  obtain ⟨k1, k2, k3⟩ := rdHead_more l t h0
  rw [k1, k3]
  exact ⟨k2, h1⟩

/-- A letter's field. -/
def setLetter (f h : Fct) (c : UInt8) : Fct :=
  if c = 83 then { h with st := f.st } else if c = 80 then { h with fr := f.fr, til := f.til } else if c = 84 then { h with seat := f.seat } else if c = 72 then { h with share := f.share }
  else if c = 67 then { h with cur := f.cur } else if c = 65 then { h with amt := f.amt } else if c = 82 then { h with ref := f.ref } else h
structure FctBd (f : Fct) : Prop where
  iss : 0 ≤ f.iss ∧ f.iss < 256
  num : 0 ≤ f.num ∧ f.num < 65536
  ver : 0 ≤ f.ver ∧ f.ver < 256
  per : 0 ≤ f.per ∧ f.per < 256
  kind : 0 ≤ f.kind ∧ f.kind < 256
  st : 0 ≤ f.st ∧ f.st < 256
  fr : 0 ≤ f.fr ∧ f.fr < 16777216
  til : 0 ≤ f.til ∧ f.til < 16777216
  seat : 0 ≤ f.seat ∧ f.seat < 256
  share : 0 ≤ f.share ∧ f.share < 256
  cur : 0 ≤ f.cur ∧ f.cur < 65536
  amt : 0 ≤ f.amt ∧ f.amt < 4294967296
  ref : 0 ≤ f.ref ∧ f.ref < 256
theorem rdLetter_set {f : Fct} (hf : FctBd f) (h : Fct) (t : List UInt8) (c : UInt8) : rdLetter ⟨h, letterB f c ++ t, false⟩ c = ⟨setLetter f h c, t, false⟩ := by
  unfold rdLetter letterB setLetter
  by_cases c1 : c = 83
  · simp only [if_pos c1]
    obtain ⟨e1, e2, e3⟩ := tk_app 1 (be 1 f.st) t (be_length _ _)
    rw [e1, e2, e3, numB_be1 _ hf.st.1 hf.st.2]
  by_cases c2 : c = 80
  · simp only [if_neg c1, if_pos c2]
    rw [List.append_assoc]
    obtain ⟨e1, e2, e3⟩ := tk_app 3 (be 3 f.fr) (be 3 f.til ++ t) (be_length _ _)
    obtain ⟨d1, d2, d3⟩ := tk_app 3 (be 3 f.til) t (be_length _ _)
    simp only [e1, e2, e3, d1, d2, d3, numB_be3 _ hf.fr.1 hf.fr.2, numB_be3 _ hf.til.1 hf.til.2]
  by_cases c3 : c = 84
  · simp only [if_neg c1, if_neg c2, if_pos c3]
    obtain ⟨e1, e2, e3⟩ := tk_app 1 (be 1 f.seat) t (be_length _ _)
    rw [e1, e2, e3, numB_be1 _ hf.seat.1 hf.seat.2]
  by_cases c4 : c = 72
  · simp only [if_neg c1, if_neg c2, if_neg c3, if_pos c4]
    obtain ⟨e1, e2, e3⟩ := tk_app 1 (be 1 f.share) t (be_length _ _)
    rw [e1, e2, e3, numB_be1 _ hf.share.1 hf.share.2]
  by_cases c5 : c = 67
  · simp only [if_neg c1, if_neg c2, if_neg c3, if_neg c4, if_pos c5]
    obtain ⟨e1, e2, e3⟩ := tk_app 2 (be 2 f.cur) t (be_length _ _)
    rw [e1, e2, e3, numB_be2 _ hf.cur.1 hf.cur.2]
  by_cases c6 : c = 65
  · simp only [if_neg c1, if_neg c2, if_neg c3, if_neg c4, if_neg c5, if_pos c6]
    obtain ⟨e1, e2, e3⟩ := tk_app 4 (be 4 f.amt) t (be_length _ _)
    rw [e1, e2, e3, numB_be4 _ hf.amt.1 hf.amt.2]
  by_cases c7 : c = 82
  · simp only [if_neg c1, if_neg c2, if_neg c3, if_neg c4, if_neg c5, if_neg c6, if_pos c7]
    obtain ⟨e1, e2, e3⟩ := tk_app 1 (be 1 f.ref) t (be_length _ _)
    rw [e1, e2, e3, numB_be1 _ hf.ref.1 hf.ref.2]
  simp only [if_neg c1, if_neg c2, if_neg c3, if_neg c4, if_neg c5, if_neg c6, if_neg c7, List.nil_append]
theorem rdFold_set {f : Fct} (hf : FctBd f) (t : List UInt8) (u : List UInt8) : ∀ h : Fct, u.foldl rdLetter ⟨h, u.flatMap (letterB f) ++ t, false⟩ = ⟨u.foldl (setLetter f) h, t, false⟩ := by
  induction u with
  | nil => intro h; simp
  | cons c u ih =>
    intro h
    rw [List.foldl_cons, List.flatMap_cons, List.append_assoc, rdLetter_set hf, ih, List.foldl_cons]
theorem rdHead_set {f : Fct} (hf : FctBd f) (t : List UInt8) : rdKind (headB f ++ t) = f.kind ∧ rdGone (headB f ++ t) = b01 f.gone ∧
    rdHead (headB f ++ t) = ⟨⟨f.iss, f.num, f.ver, f.gone, f.per, f.kind, 0, 0, 0, 0, 0, 0, 0, 0⟩, t, false⟩ := by
  have e0 : headB f ++ t = be 1 f.iss ++ (be 2 f.num ++ (be 1 f.ver ++ (be 1 (b01 f.gone) ++ (be 1 f.per ++ (be 1 f.kind ++ t))))) := by simp [headB, List.append_assoc]
  rw [e0]
  obtain ⟨a1, b1, s1⟩ := tk_app 1 (be 1 f.iss) (be 2 f.num ++ (be 1 f.ver ++ (be 1 (b01 f.gone) ++ (be 1 f.per ++ (be 1 f.kind ++ t))))) (be_length _ _)
  obtain ⟨a2, b2, s2⟩ := tk_app 2 (be 2 f.num) (be 1 f.ver ++ (be 1 (b01 f.gone) ++ (be 1 f.per ++ (be 1 f.kind ++ t)))) (be_length _ _)
  obtain ⟨a3, b3, s3⟩ := tk_app 1 (be 1 f.ver) (be 1 (b01 f.gone) ++ (be 1 f.per ++ (be 1 f.kind ++ t))) (be_length _ _)
  obtain ⟨a4, b4, s4⟩ := tk_app 1 (be 1 (b01 f.gone)) (be 1 f.per ++ (be 1 f.kind ++ t)) (be_length _ _)
  obtain ⟨a5, b5, s5⟩ := tk_app 1 (be 1 f.per) (be 1 f.kind ++ t) (be_length _ _)
  obtain ⟨a6, b6, s6⟩ := tk_app 1 (be 1 f.kind) t (be_length _ _)
  rw [numB_be1 _ hf.iss.1 hf.iss.2] at a1
  rw [numB_be2 _ hf.num.1 hf.num.2] at a2
  rw [numB_be1 _ hf.ver.1 hf.ver.2] at a3
  rw [numB_be1 _ (by unfold b01; split <;> omega) (by unfold b01; split <;> omega)] at a4
  rw [numB_be1 _ hf.per.1 hf.per.2] at a5
  rw [numB_be1 _ hf.kind.1 hf.kind.2] at a6
  have hg : (b01 f.gone == 1) = f.gone := by cases f.gone <;> rfl
  simp only [rdKind, rdGone, rdHead, rdSh, rd6, rd5, rd4, rd3, rd2, rd1, a1, a2, a3, a4, a5, a6, b1, b2, b3, b4, b5, b6, s1, s2, s3, s4, s5, s6, hg, and_self]
theorem field_out {x lo hi : Int} (h : fieldB false x lo hi = true) : x = 0 := by simpa [fieldB] using h
theorem valid_parts {f : Fct} (h : validB f = true) : ((usesL f.kind).isEmpty = false ∧ (0 ≤ f.iss ∧ f.iss ≤ 5) ∧ (1 ≤ f.num ∧ f.num ≤ 999) ∧ (1 ≤ f.ver ∧ f.ver ≤ 99) ∧ (1 ≤ f.per ∧ f.per ≤ 99)) ∧
    fieldB (usesB f.kind 83) f.st 0 5 = true ∧ fieldB (usesB f.kind 84) f.seat 0 5 = true ∧ (0 ≤ f.fr ∧ f.fr < f.til ∧ f.til ≤ 73049) ∧ fieldB (usesB f.kind 72) f.share 1 100 = true ∧ fieldB (usesB f.kind 67) f.cur 1 999 = true ∧
    fieldB (usesB f.kind 65) f.amt 0 1000000000 = true ∧ fieldB (usesB f.kind 82) f.ref 1 99 = true := by
  simp only [validB, Bool.and_eq_true, Bool.not_eq_true', btw, spanB, decide_eq_true_eq] at h
  obtain ⟨⟨⟨⟨⟨⟨⟨⟨⟨⟨⟨⟨h1, h2⟩, h3⟩, h4⟩, h5⟩, h6⟩, h7⟩, h8⟩, h9⟩, h10⟩, h11⟩, h12⟩, _⟩ := h
  exact ⟨⟨h1, h2, h3, h4, h5⟩, h6, h7, h8, h9, h10, h11, h12⟩
theorem valid_kind {f : Fct} (h : validB f = true) : f.kind = 1 ∨ f.kind = 2 ∨ f.kind = 3 ∨ f.kind = 4 ∨ f.kind = 5 ∨ f.kind = 6 ∨ f.kind = 7 ∨ f.kind = 8 ∨ f.kind = 9 ∨ f.kind = 10 ∨ f.kind = 11 ∨ f.kind = 12 ∨ f.kind = 13 ∨ f.kind = 14 := by
  obtain ⟨⟨h1, _⟩, _⟩ := valid_parts h
  by_cases hk : 1 ≤ f.kind ∧ f.kind ≤ 14
  · omega
  · rw [uses_else f.kind (by omega)] at h1
    cases h1
theorem valid_bd {f : Fct} (h : validB f = true) : FctBd f := by
  have hk := valid_kind h
  obtain ⟨⟨_, h2, h3, h4, h5⟩, h6, h7, h8, h9, h10, h11, h12⟩ := valid_parts h
  have e6 := field_bd h6 (by decide)
  have e7 := field_bd h7 (by decide)
  have e9 := field_bd h9 (by decide)
  have e10 := field_bd h10 (by decide)
  have e11 := field_bd h11 (by decide)
  have e12 := field_bd h12 (by decide)
  refine ⟨?_, ?_, ?_, ?_, ?_, ?_, ?_, ?_, ?_, ?_, ?_, ?_, ?_⟩ <;> omega
theorem valid_set {f : Fct} (h : validB f = true) : (usesL f.kind).foldl (setLetter f) ⟨f.iss, f.num, f.ver, f.gone, f.per, f.kind, 0, 0, 0, 0, 0, 0, 0, 0⟩ = f := by
  have hk := valid_kind h
  obtain ⟨-, h6, h7, -, h9, h10, h11, h12⟩ := valid_parts h
  clear h
  obtain ⟨a0, a1, a2, a3, a4, a5, a6, a7, a8, a9, a10, a11, a12, a13⟩ := f
  simp only at hk h6 h7 h9 h10 h11 h12 ⊢
  have z6 : usesB a5 83 = false → a6 = 0 := fun e => field_out (by rw [e] at h6; exact h6)
  have z7 : usesB a5 84 = false → a9 = 0 := fun e => field_out (by rw [e] at h7; exact h7)
  have z9 : usesB a5 72 = false → a10 = 0 := fun e => field_out (by rw [e] at h9; exact h9)
  have z10 : usesB a5 67 = false → a11 = 0 := fun e => field_out (by rw [e] at h10; exact h10)
  have z11 : usesB a5 65 = false → a12 = 0 := fun e => field_out (by rw [e] at h11; exact h11)
  have z12 : usesB a5 82 = false → a13 = 0 := fun e => field_out (by rw [e] at h12; exact h12)
  clear h6 h7 h9 h10 h11 h12
  rcases hk with rfl | rfl | rfl | rfl | rfl | rfl | rfl | rfl | rfl | rfl | rfl | rfl | rfl | rfl <;> simp [usesL, setLetter] <;> repeat' apply And.intro
  all_goals first | exact (z6 (by decide)).symm | exact (z7 (by decide)).symm | exact (z9 (by decide)).symm | exact (z10 (by decide)).symm | exact (z11 (by decide)).symm | exact (z12 (by decide)).symm
/-- A fact is read back from its bytes. -/
theorem rdAll_back {f : Fct} (h : validB f = true) (t : List UInt8) : rdGone (factL f ++ t) = b01 f.gone ∧ rdAll (factL f ++ t) = ⟨f, t, false⟩ := by
  have hb := valid_bd h
  unfold rdAll factL
  rw [List.append_assoc]
  obtain ⟨k1, k2, k3⟩ := rdHead_set hb ((usesL f.kind).flatMap (letterB f) ++ t)
  rw [k1, k3, rdFold_set hb, valid_set h]
  exact ⟨k2, rfl⟩
theorem rd_back {f : Fct} (h : validB f = true) (t : List UInt8) : rdOk (factL f ++ t) = true ∧ rdFact (factL f ++ t) = f ∧ rdLen (factL f ++ t) = (factL f).length := by
  obtain ⟨h1, h2⟩ := rdAll_back h t
  have hok : rdOk (factL f ++ t) = true := by
    unfold rdOk
    rw [h1, h2]
    simp only [h, Bool.not_false, Bool.and_true, Bool.true_and, decide_eq_true_eq]
    unfold b01; split <;> omega
  refine ⟨hok, ?_, ?_⟩
  · unfold rdFact; rw [hok, h2]; rfl
  · unfold rdLen; rw [hok, h2]; simp only [List.length_append, if_true]; omega
/-- No proper beginning of a fact's bytes is a fact's bytes. -/
theorem rd_cut {f : Fct} (h : validB f = true) (n : Nat) (hn : n < (factL f).length) : rdOk ((factL f).take n) = false := by
  by_cases hs : (rdAll ((factL f).take n)).sh = false
  · exfalso
    obtain ⟨_, e⟩ := rdAll_more _ ((factL f).drop n) hs
    rw [List.take_append_drop] at e
    have e2 := (rdAll_back h []).2
    rw [List.append_nil, e] at e2
    injection e2 with _ e3
    have := congrArg List.length e3
    simp at this
    omega
  · unfold rdOk
    simp only [Bool.not_eq_false] at hs
    simp [hs]

/-- The bytes of a letter's field are those that were read. -/
theorem rdLetter_inv (s : RdS) (c : UInt8) (h : (rdLetter s c).sh = false) : s.sh = false ∧ s.l = letterB (rdLetter s c).f c ++ (rdLetter s c).l := by
  obtain ⟨f, l, sh⟩ := s
  unfold rdLetter at h ⊢
  unfold letterB
  by_cases c1 : c = 83
  · simp only [if_pos c1] at h ⊢
    obtain ⟨e, hs⟩ := tk_inv h (by decide) (by decide)
    exact ⟨hs, e.symm⟩
  by_cases c2 : c = 80
  · simp only [if_neg c1, if_pos c2] at h ⊢
    obtain ⟨e, hs⟩ := tk_inv h (by decide) (by decide)
    obtain ⟨e', hs'⟩ := tk_inv hs (by decide) (by decide)
    refine ⟨hs', ?_⟩
    rw [List.append_assoc, e, e']
  by_cases c3 : c = 84
  · simp only [if_neg c1, if_neg c2, if_pos c3] at h ⊢
    obtain ⟨e, hs⟩ := tk_inv h (by decide) (by decide)
    exact ⟨hs, e.symm⟩
  by_cases c4 : c = 72
  · simp only [if_neg c1, if_neg c2, if_neg c3, if_pos c4] at h ⊢
    obtain ⟨e, hs⟩ := tk_inv h (by decide) (by decide)
    exact ⟨hs, e.symm⟩
  by_cases c5 : c = 67
  · simp only [if_neg c1, if_neg c2, if_neg c3, if_neg c4, if_pos c5] at h ⊢
    obtain ⟨e, hs⟩ := tk_inv h (by decide) (by decide)
    exact ⟨hs, e.symm⟩
  by_cases c6 : c = 65
  · simp only [if_neg c1, if_neg c2, if_neg c3, if_neg c4, if_neg c5, if_pos c6] at h ⊢
    obtain ⟨e, hs⟩ := tk_inv h (by decide) (by decide)
    exact ⟨hs, e.symm⟩
  by_cases c7 : c = 82
  · simp only [if_neg c1, if_neg c2, if_neg c3, if_neg c4, if_neg c5, if_neg c6, if_pos c7] at h ⊢
    obtain ⟨e, hs⟩ := tk_inv h (by decide) (by decide)
    exact ⟨hs, e.symm⟩
  simp only [if_neg c1, if_neg c2, if_neg c3, if_neg c4, if_neg c5, if_neg c6, if_neg c7, List.nil_append] at h ⊢
  exact ⟨h, trivial⟩
theorem letterB_other (s : RdS) (c d : UInt8) (h : c ≠ d) : letterB (rdLetter s d).f c = letterB s.f c := by
  by_cases d1 : d = 83
  · subst d1; simp [rdLetter, letterB, h]
  by_cases d2 : d = 80
  · subst d2; simp [rdLetter, letterB, h]
  by_cases d3 : d = 84
  · subst d3; simp [rdLetter, letterB, h]
  by_cases d4 : d = 72
  · subst d4; simp [rdLetter, letterB, h]
  by_cases d5 : d = 67
  · subst d5; simp [rdLetter, letterB, h]
  by_cases d6 : d = 65
  · subst d6; simp [rdLetter, letterB, h]
  by_cases d7 : d = 82
  · subst d7; simp [rdLetter, letterB, h]
  simp [rdLetter, d1, d2, d3, d4, d5, d6, d7]
theorem letterB_others (u : List UInt8) : ∀ (s : RdS) (c : UInt8), c ∉ u → letterB (u.foldl rdLetter s).f c = letterB s.f c := by
  induction u with
  | nil => intro s c _; rfl
  | cons d u ih =>
    intro s c h
    simp only [List.mem_cons, not_or] at h
    rw [List.foldl_cons, ih _ _ h.2, letterB_other s c d h.1]
theorem rdFold_inv (u : List UInt8) : ∀ s : RdS, u.Nodup → (u.foldl rdLetter s).sh = false → s.sh = false ∧ s.l = u.flatMap (letterB (u.foldl rdLetter s).f) ++ (u.foldl rdLetter s).l := by
  induction u with
  | nil => intro s _ h; exact ⟨h, by simp⟩
  | cons c u ih =>
    intro s hn h
    rw [List.nodup_cons] at hn
    rw [List.foldl_cons] at h ⊢
    obtain ⟨h1, h2⟩ := ih _ hn.2 h
    obtain ⟨h3, h4⟩ := rdLetter_inv s c h1
    refine ⟨h3, ?_⟩
    rw [List.flatMap_cons, letterB_others u _ c hn.1, List.append_assoc, ← h2]
    exact h4
theorem uses_nodup (k : Int) : (usesL k).Nodup := by
  by_cases h1 : 1 ≤ k ∧ k ≤ 14
  · have hk : k = 1 ∨ k = 2 ∨ k = 3 ∨ k = 4 ∨ k = 5 ∨ k = 6 ∨ k = 7 ∨ k = 8 ∨ k = 9 ∨ k = 10 ∨ k = 11 ∨ k = 12 ∨ k = 13 ∨ k = 14 := by omega
    clear h1
    rcases hk with rfl | rfl | rfl | rfl | rfl | rfl | rfl | rfl | rfl | rfl | rfl | rfl | rfl | rfl <;> decide
  · rw [uses_else k (by omega)]; decide
theorem factO_valid {f : Fct} (h : validB f = true) : factO f = factL f := by simp [factO, h]
theorem factL_len (f : Fct) : 7 ≤ (factL f).length ∧ (factL f).length ≤ 43 := by
  unfold factL
  rw [List.length_append, headB_len]
  have := letters_len f (usesL f.kind)
  have h6 := usesL_le f.kind
  have e : (usesS f.kind).size = (usesL f.kind).length := by simp [usesS, ByteArray.size]
  omega
end Go.Proofs.Ytkkjiihdmpngbaa
