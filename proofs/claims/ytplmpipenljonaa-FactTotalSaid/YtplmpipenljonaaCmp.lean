/-
  Comparing bytes: the model's entry at slices, bytes.Compare; the order of facts by their bytes and by the reference's rules.
-/
import Derived.Test.YtplmpipenljonaaRd1
import Derived.Test.YtplmpipenljonaaStr
import Derived.Lib.BytesEntry
import Derived.Laws.StructEq
namespace Go.Proofs.Ytplmpipenljonaa
open Go.RowKit

theorem bytesOf_map (l : List UInt8) : Lib.bytesOf (l.map fun b => (b.toNat : Int)) = l := by
  induction l with
  | nil => rfl
  | cons b l ih =>
    have : UInt8.ofNat ((b.toNat : Int)).toNat = b := by simp
    simp only [Lib.bytesOf, List.map_cons] at ih ⊢
    rw [this, ih]
theorem bytesOf_sl {B : Nat} {w : World} {v : Value} {l : List UInt8} (h : Sl B w v l) : (Extern.Bytes.bytesOf v).run Try.prog w = .ok ⟨l.toArray⟩ w := by
  obtain ⟨a, c, rfl, hc, h⟩ := h
  rcases a with _ | ad
  · have : l = [] := by
      rcases l with _ | ⟨b, l⟩
      · rfl
      · obtain ⟨_, _, hh, _⟩ := h (by simp)
        cases hh
    subst this
    rfl
  · have hl := Lib.run_loadBytesX (P := Try.prog) w (l.map fun b => (b.toNat : Int)) ad .empty (fun j x hj => by
      rw [List.getElem?_map, Option.map_eq_some_iff] at hj
      obtain ⟨u, hu, rfl⟩ := hj
      obtain ⟨b, o, hh, _, hcell⟩ := h (by have := (List.getElem?_eq_some_iff.1 hu).1; omega)
      injection hh with hh
      subst hh
      have e : (⟨b, o, none⟩ : Addr).add j = ⟨b, o + j, none⟩ := by unfold Addr.add; split <;> simp_all
      rw [e]
      exact hcell j u hu)
    rw [bytesOf_map, List.length_map] at hl
    have he : (⟨ByteArray.empty.data ++ l.toArray⟩ : ByteArray) = ⟨l.toArray⟩ := by
      apply ByteArray.ext
      show (#[] : Array UInt8) ++ l.toArray = l.toArray
      simp
    rw [he] at hl
    exact hl
theorem run_cmp {B B' : Nat} {w : World} {v v' : Value} {l l' : List UInt8} (h : Sl B w v l) (h' : Sl B' w v' l') :
    (callFunc 40 #[v, v']).run Try.prog w = .ok (.value (.int .i64 (Lib.compareBytes l l'))) w := by
  rw [run_callFunc_extern Try.func40 (by kernel_rfl) (by kernel_rfl) (by kernel_rfl) (e := Extern.BytealgCompare.compare) (by kernel_rfl)]
  have hr : (Extern.BytealgCompare.compare #[v, v']).run Try.prog w = .ok (.int .i64 (Lib.compareBytes l l')) w := by
    change Sem.run Try.prog (do pure (goInt (Extern.BytealgCompare.cmp (← Extern.Bytes.bytesOf v) (← Extern.Bytes.bytesOf v')))) w = _
    simp only [Sem.run_bind, bytesOf_sl h, bytesOf_sl h', Sem.run_pure, Result.andThen]
    rw [Lib.cmp_eq]
    rfl
  rw [hr]
  rfl
theorem bcompare_any {B B' : Nat} {v v' : Value} {l l' : List UInt8} (w : World) (h : Sl B w v l) (h' : Sl B' w v' l') :
    Calls Try.prog 34 #[v, v'] w fun e w' => e = .returned (.int .i64 (Lib.compareBytes l l')) ∧ w = w' := by
  have hx := run_cmp h h'
  go_enter Try.func34, Try.ntmps34
  go_wp2
  go_ret
  exact ⟨rfl, rfl⟩

/-- Two facts are equal. -/
def eqB (a b : Fct) : Bool := a.iss == b.iss && (a.num == b.num && (a.ver == b.ver && (a.gone == b.gone && (a.per == b.per && (a.kind == b.kind && (a.st == b.st && ((a.fr == b.fr && a.til == b.til) && (a.seat == b.seat && (a.share == b.share && (a.cur == b.cur && (a.amt == b.amt && a.ref == b.ref)))))))))))
theorem eqB_iff (a b : Fct) : eqB a b = true ↔ a = b := by
  obtain ⟨a0, a1, a2, a3, a4, a5, a6, a7, a8, a9, a10, a11, a12, a13⟩ := a
  obtain ⟨b0, b1, b2, b3, b4, b5, b6, b7, b8, b9, b10, b11, b12, b13⟩ := b
  simp [eqB, and_assoc]
theorem eq_span (a b c d : Int) (n : Nat) (w : World) : (Op.equalIn (n + 2) 29 (.agg #[.int .i64 a, .int .i64 b]) (.agg #[.int .i64 c, .int .i64 d])).run Try.prog w = .ok (a == c && b == d) w := by
  have hS : Try.prog.underlying 29 = some (.struct (Try.prog.fieldsOf 29)) := by kernel_rfl
  rw [run_equalIn_agg w (n + 1) 29 _ _ hS (by kernel_rfl)]
  simp only [Program.fieldsOf, Try.underlying29]
  go_simp
  by_cases h1 : a = c <;> by_cases h2 : b = d <;> simp [h1, h2]
theorem eq_fact (a b : Fct) (w : World) : (Op.equalIn 10000 31 (.agg (fcells a)) (.agg (fcells b))).run Try.prog w = .ok (eqB a b) w := by
  obtain ⟨a0, a1, a2, a3, a4, a5, a6, a7, a8, a9, a10, a11, a12, a13⟩ := a
  obtain ⟨b0, b1, b2, b3, b4, b5, b6, b7, b8, b9, b10, b11, b12, b13⟩ := b
  have hS : Try.prog.underlying 31 = some (.struct (Try.prog.fieldsOf 31)) := by kernel_rfl
  rw [show (10000 : Nat) = 9999 + 1 from rfl, run_equalIn_agg w 9999 31 _ _ hS (by kernel_rfl)]
  have hsp := eq_span a7 a8 b7 b8 9997
  simp only [Program.fieldsOf, Try.underlying31, fcells, eqB]
  go_simp
  by_cases h0 : ¬ a0 = b0
  · simp [h0]
  rw [Decidable.not_not] at h0
  subst h0
  by_cases h1 : ¬ a1 = b1
  · simp [h1]
  rw [Decidable.not_not] at h1
  subst h1
  by_cases h2 : ¬ a2 = b2
  · simp [h2]
  rw [Decidable.not_not] at h2
  subst h2
  by_cases h3 : ¬ a3 = b3
  · simp [h3]
  rw [Decidable.not_not] at h3
  subst h3
  by_cases h4 : ¬ a4 = b4
  · simp [h4]
  rw [Decidable.not_not] at h4
  subst h4
  by_cases h5 : ¬ a5 = b5
  · simp [h5]
  rw [Decidable.not_not] at h5
  subst h5
  by_cases h6 : ¬ a6 = b6
  · simp [h6]
  rw [Decidable.not_not] at h6
  subst h6
  by_cases h7 : ¬ a7 = b7
  · simp [h7]
  rw [Decidable.not_not] at h7
  subst h7
  by_cases h8 : ¬ a8 = b8
  · simp [h8]
  rw [Decidable.not_not] at h8
  subst h8
  by_cases h9 : ¬ a9 = b9
  · simp [h9]
  rw [Decidable.not_not] at h9
  subst h9
  by_cases h10 : ¬ a10 = b10
  · simp [h10]
  rw [Decidable.not_not] at h10
  subst h10
  by_cases h11 : ¬ a11 = b11
  · simp [h11]
  rw [Decidable.not_not] at h11
  subst h11
  by_cases h12 : ¬ a12 = b12
  · simp [h12]
  rw [Decidable.not_not] at h12
  subst h12
  by_cases h13 : ¬ a13 = b13
  · simp [h13]
  rw [Decidable.not_not] at h13
  subst h13
  simp

theorem u8_lt (a b : UInt8) : a < b ↔ a.toNat < b.toNat := UInt8.lt_iff_toNat_lt
theorem byteOf_lt {x y : Int} (hx : 0 ≤ x) (hx2 : x < 256) (hy : 0 ≤ y) (hy2 : y < 256) : byteOf x < byteOf y ↔ x < y := by
  rw [u8_lt]
  have h1 := byteOf_toNat x
  have h2 := byteOf_toNat y
  omega
theorem cmp_be1 {x y : Int} (hx : 0 ≤ x) (hx2 : x < 256) (hy : 0 ≤ y) (hy2 : y < 256) (s t : List UInt8) :
    Lib.compareBytes (be 1 x ++ s) (be 1 y ++ t) = if x < y then -1 else if y < x then 1 else Lib.compareBytes s t := by
  have e1 : be 1 x = [byteOf x] := by simp [be]
  have e2 : be 1 y = [byteOf y] := by simp [be]
  rw [e1, e2]
  simp only [List.cons_append, List.nil_append, Lib.compareBytes, byteOf_lt hx hx2 hy hy2, byteOf_lt hy hy2 hx hx2]
theorem cmp_be2 {x y : Int} (hx : 0 ≤ x) (hx2 : x < 65536) (hy : 0 ≤ y) (hy2 : y < 65536) (s t : List UInt8) :
    Lib.compareBytes (be 2 x ++ s) (be 2 y ++ t) = if x < y then -1 else if y < x then 1 else Lib.compareBytes s t := by
  have e1 : ∀ z : Int, be 2 z = be 1 (z / 256) ++ be 1 (z % 256) := by
    intro z
    have h3 : byteOf (z % 256) = byteOf z := by unfold byteOf; rw [Int.emod_emod_of_dvd z (by decide)]
    simp [be, h3]
  rw [e1, e1, List.append_assoc, List.append_assoc, cmp_be1 (by omega) (by omega) (by omega) (by omega), cmp_be1 (by omega) (by omega) (by omega) (by omega)]
  by_cases h1 : x / 256 < y / 256
  · rw [if_pos h1, if_pos (by omega)]
  · rw [if_neg h1]
    by_cases h2 : y / 256 < x / 256
    · rw [if_pos h2, if_neg (by omega), if_pos (by omega)]
    · rw [if_neg h2]
      by_cases h3 : x % 256 < y % 256
      · rw [if_pos h3, if_pos (by omega)]
      · rw [if_neg h3]
        by_cases h4 : y % 256 < x % 256
        · rw [if_pos h4, if_neg (by omega), if_pos (by omega)]
        · rw [if_neg h4, if_neg (by omega), if_neg (by omega)]
theorem bytesLess_cmp : ∀ x y : List UInt8, Op.bytesLess x y = decide (Lib.compareBytes x y < 0)
  | [], [] => rfl
  | [], _ :: _ => rfl
  | _ :: _, [] => rfl
  | a :: x, b :: y => by
    have ih := bytesLess_cmp x y
    simp only [Op.bytesLess, Lib.compareBytes]
    by_cases h1 : a < b
    · simp [h1]
    · by_cases h2 : b < a
      · have hne : a ≠ b := fun e => by subst e; exact h1 h2
        simp [h1, h2, hne]
      · have he : a = b := UInt8.le_antisymm (UInt8.not_lt.1 h2) (UInt8.not_lt.1 h1)
        subst he
        simp [h1, ih]
theorem cmp_self (x : List UInt8) : Lib.compareBytes x x = 0 := by
  induction x with
  | nil => rfl
  | cons a x ih =>
    have : ¬ a < a := UInt8.lt_irrefl a
    simp [Lib.compareBytes, this, ih]
theorem cmp_neg : ∀ x y : List UInt8, Lib.compareBytes y x = - Lib.compareBytes x y
  | [], [] => rfl
  | [], _ :: _ => rfl
  | _ :: _, [] => rfl
  | a :: x, b :: y => by
    have ih := cmp_neg x y
    simp only [Lib.compareBytes]
    by_cases h1 : a < b
    · have h2 : ¬ b < a := UInt8.not_lt.2 (UInt8.le_of_lt h1)
      simp [h1, h2]
    · by_cases h2 : b < a
      · simp [h1, h2]
      · simp [h1, h2, ih]
theorem cmp_zero : ∀ x y : List UInt8, Lib.compareBytes x y = 0 → x = y
  | [], [], _ => rfl
  | [], _ :: _, h => by simp [Lib.compareBytes] at h
  | _ :: _, [], h => by simp [Lib.compareBytes] at h
  | a :: x, b :: y, h => by
    simp only [Lib.compareBytes] at h
    by_cases h1 : a < b
    · simp [h1] at h
    · by_cases h2 : b < a
      · simp [h1, h2] at h
      · have he : a = b := UInt8.le_antisymm (UInt8.not_lt.1 h2) (UInt8.not_lt.1 h1)
        subst he
        simp [h1] at h
        rw [cmp_zero x y h]
theorem cmp_trans : ∀ x y z : List UInt8, Lib.compareBytes x y < 0 → Lib.compareBytes y z < 0 → Lib.compareBytes x z < 0
  | [], _, [], h1, h2 => by rename_i y; cases y <;> simp [Lib.compareBytes] at h1 h2
  | [], _, _ :: _, _, _ => by simp [Lib.compareBytes]
  | _ :: _, [], _, h1, _ => by simp [Lib.compareBytes] at h1
  | _ :: _, _ :: _, [], _, h2 => by simp [Lib.compareBytes] at h2
  | a :: x, b :: y, c :: z, h1, h2 => by
    simp only [Lib.compareBytes] at h1 h2 ⊢
    by_cases p1 : a < b
    · by_cases q1 : b < c
      · simp [UInt8.lt_trans p1 q1]
      · by_cases q2 : c < b
        · simp [q1, q2] at h2
        · have he : b = c := UInt8.le_antisymm (UInt8.not_lt.1 q2) (UInt8.not_lt.1 q1)
          subst he
          simp [p1]
    · by_cases p2 : b < a
      · simp [p1, p2] at h1
      · have he : a = b := UInt8.le_antisymm (UInt8.not_lt.1 p2) (UInt8.not_lt.1 p1)
        subst he
        by_cases q1 : a < c
        · simp [q1]
        · by_cases q2 : c < a
          · simp [q1, q2] at h2
          · have he : a = c := UInt8.le_antisymm (UInt8.not_lt.1 q2) (UInt8.not_lt.1 q1)
            subst he
            simp [p1] at h1 h2 ⊢
            exact cmp_trans x y z h1 h2

/-- The order by the bytes, and by the reference's rules. -/
def lessB (f g : Fct) : Bool := validB f && validB g && decide (Lib.compareBytes (factL f) (factL g) < 0)
def rlessB (f g : Fct) : Bool := validB f && validB g && (if f.iss ≠ g.iss then decide (f.iss < g.iss) else if f.num ≠ g.num then decide (f.num < g.num) else if f.ver ≠ g.ver then decide (f.ver < g.ver) else Op.bytesLess (factL f) (factL g))
theorem less_eq (f g : Fct) : lessB f g = rlessB f g := by
  unfold lessB rlessB
  cases hf : validB f
  · simp
  cases hg : validB g
  · simp
  simp only [Bool.true_and]
  have bf := valid_bd hf
  have bg := valid_bd hg
  rw [bytesLess_cmp]
  have e : ∀ h : Fct, factL h = be 1 h.iss ++ (be 2 h.num ++ (be 1 h.ver ++ (be 1 (b01 h.gone) ++ be 1 h.per ++ be 1 h.kind ++ (usesL h.kind).flatMap (letterB h)))) := by
    intro h; simp [factL, headB, List.append_assoc]
  have hc : Lib.compareBytes (factL f) (factL g) = if f.iss < g.iss then -1 else if g.iss < f.iss then 1 else if f.num < g.num then -1 else if g.num < f.num then 1 else if f.ver < g.ver then -1 else if g.ver < f.ver then 1 else Lib.compareBytes (be 1 (b01 f.gone) ++ be 1 f.per ++ be 1 f.kind ++ (usesL f.kind).flatMap (letterB f)) (be 1 (b01 g.gone) ++ be 1 g.per ++ be 1 g.kind ++ (usesL g.kind).flatMap (letterB g)) := by
    rw [e f, e g, cmp_be1 bf.iss.1 bf.iss.2 bg.iss.1 bg.iss.2, cmp_be2 bf.num.1 bf.num.2 bg.num.1 bg.num.2, cmp_be1 bf.ver.1 bf.ver.2 bg.ver.1 bg.ver.2]
  by_cases h1 : f.iss = g.iss
  · rw [if_neg (by simpa using h1)]
    by_cases h2 : f.num = g.num
    · rw [if_neg (by simpa using h2)]
      by_cases h3 : f.ver = g.ver
      · rw [if_neg (by simpa using h3)]
      · rw [if_pos h3, hc]
        rw [if_neg (by omega), if_neg (by omega), if_neg (by omega), if_neg (by omega)]
        by_cases h4 : f.ver < g.ver
        · simp [h4]
        · have h5 : g.ver < f.ver := by omega
          simp [h4, h5]
    · rw [if_pos h2, hc]
      rw [if_neg (by omega), if_neg (by omega)]
      by_cases h4 : f.num < g.num
      · simp [h4]
      · have h5 : g.num < f.num := by omega
        simp [h4, h5]
  · rw [if_pos h1, hc]
    by_cases h4 : f.iss < g.iss
    · simp [h4]
    · have h5 : g.iss < f.iss := by omega
      simp [h4, h5]
theorem factL_inj {f g : Fct} (hf : validB f = true) (hg : validB g = true) (h : factL f = factL g) : f = g := by
  have h1 := (rd_back hf []).2.1
  have h2 := (rd_back hg []).2.1
  rw [h] at h1
  exact h1.symm.trans h2
/-- Of two valid facts just one comes first, or they are equal. -/
theorem less_total {f g : Fct} (hf : validB f = true) (hg : validB g = true) :
    (lessB f g = true ∧ lessB g f = false ∧ f ≠ g) ∨ (lessB f g = false ∧ lessB g f = true ∧ f ≠ g) ∨ (lessB f g = false ∧ lessB g f = false ∧ f = g) := by
  unfold lessB
  rw [hf, hg]
  simp only [Bool.true_and]
  have hn := cmp_neg (factL f) (factL g)
  rw [hn]
  by_cases h0 : Lib.compareBytes (factL f) (factL g) = 0
  · have := factL_inj hf hg (cmp_zero _ _ h0)
    right; right
    rw [h0]
    exact ⟨rfl, rfl, this⟩
  · have hne : f ≠ g := by rintro rfl; exact h0 (cmp_self _)
    by_cases h1 : Lib.compareBytes (factL f) (factL g) < 0
    · left
      exact ⟨by simpa using h1, by simp; omega, hne⟩
    · right; left
      exact ⟨by simpa using h1, by simp; omega, hne⟩
theorem less_trans {f g h : Fct} (h1 : lessB f g = true) (h2 : lessB g h = true) : lessB f h = true := by
  unfold lessB at *
  simp only [Bool.and_eq_true, decide_eq_true_eq] at *
  exact ⟨⟨h1.1.1, h2.1.2⟩, cmp_trans _ _ _ h1.2 h2.2⟩
end Go.Proofs.Ytplmpipenljonaa
