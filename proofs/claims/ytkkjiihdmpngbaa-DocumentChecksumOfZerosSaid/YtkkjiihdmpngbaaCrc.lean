/-
  The checksum as a plain function on numbers. No program in sight.
-/
import Derived.Test.YtkkjiihdmpngbaaByt
namespace Go.Proofs.Ytkkjiihdmpngbaa
open Go.RowKit

/-- One bit of the checksum. -/
def crc1 (v : Nat) : Nat := if v % 2 = 1 then (v / 2) ^^^ 3988292384 else v / 2
def crcN : Nat → Nat → Nat
  | 0, v => v
  | n + 1, v => crcN n (crc1 v)
def crc8 (v : Nat) : Nat := crcN 8 v
/-- One byte of the checksum. -/
def crcB (v : Nat) (c : UInt8) : Nat := crc8 (v ^^^ c.toNat)
def crcF (l : List UInt8) (v : Nat) : Nat := l.foldl crcB v
/-- The checksum. -/
def crcL (l : List UInt8) : Nat := 4294967295 - crcF l 4294967295

theorem crc1_lt {v : Nat} (h : v < 4294967296) : crc1 v < 4294967296 := by
  unfold crc1
  split
  · have := Nat.xor_lt_two_pow (n := 32) (x := v / 2) (y := 3988292384) (by omega) (by omega)
    simpa using this
  · omega
theorem crcN_lt (n : Nat) : ∀ {v : Nat}, v < 4294967296 → crcN n v < 4294967296 := by
  induction n with
  | zero => intro v h; exact h
  | succ n ih => intro v h; exact ih (crc1_lt h)
theorem crc8_lt {v : Nat} (h : v < 4294967296) : crc8 v < 4294967296 := crcN_lt 8 h
theorem xor_lt32 {a b : Nat} (ha : a < 4294967296) (hb : b < 4294967296) : a ^^^ b < 4294967296 := by
  have := Nat.xor_lt_two_pow (n := 32) (x := a) (y := b) (by omega) (by omega)
  simpa using this
theorem crcB_lt {v : Nat} (h : v < 4294967296) (c : UInt8) : crcB v c < 4294967296 := by
  have := c.toNat_lt
  exact crc8_lt (xor_lt32 h (by omega))
theorem crcF_lt (l : List UInt8) : ∀ {v : Nat}, v < 4294967296 → crcF l v < 4294967296 := by
  induction l with
  | nil => intro v h; exact h
  | cons c l ih => intro v h; exact ih (crcB_lt h c)
theorem crcL_lt (l : List UInt8) : crcL l < 4294967296 := by unfold crcL; omega

/-- One step is linear. -/
theorem crc1_xor (a b : Nat) : crc1 (a ^^^ b) = crc1 a ^^^ crc1 b := by
  unfold crc1
  have h1 : (a ^^^ b) / 2 = a / 2 ^^^ b / 2 := Nat.xor_div_two
  have h2 : (a ^^^ b) % 2 = (a + b) % 2 := by
    have h3 := Nat.xor_mod_two_pow (a := a) (b := b) (n := 1)
    rw [show (2 : Nat) ^ 1 = 2 from rfl] at h3
    rw [h3]
    rcases Nat.mod_two_eq_zero_or_one a with ha | ha <;> rcases Nat.mod_two_eq_zero_or_one b with hb | hb <;> rw [ha, hb] <;> simp <;> omega
  rw [h1, h2]
  rcases Nat.mod_two_eq_zero_or_one a with ha | ha <;> rcases Nat.mod_two_eq_zero_or_one b with hb | hb
  · rw [if_neg (by omega), if_neg (by omega), if_neg (by omega)]
  · rw [if_pos (by omega), if_neg (by omega), if_pos (by omega), Nat.xor_assoc]
  · rw [if_pos (by omega), if_pos (by omega), if_neg (by omega), Nat.xor_assoc, Nat.xor_assoc, Nat.xor_comm (b / 2)]
  · rw [if_neg (by omega), if_pos (by omega), if_pos (by omega)]
    have : ∀ x y p : Nat, (x ^^^ p) ^^^ (y ^^^ p) = x ^^^ y := by
      intro x y p
      rw [Nat.xor_assoc, Nat.xor_comm y p, ← Nat.xor_assoc p p y, Nat.xor_self, Nat.zero_xor]
    rw [this]
theorem crcN_xor (n : Nat) : ∀ a b : Nat, crcN n (a ^^^ b) = crcN n a ^^^ crcN n b := by
  induction n with
  | zero => intro a b; rfl
  | succ n ih => intro a b; simp only [crcN]; rw [crc1_xor, ih]
theorem crc1_even (m : Nat) : crc1 (2 * m) = m := by
  unfold crc1
  rw [if_neg (by omega)]
  omega
theorem crc8_high (h : Nat) : crc8 (256 * h) = h := by
  have e : 256 * h = 2 * (2 * (2 * (2 * (2 * (2 * (2 * (2 * h))))))) := by omega
  rw [e]
  simp only [crc8, crcN, crc1_even]
theorem split256 (v : Nat) : v = (v % 256) ^^^ (256 * (v / 256)) := by
  apply Nat.eq_of_testBit_eq
  intro i
  rw [Nat.testBit_xor]
  have h1 : (v % 256).testBit i = (decide (i < 8) && v.testBit i) := Nat.testBit_mod_two_pow v 8 i
  have h2 : (256 * (v / 256)).testBit i = (decide (8 ≤ i) && v.testBit i) := by
    have := Nat.testBit_two_pow_mul (i := 8) (a := v / 256) (j := i)
    rw [show (2 : Nat) ^ 8 = 256 from rfl] at this
    rw [this]
    by_cases hi : 8 ≤ i
    · have h3 := Nat.testBit_div_two_pow (x := v) (n := 8) (i := i - 8)
      rw [show (2 : Nat) ^ 8 = 256 from rfl] at h3
      rw [h3]
      congr 2
      omega
    · simp [hi]
  rw [h1, h2]
  by_cases hi : i < 8
  · have : ¬ 8 ≤ i := by omega
    simp [hi, this]
  · have : 8 ≤ i := by omega
    simp [hi, this]
/-- A byte by the table. -/
theorem crcB_table (v : Nat) (c : UInt8) : crcB v c = (v / 256) ^^^ crc8 ((v % 256) ^^^ c.toNat) := by
  unfold crcB
  have e : v ^^^ c.toNat = ((v % 256) ^^^ c.toNat) ^^^ (256 * (v / 256)) := by
    rw [Nat.xor_assoc, Nat.xor_comm c.toNat, ← Nat.xor_assoc, ← split256 v]
  rw [e]
  have h := crcN_xor 8 ((v % 256) ^^^ c.toNat) (256 * (v / 256))
  have h2 : crc8 (((v % 256) ^^^ c.toNat) ^^^ (256 * (v / 256))) = crc8 ((v % 256) ^^^ c.toNat) ^^^ crc8 (256 * (v / 256)) := h
  rw [h2, crc8_high, Nat.xor_comm]

theorem xor_cancel {a b p : Nat} (h : a ^^^ p = b ^^^ p) : a = b := by
  have := congrArg (· ^^^ p) h
  simpa [Nat.xor_assoc] using this
theorem crc1_inj {v w : Nat} (hv : v < 4294967296) (hw : w < 4294967296) (h : crc1 v = crc1 w) : v = w := by
  have bit : ∀ x : Nat, x < 4294967296 → (crc1 x).testBit 31 = decide (x % 2 = 1) := by
    intro x hx
    unfold crc1
    have hb : (x / 2).testBit 31 = false := Nat.testBit_lt_two_pow (by omega)
    split
    · rename_i ho
      rw [Nat.testBit_xor, hb]
      simp [ho]
      decide
    · rename_i ho
      rw [hb]
      simp [ho]
  have h1 := bit v hv
  have h2 := bit w hw
  rw [h, h2] at h1
  have hp : v % 2 = w % 2 := by
    by_cases a : v % 2 = 1
    · by_cases b : w % 2 = 1
      · omega
      · simp [a, b] at h1
    · by_cases b : w % 2 = 1
      · simp [a, b] at h1
      · omega
  have hd : v / 2 = w / 2 := by
    unfold crc1 at h
    by_cases a : v % 2 = 1
    · rw [if_pos a, if_pos (by omega)] at h
      exact xor_cancel h
    · rw [if_neg a, if_neg (by omega)] at h
      exact h
  omega
theorem crcN_inj (n : Nat) : ∀ {v w : Nat}, v < 4294967296 → w < 4294967296 → crcN n v = crcN n w → v = w := by
  induction n with
  | zero => intro v w _ _ h; exact h
  | succ n ih => intro v w hv hw h; exact crc1_inj hv hw (ih (crc1_lt hv) (crc1_lt hw) h)
theorem crcB_inj {v w : Nat} (c : UInt8) (hv : v < 4294967296) (hw : w < 4294967296) (h : crcB v c = crcB w c) : v = w := by
  have hc := c.toNat_lt
  exact xor_cancel (crcN_inj 8 (xor_lt32 hv (by omega)) (xor_lt32 hw (by omega)) h)
theorem crcB_byte {v : Nat} {c d : UInt8} (hv : v < 4294967296) (h : crcB v c = crcB v d) : c = d := by
  have hc := c.toNat_lt
  have hd := d.toNat_lt
  have h1 := crcN_inj 8 (xor_lt32 hv (by omega)) (xor_lt32 hv (by omega)) h
  rw [Nat.xor_comm v, Nat.xor_comm v] at h1
  exact UInt8.toNat_inj.1 (xor_cancel h1)
theorem crcF_inj (l : List UInt8) : ∀ {v w : Nat}, v < 4294967296 → w < 4294967296 → crcF l v = crcF l w → v = w := by
  induction l with
  | nil => intro v w _ _ h; exact h
  | cons c l ih => intro v w hv hw h; exact crcB_inj c hv hw (ih (crcB_lt hv c) (crcB_lt hw c) h)
/-- One changed byte changes the checksum. -/
theorem crcL_byte (p : List UInt8) (c d : UInt8) (s : List UInt8) (h : crcL (p ++ c :: s) = crcL (p ++ d :: s)) : c = d := by
  have b1 := crcF_lt (p ++ c :: s) (v := 4294967295) (by decide)
  have b2 := crcF_lt (p ++ d :: s) (v := 4294967295) (by decide)
  have h1 : crcF (p ++ c :: s) 4294967295 = crcF (p ++ d :: s) 4294967295 := by unfold crcL at h; omega
  simp only [crcF, List.foldl_append, List.foldl_cons] at h1
  have b3 := crcF_lt p (v := 4294967295) (by decide)
  exact crcB_byte b3 (crcF_inj s (crcB_lt b3 c) (crcB_lt b3 d) h1)
end Go.Proofs.Ytkkjiihdmpngbaa
