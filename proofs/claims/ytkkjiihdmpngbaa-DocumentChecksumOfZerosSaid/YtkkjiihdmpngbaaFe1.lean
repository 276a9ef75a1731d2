/-
  Numbers read from bytes; the contract of the reader's take.
-/
import Derived.Test.YtkkjiihdmpngbaaStr
import Derived.Laws.BitsAllLaws
import Derived.Laws.BitsLemmas
namespace Go.Proofs.Ytkkjiihdmpngbaa
open Go.RowKit

/-- The number that bytes stand for. -/
def numB (l : List UInt8) : Int := l.foldl (fun n c => n * 256 + (c.toNat : Int)) 0
theorem numB_snoc (l : List UInt8) (c : UInt8) : numB (l ++ [c]) = numB l * 256 + (c.toNat : Int) := by simp [numB]
theorem numB_acc (l : List UInt8) : ∀ n : Int, l.foldl (fun n c => n * 256 + (c.toNat : Int)) n = n * 256 ^ l.length + numB l := by
  induction l with
  | nil => intro n; simp [numB]
  | cons c l ih =>
    intro n
    have h0 : numB (c :: l) = ((0 : Int) * 256 + (c.toNat : Int)) * 256 ^ l.length + numB l := by rw [← ih]; rfl
    rw [List.foldl_cons, ih, h0, List.length_cons, Int.pow_succ]
    simp only [Int.zero_mul, Int.zero_add, Int.add_mul]
    have e : n * 256 * 256 ^ l.length = n * (256 ^ l.length * 256) := by rw [Int.mul_assoc, Int.mul_comm 256 (256 ^ l.length)]
    omega
theorem numB_cons (c : UInt8) (l : List UInt8) : numB (c :: l) = (c.toNat : Int) * 256 ^ l.length + numB l := by
  have := numB_acc l ((0 : Int) * 256 + (c.toNat : Int))
  simpa [numB] using this
theorem pow256_pos (k : Nat) : (0 : Int) < 256 ^ k := Int.pow_pos (by decide)
theorem numB_bd (l : List UInt8) : 0 ≤ numB l ∧ numB l < 256 ^ l.length := by
  induction l with
  | nil => simp [numB]
  | cons c l ih =>
    rw [numB_cons, List.length_cons, Int.pow_succ]
    have h1 := c.toNat_lt
    have h2 := pow256_pos l.length
    have h3 : (c.toNat : Int) * 256 ^ l.length ≤ 255 * 256 ^ l.length := Int.mul_le_mul_of_nonneg_right (by omega) (by omega)
    have h4 : 0 ≤ (c.toNat : Int) * 256 ^ l.length := Int.mul_nonneg (by omega) (by omega)
    generalize (256 : Int) ^ l.length = P at *
    generalize (c.toNat : Int) * P = X at *
    omega
theorem pow256_le (k : Nat) (h : k ≤ 6) : (256 : Int) ^ k ≤ 281474976710656 := by
  have hk : k = 0 ∨ k = 1 ∨ k = 2 ∨ k = 3 ∨ k = 4 ∨ k = 5 ∨ k = 6 := by omega
  rcases hk with rfl | rfl | rfl | rfl | rfl | rfl | rfl <;> decide
theorem or_low (x c : Nat) (hc : c < 256) : (x * 256) ||| c = x * 256 + c := by
  have h := Nat.two_pow_add_eq_or_of_lt (i := 8) (b := c) (by simpa using hc) x
  rw [show (2 : Nat) ^ 8 = 256 from rfl, Nat.mul_comm] at h
  exact h.symm
set_option maxRecDepth 10000 in
theorem ofInt_64 (a : Nat) (h : a < 9223372036854775808) : (BitVec.ofInt 64 (a : Int)).toNat = a := by
  rw [BitVec.ofInt_natCast, BitVec.toNat_ofNat]; exact Nat.mod_eq_of_lt (by omega)
set_option maxRecDepth 10000 in
theorem or_i64 (x c : Int) (hx : 0 ≤ x) (hx2 : x ≤ 1099511627776) (hc : 0 ≤ c) (hc2 : c < 256) : bits .or .i64 (x * 256) c = x * 256 + c := by
  obtain ⟨a, rfl⟩ := Int.eq_ofNat_of_zero_le hx
  obtain ⟨b, rfl⟩ := Int.eq_ofNat_of_zero_le hc
  have hlt : a * 256 + b < 9223372036854775808 := by omega
  have e1 : ((a : Int) * 256) = ((a * 256 : Nat) : Int) := by omega
  rw [e1]
  show IntKind.i64.wrap ((BitVec.ofInt 64 ((a * 256 : Nat) : Int) ||| BitVec.ofInt 64 (b : Int)).toNat : Int) = _
  have ha := ofInt_64 (a * 256) (by omega)
  have hb := ofInt_64 b (by omega)
  rw [BitVec.toNat_or, ha, hb, or_low a b (by omega), IntKind.wrap_i64]
  omega

/-- The reader: its bytes and whether there were too few. -/
structure Rdr (B g : Nat) (l : List UInt8) (sh : Bool) (w : World) : Prop where
  ex : ∃ v, BlkIs w g 111 #[v, .bool sh] ∧ Sl B w v l
  hB : B ≤ g

def tkVal (k : Nat) (l : List UInt8) : Int := if l.length < k then 0 else numB (l.take k)
def tkRest (k : Nat) (l : List UInt8) : List UInt8 := if l.length < k then l else l.drop k
def tkShort (k : Nat) (l : List UInt8) (sh : Bool) : Bool := if l.length < k then true else sh

def TakePost (B g k : Nat) (l : List UInt8) (sh : Bool) (w : World) (e : Ending) (w' : World) : Prop :=
  e = .returned (.int .i64 (tkVal k l)) ∧ Rdr B g (tkRest k l) (tkShort k l sh) w' ∧ w.grownBy w' (some g)

theorem grown_set {w : World} {g o : Nat} (u : Value) : w.grownBy (w.setCell ⟨g, o, none⟩ u) (some g) :=
  ⟨rfl, rfl, rfl, by simp [World.setCell], fun k _ hne => Below.heap_setCell w ⟨g, o, none⟩ u k (fun e => hne (by rw [e]))⟩

set_option maxHeartbeats 800000 in
theorem take_any (B g k : Nat) (kk : Int) (l : List UInt8) (sh : Bool) (w : World) (hkk : kk = k) (hk : 1 ≤ k) (hk6 : k ≤ 6) (h : Rdr B g l sh w) (hl : l.length ≤ 4611686018427387904) :
    Calls Try.prog 82 #[.pointer (some ⟨g, 0, none⟩), .int .i64 kk] w (TakePost B g k l sh w) := by
  subst hkk
  obtain ⟨⟨v, hblk, hsl⟩, hB⟩ := h
  obtain ⟨a, c, rfl, hc, hcells⟩ := hsl
  have h0 : w.cell? ⟨g, 0, none⟩ = some (.slice a l.length c) := by rw [hblk.cell]; rfl
  have h1 : w.cell? ⟨g, 1, none⟩ = some (.bool sh) := by rw [hblk.cell]; rfl
  have hf0 := hblk.frozen 0
  have hf1 := hblk.frozen 1
  by_cases hlt : l.length < k
  · have hlt' : (l.length : Int) < (k : Int) := by omega
    have HP : Hid (tkVal k l = 0 ∧ tkRest k l = l ∧ tkShort k l sh = true) := by simp [Hid, tkVal, tkRest, tkShort, hlt]
    go_enter Try.func82, Try.ntmps82
    go_wp2
    go_ret
    obtain ⟨p1, p2, p3⟩ := HP.out
    refine ⟨by rw [p1]; rfl, ?_, grown_set _⟩
    rw [p2, p3]
    refine ⟨⟨_, hblk.put 1 _, ⟨a, c, rfl, hc, fun hl => ?_⟩⟩, hB⟩
    obtain ⟨b, o, ha, hb, hx⟩ := hcells hl
    exact ⟨b, o, ha, hb, fun j u hu => (World.cell?_setCell_other w _ _ _ (by intro e; injection e; omega)).trans (hx j u hu)⟩
  · obtain ⟨b, o, rfl, hb, hx⟩ := hcells (by omega)
    clear hcells
    have hge : (k : Int) ≤ (l.length : Int) := by omega
    go_enter Try.func82, Try.ntmps82
    go_wp2
    go_loop [5, 7, 25] (fun x _ t => ∃ j : Nat, j ≤ k ∧ t = .int .i64 j ∧ x = .int .i64 (numB (l.take j))) (fun _ _ t => k - (intOf t).toNat)
    case atStart => exact ⟨0, Nat.zero_le _, rfl, rfl⟩
    case round =>
      obtain ⟨j, hj, rfl, rfl⟩ := hrel
      by_cases hjk : j < k
      · have hjl : j < l.length := by omega
        have hcell := hx j l[j] (List.getElem?_eq_getElem hjl)
        have hbd := numB_bd (l.take j)
        have hpl : (l.take j).length = j := by simp; omega
        rw [hpl] at hbd
        have hp5 : (256 : Int) ^ j ≤ 1099511627776 := by
          have hj5 : j = 0 ∨ j = 1 ∨ j = 2 ∨ j = 3 ∨ j = 4 ∨ j = 5 := by omega
          rcases hj5 with rfl | rfl | rfl | rfl | rfl | rfl <;> decide
        have HT : Hid (numB (l.take (j + 1)) = numB (l.take j) * 256 + (l[j].toNat : Int)) := by
          unfold Hid
          rw [List.take_succ_eq_append_getElem hjl, numB_snoc]
        have c1 : (0 : Int) ≤ (l[j].toNat : Int) := by omega
        have c2 : (l[j].toNat : Int) < 256 := by have := l[j].toNat_lt; omega
        have n1 : 0 ≤ numB (l.take j) := hbd.1
        have n2 : numB (l.take j) ≤ 1099511627776 := by omega
        have HO := Lib.hid (or_i64 _ _ n1 n2 c1 c2)
        clear hbd hpl hp5
        generalize numB (l.take j) = x at *
        go_wp2
        go_round
        case rel => exact ⟨j + 1, by omega, by go_num, by rw [HO.out, HT.out]⟩
        case measure => simp [intOf]; omega
      · have hj' : j = k := by omega
        subst hj'
        have HP : Hid (tkVal j l = numB (l.take j) ∧ tkRest j l = l.drop j ∧ tkShort j l sh = sh) := by simp [Hid, tkVal, tkRest, tkShort, hlt]
        have HX := Lib.hid hx
        clear hx
        by_cases hcap : c = j
        · subst hcap
          go_wp2
          go_ret
          obtain ⟨p1, p2, p3⟩ := HP.out
          refine ⟨by rw [p1]; rfl, ?_, grown_set _⟩
          rw [p2, p3]
          refine ⟨⟨_, hblk.put 0 _, ⟨_, _, by rw [List.length_drop, show l.length - c = 0 by omega], by rw [List.length_drop]; omega, fun hl => ?_⟩⟩, hB⟩
          rw [List.length_drop] at hl
          omega
        · go_wp2
          go_ret
          obtain ⟨p1, p2, p3⟩ := HP.out
          refine ⟨by rw [p1]; rfl, ?_, grown_set _⟩
          rw [p2, p3]
          refine ⟨⟨_, hblk.put 0 _, ⟨_, _, by rw [List.length_drop], by have := List.length_drop (i := j) (l := l); omega, fun hl => ?_⟩⟩, hB⟩
          refine ⟨b, o + j, rfl, hb, fun i u hu => ?_⟩
          rw [List.getElem?_drop] at hu
          rw [Nat.add_assoc]
          exact (World.cell?_setCell_other w _ _ _ (by intro e; injection e; omega)).trans (HX.out _ u hu)
end Go.Proofs.Ytkkjiihdmpngbaa
