/-
  Contracts: document.number, the reader's next; the reference's Big, Num.
-/
import Derived.Test.YtkkjiihdmpngbaaFe1
namespace Go.Proofs.Ytkkjiihdmpngbaa
open Go.RowKit

set_option maxHeartbeats 400000 in
theorem dnumber_any (base : Nat) (v : Value) (bs : List UInt8) (x : Int) (size : Nat) (w : World) (hs : size ≤ 8) (hl : bs.length ≤ 1000000)
    (hown : w.ownsRow base 5 1 v bs.length (bytesV bs)) (hbase : base ≤ w.heap.size) :
    Calls Try.prog 54 #[v, .int .i64 x, .int .i64 size] w (BigPost base (bs ++ be size x) w) := by
  obtain ⟨i0, hi, hz0, hz1, hz2⟩ := info_parts Try.infoU8
  go_enter Try.func54, Try.ntmps54
  go_wp2
  go_loopw [0, 2] (fun v t wr => ∃ (k : Nat) (l : List UInt8), k ≤ size ∧ t = .int .i64 ((k : Int) - 1) ∧ wr.ownsRow base 5 1 v l.length (bytesV l) ∧ Below base w wr ∧ Kp w wr ∧ l.length + k = bs.length + size ∧ Hid (l ++ be k x = bs ++ be size x))
    (fun _ t _ => (intOf t + 1).toNat)
  case atStart => exact ⟨size, bs, Nat.le_refl _, rfl, hown, Below.refl _ _, Kp.refl _, rfl, rfl⟩
  case round =>
    obtain ⟨k, l, hk, rfl, hown', hbel, hkp, hlen, heq⟩ := hrel
    clear hown
    have hsz := hbel.size
    rcases k with _ | k
    · go_wp2
      go_ret
      have e : l = bs ++ be size x := by have := heq.out; simpa [be] using this
      exact ⟨_, rfl, by rw [← e]; exact hown', hbel, hkp⟩
    · have hk1 : (0 : Int) ≤ (((k + 1 : Nat) : Int) - 1) := by omega
      go_wp2_with (at_builtin; refine wpList_app1 (by rfl) _ _ (by rfl) base _ l wr (x / 2 ^ (8 * k)) (by rfl) (by exact hown') (by rfl) (by omega) (by omega) ?_; intro v' w1 hown1 hb1 hg1)
      go_roundw
      case rel => exact ⟨k, l ++ [byteOf (x / 2 ^ (8 * k))], by omega, by go_num, hown1, hbel.trans hb1, hkp.trans hg1, by simp; omega, by have := heq.out; simpa [be, Hid] using this⟩
      case measure => simp [intOf]

set_option maxHeartbeats 400000 in
theorem gbig_any (x : Int) (size : Nat) (w : World) (hs : size ≤ 8) :
    Calls Try.prog 56 #[.int .i64 x, .int .i64 size] w (BigPost w.heap.size (be size x) w) := by
  obtain ⟨i0, hi, hz0, hz1, hz2⟩ := info_parts Try.infoU8
  go_enter Try.func56, Try.ntmps56
  go_wp2
  go_loopw [5, 6] (fun v t wr => ∃ (k : Nat) (l : List UInt8), k ≤ size ∧ t = .int .i64 ((k : Int) - 1) ∧ wr.ownsRow w.heap.size 5 1 v l.length (bytesV l) ∧ Below w.heap.size w wr ∧ Kp w wr ∧ l.length + k = size ∧ Hid (l ++ be k x = be size x))
    (fun _ t _ => (intOf t + 1).toNat)
  case atStart => exact ⟨size, [], Nat.le_refl _, rfl, ⟨rfl, .inl ⟨rfl, rfl⟩⟩, Below.refl _ _, Kp.refl _, by simp, rfl⟩
  case round =>
    obtain ⟨k, l, hk, rfl, hown', hbel, hkp, hlen, heq⟩ := hrel
    have hsz := hbel.size
    rcases k with _ | k
    · go_wp2
      go_ret
      have e : l = be size x := by have := heq.out; simpa [be] using this
      exact ⟨_, rfl, by rw [← e]; exact hown', hbel, hkp⟩
    · have hk1 : (0 : Int) ≤ (((k + 1 : Nat) : Int) - 1) := by omega
      go_wp2_with (at_builtin; refine wpList_app1 (by rfl) _ _ (by rfl) w.heap.size _ l wr (x / 2 ^ (8 * k)) (by rfl) (by exact hown') (by rfl) (by omega) (by omega) ?_; intro v' w1 hown1 hb1 hg1)
      go_roundw
      case rel => exact ⟨k, l ++ [byteOf (x / 2 ^ (8 * k))], by omega, by go_num, hown1, hbel.trans hb1, hkp.trans hg1, by simp; omega, by have := heq.out; simpa [be, Hid] using this⟩
      case measure => simp [intOf]

set_option maxHeartbeats 800000 in
theorem gnum_any (B : Nat) (v : Value) (l : List UInt8) (w : World) (h : Sl B w v l) (hl : l.length ≤ 6) :
    Calls Try.prog 63 #[v] w fun e w' => e = .returned (.int .i64 (numB l)) ∧ w = w' := by
  obtain ⟨a, c, rfl, hc, hx⟩ := h
  go_enter Try.func63, Try.ntmps63
  go_wp2
  go_loop [3, 4] (fun x t => ∃ j : Nat, j ≤ l.length ∧ t = .int .i64 j ∧ x = .int .i64 (numB (l.take j))) (fun _ t => l.length - (intOf t).toNat)
  case atStart => exact ⟨0, Nat.zero_le _, rfl, rfl⟩
  case round =>
    obtain ⟨j, hj, rfl, rfl⟩ := hrel
    by_cases hjk : j < l.length
    · have hjk' : (j : Int) < (l.length : Int) := by omega
      obtain ⟨b, o, rfl, hb, hcells⟩ := hx (by omega)
      have hcell := hcells j l[j] (List.getElem?_eq_getElem hjk)
      clear hcells hx
      have hbd := numB_bd (l.take j)
      have hpl : (l.take j).length = j := by simp; omega
      rw [hpl] at hbd
      have hp5 : (256 : Int) ^ j ≤ 1099511627776 := by
        have hj5 : j = 0 ∨ j = 1 ∨ j = 2 ∨ j = 3 ∨ j = 4 ∨ j = 5 := by omega
        rcases hj5 with rfl | rfl | rfl | rfl | rfl | rfl <;> decide
      have HT : Hid (numB (l.take (j + 1)) = numB (l.take j) * 256 + (l[j].toNat : Int)) := by
        unfold Hid
        rw [List.take_succ_eq_append_getElem hjk, numB_snoc]
      have c1 : (0 : Int) ≤ (l[j].toNat : Int) := by omega
      have c2 : (l[j].toNat : Int) < 256 := by have := l[j].toNat_lt; omega
      have n1 : 0 ≤ numB (l.take j) := hbd.1
      have n2 : numB (l.take j) ≤ 1099511627776 := by omega
      have HO := Lib.hid (or_i64 _ _ n1 n2 c1 c2)
      clear hbd hpl hp5
      generalize numB (l.take j) = x at *
      go_wp2
      go_round
      case rel => exact ⟨j + 1, by omega, by go_num, by rw [HO.out, HT.out]⟩
      case measure => simp [intOf]; omega
    · have hj' : j = l.length := by omega
      subst hj'
      have hge : ¬ (l.length : Int) < (l.length : Int) := by omega
      go_wp2
      go_ret
      exact ⟨rfl, rfl⟩

/-- The document's reader: its bytes. -/
structure DRdr (B g : Nat) (l : List UInt8) (w : World) : Prop where
  ex : ∃ v, BlkIs w g 91 #[v] ∧ Sl B w v l
  hB : B ≤ g
def NextPost (B g k : Nat) (l : List UInt8) (w : World) (e : Ending) (w' : World) : Prop :=
  e = .returned (.int .i64 (numB (l.take k))) ∧ DRdr B g (l.drop k) w' ∧ w.grownBy w' (some g)

set_option maxHeartbeats 800000 in
theorem next_any (B g k : Nat) (kk : Int) (l : List UInt8) (w : World) (hkk : kk = k) (hk1 : 1 ≤ k) (hk6 : k ≤ 6) (h : DRdr B g l w) (hkl : k ≤ l.length) (hl : l.length ≤ 4611686018427387904) :
    Calls Try.prog 61 #[.pointer (some ⟨g, 0, none⟩), .int .i64 kk] w (NextPost B g k l w) := by
  subst hkk
  obtain ⟨⟨v, hblk, hsl⟩, hB⟩ := h
  obtain ⟨a, c, rfl, hc, hcells⟩ := hsl
  have h0 : w.cell? ⟨g, 0, none⟩ = some (.slice a l.length c) := by rw [hblk.cell]; rfl
  have hf0 := hblk.frozen 0
  have hge : (k : Int) ≤ (l.length : Int) := by omega
  have HX := Lib.hid hcells
  clear hcells
  go_enter Try.func61, Try.ntmps61
  go_wp2
  go_loop [5, 7, 15] (fun x _ t => ∃ j : Nat, j ≤ k ∧ t = .int .i64 j ∧ x = .int .i64 (numB (l.take j))) (fun _ _ t => k - (intOf t).toNat)
  case atStart => exact ⟨0, Nat.zero_le _, rfl, rfl⟩
  case round =>
    obtain ⟨j, hj, rfl, rfl⟩ := hrel
    by_cases hjk : j < k
    · have hjl : j < l.length := by omega
      obtain ⟨b, o, rfl, hb, hx⟩ := HX.out (by omega)
      have hcell := hx j l[j] (List.getElem?_eq_getElem hjl)
      clear hx
      have hbd := numB_bd (l.take j)
      have hpl : (l.take j).length = j := by simp; omega
      rw [hpl] at hbd
      have hp5 : (256 : Int) ^ j ≤ 1099511627776 := by
        have hj5 : j = 0 ∨ j = 1 ∨ j = 2 ∨ j = 3 ∨ j = 4 ∨ j = 5 := by omega
        rcases hj5 with rfl | rfl | rfl | rfl | rfl | rfl <;> decide
      have HT : Hid (numB (l.take (j + 1)) = numB (l.take j) * 256 + (l[j].toNat : Int)) := by
        unfold Hid
        rw [List.take_succ_eq_append_getElem hjl, numB_snoc]
      have c1 : (0 : Int) ≤ (l[j].toNat : Int) := by omega
      have c2 : (l[j].toNat : Int) < 256 := by have := l[j].toNat_lt; omega
      have n1 : 0 ≤ numB (l.take j) := hbd.1
      have n2 : numB (l.take j) ≤ 1099511627776 := by omega
      have HO := Lib.hid (or_i64 _ _ n1 n2 c1 c2)
      clear hbd hpl hp5
      generalize numB (l.take j) = x at *
      go_wp2
      go_round
      case rel => exact ⟨j + 1, by omega, by go_num, by rw [HO.out, HT.out]⟩
      case measure => simp [intOf]; omega
    · have hj' : j = k := by omega
      subst hj'
      obtain ⟨b, o, rfl, hb, hx⟩ := HX.out (by omega)
      have HY := Lib.hid hx
      clear hx
      by_cases hcap : c = j
      · subst hcap
        go_wp2
        go_ret
        refine ⟨rfl, ⟨⟨_, hblk.put 0 _, ⟨_, _, by rw [List.length_drop, show l.length - c = 0 by omega], by rw [List.length_drop]; omega, fun hl => ?_⟩⟩, hB⟩, grown_set _⟩
        rw [List.length_drop] at hl
        omega
      · go_wp2
        go_ret
        refine ⟨rfl, ⟨⟨_, hblk.put 0 _, ⟨_, _, by rw [List.length_drop], by have := List.length_drop (i := j) (l := l); omega, fun hl => ?_⟩⟩, hB⟩, grown_set _⟩
        refine ⟨b, o + j, rfl, hb, fun i u hu => ?_⟩
        rw [List.getElem?_drop] at hu
        rw [Nat.add_assoc]
        exact (World.cell?_setCell_other w _ _ _ (by intro e; injection e; omega)).trans (HY.out _ u hu)
end Go.Proofs.Ytkkjiihdmpngbaa
