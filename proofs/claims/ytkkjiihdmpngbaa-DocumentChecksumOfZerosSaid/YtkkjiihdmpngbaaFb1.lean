/-
  The contract of fact.appendNumbers.
-/
import Derived.Test.YtkkjiihdmpngbaaByt
import Derived.Test.YtkkjiihdmpngbaaFa6
import Derived.Deep.LoopGhost
namespace Go.Proofs.Ytkkjiihdmpngbaa
open Go.RowKit

/-- Ints as cells. -/
def intsV (l : List Int) : Array Value := (l.map (Value.int .i64)).toArray

theorem flat_take {α β : Type} (xs : List α) (f : α → List β) (j : Nat) (h : j < xs.length) : (xs.take (j + 1)).flatMap f = (xs.take j).flatMap f ++ f xs[j] := by
  rw [List.take_succ_eq_append_getElem h, List.flatMap_append]
  simp only [List.flatMap_cons, List.flatMap_nil, List.append_nil]

set_option maxHeartbeats 800000 in
theorem appn_any (base : Nat) (v : Value) (bs : List UInt8) (xs : List Int) (g cap size : Nat) (w : World) (hs : size ≤ 8) (hl : bs.length ≤ 1000000) (hxl : xs.length ≤ 1000)
    (hown : w.ownsRow base 5 1 v bs.length (bytesV bs)) (hbase : base ≤ w.heap.size) (hg : BlkIs w g 3 (intsV xs)) :
    Calls Try.prog 78 #[v, .int .i64 size, .slice (some ⟨g, 0, none⟩) xs.length cap] w (BigPost base (bs ++ xs.flatMap (be size)) w) := by
  go_enter Try.func78, Try.ntmps78
  go_wp2
  go_loopw [0, 8, 9, 12] (fun v _ _ t wr => ∃ (j : Nat) (l : List UInt8), j ≤ xs.length ∧ t = .int .i64 j ∧ wr.ownsRow base 5 1 v l.length (bytesV l) ∧ Below base w wr ∧ Kp w wr ∧ l.length = bs.length + j * size ∧ Hid (l = bs ++ (xs.take j).flatMap (be size)))
    (fun _ _ _ t _ => xs.length - (intOf t).toNat)
  case atStart => exact ⟨0, bs, Nat.zero_le _, rfl, hown, Below.refl _ _, Kp.refl _, by simp, by simp [Hid]⟩
  case round =>
    obtain ⟨j, l, hj, rfl, hown', hbel, hkp, hlen, heq⟩ := hrel
    clear hown
    have hblk := hg.kp hkp (by decide)
    have hsz := hbel.size
    by_cases hlt : j < xs.length
    · have hcell : wr.cell? ⟨g, j, none⟩ = some (.int .i64 xs[j]) := by
        rw [hblk.cell]; simp [intsV, hlt]
      have HT : Hid ((xs.take (j + 1)).flatMap (be size) = (xs.take j).flatMap (be size) ++ be size xs[j]) := flat_take xs (be size) j hlt
      generalize xs[j] = x at *
      obtain ⟨wo, hwo⟩ : ∃ wo : World, wo = wr := ⟨_, rfl⟩
      subst hwo
      go_wp2
      go_loopw [0, 9] (fun v t wi => ∃ (k : Nat) (l2 : List UInt8), k ≤ size ∧ t = .int .i64 ((k : Int) - 1) ∧ wi.ownsRow base 5 1 v l2.length (bytesV l2) ∧ Below base w wi ∧ Kp w wi ∧ l2.length + k = l.length + size ∧ Hid (l2 ++ be k x = l ++ be size x))
        (fun _ t _ => (intOf t + 1).toNat)
      case atStart => exact ⟨size, l, Nat.le_refl _, rfl, hown', hbel, hkp, rfl, rfl⟩
      case round =>
        obtain ⟨k, l2, hk, rfl, hown2, hbel2, hkp2, hlen2, heq2⟩ := hrel
        clear hown' hbel hblk hcell
        have hsz2 := hbel2.size
        have hm1 : j * size ≤ 1000 * 8 := Nat.mul_le_mul (by omega) hs
        rcases k with _ | k
        · go_wp2
          go_roundw
          case rel =>
            go_light
            have e : l2 = l ++ be size x := by have := heq2.out; simpa [be] using this
            refine ⟨j + 1, l2, by omega, by go_num, hown2, hbel2, hkp2, by rw [Nat.add_mul]; omega, ?_⟩
            unfold Hid
            rw [HT.out, e, heq.out, List.append_assoc]
          case measure => simp [intOf]; omega
        · have hk1 : (0 : Int) ≤ (((k + 1 : Nat) : Int) - 1) := by omega
          go_wp2_with (at_builtin; refine wpList_app1 (by rfl) _ _ (by rfl) base _ l2 _ (x / 2 ^ (8 * k)) (by rfl) (by exact hown2) (by rfl) (by omega) (by omega) ?_; intro v' w1 hown1 hb1 hg1)
          go_roundw
          case rel => exact ⟨k, l2 ++ [byteOf (x / 2 ^ (8 * k))], by omega, by go_num, hown1, hbel2.trans hb1, hkp2.trans hg1, by simp; omega, by have := heq2.out; simpa [be, Hid] using this⟩
          case measure => simp [intOf]
    · have hj' : j = xs.length := by omega
      subst hj'
      go_wp2
      go_ret
      exact ⟨_, rfl, by have e := heq.out; rw [List.take_length] at e; rw [← e]; exact hown', hbel, hkp⟩
end Go.Proofs.Ytkkjiihdmpngbaa
