/-
  The contracts of the reference's number and Read.
-/
import Derived.Test.YtkkjiihdmpngbaaRd1
import Derived.Test.YtkkjiihdmpngbaaFb3
namespace Go.Proofs.Ytkkjiihdmpngbaa
open Go.RowKit

set_option maxHeartbeats 800000 in
theorem number_any (B : Nat) (v : Value) (l : List UInt8) (w : World) (h : Sl B w v l) (hl : l.length ≤ 6) :
    Calls Try.prog 83 #[v] w fun e w' => e = .returned (.int .i64 (numB l)) ∧ w = w' := by
  obtain ⟨a, c, rfl, hc, hx⟩ := h
  go_enter Try.func83, Try.ntmps83
  go_wp2
  go_loop [3, 4] (fun x t => ∃ j : Nat, j ≤ l.length ∧ t = .int .i64 j ∧ x = .int .i64 (numB (l.take j))) (fun _ t => l.length - (intOf t).toNat)
  case atStart => exact ⟨0, Nat.zero_le _, rfl, rfl⟩
  case round =>
    obtain ⟨j, hj, rfl, rfl⟩ := hrel
    by_cases hjk : j < l.length
    · have hjk' : (j : Int) < (l.length : Int) := by omega
      obtain ⟨b, o, rfl, hb, hcells⟩ := hx (by omega)
      have hcell := hcells j l[j] (List.getElem?_eq_getElem hjk)
      clear hcells hx
      have hbd := numB_bd (l.take j)
      have hpl : (l.take j).length = j := by simp; omega
      rw [hpl] at hbd
      have hp5 : (256 : Int) ^ j ≤ 1099511627776 := by
        have hj5 : j = 0 ∨ j = 1 ∨ j = 2 ∨ j = 3 ∨ j = 4 ∨ j = 5 := by omega
        rcases hj5 with rfl | rfl | rfl | rfl | rfl | rfl <;> decide
      have HT : Hid (numB (l.take (j + 1)) = numB (l.take j) * 256 + (l[j].toNat : Int)) := by
        unfold Hid
        rw [List.take_succ_eq_append_getElem hjk, numB_snoc]
      have c1 : (0 : Int) ≤ (l[j].toNat : Int) := by omega
      have c2 : (l[j].toNat : Int) < 256 := by have := l[j].toNat_lt; omega
      have n1 : 0 ≤ numB (l.take j) := hbd.1
      have n2 : numB (l.take j) ≤ 1099511627776 := by omega
      have HO := Lib.hid (or_i64 _ _ n1 n2 c1 c2)
      clear hbd hpl hp5
      generalize numB (l.take j) = x at *
      go_wp2
      go_round
      case rel => exact ⟨j + 1, by omega, by go_num, by rw [HO.out, HT.out]⟩
      case measure => simp [intOf]; omega
    · have hj' : j = l.length := by omega
      subst hj'
      have hge : ¬ (l.length : Int) < (l.length : Int) := by omega
      go_wp2
      go_ret
      exact ⟨rfl, rfl⟩
end Go.Proofs.Ytkkjiihdmpngbaa
