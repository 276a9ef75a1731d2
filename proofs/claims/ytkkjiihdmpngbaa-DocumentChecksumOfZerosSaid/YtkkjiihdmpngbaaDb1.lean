/-
  The contract of the reference's join.
-/
import Derived.Test.YtkkjiihdmpngbaaDa3
import Derived.Test.YtkkjiihdmpngbaaFrb
namespace Go.Proofs.Ytkkjiihdmpngbaa
open Go.RowKit
set_option linter.unusedVariables false

/-- Slices of bytes that lie in a row, and what they read as. -/
def Parts (B : Nat) (w : World) : List Value → List (List UInt8) → Prop
  | [], [] => True
  | v :: vs, l :: ls => (Sl B w v l ∧ ∀ c, v = .slice none 0 c → c = 0) ∧ Parts B w vs ls
  | _, _ => False
theorem Parts.at {B : Nat} {w : World} : ∀ {vs : List Value} {ls : List (List UInt8)} (h : Parts B w vs ls) (i : Nat) (hi : i < vs.length), ∃ v l, vs[i]? = some v ∧ ls[i]? = some l ∧ Sl B w v l ∧ ∀ c, v = .slice none 0 c → c = 0
  | [], _, _, i, hi => by simp at hi
  | v :: vs, [], h, _, _ => h.elim
  | v :: vs, l :: ls, h, 0, _ => ⟨v, l, rfl, rfl, h.1.1, h.1.2⟩
  | v :: vs, l :: ls, h, i + 1, hi => by
    obtain ⟨v', l', h1, h2, h3⟩ := Parts.at h.2 i (by simpa using hi)
    exact ⟨v', l', by simpa using h1, by simpa using h2, h3⟩
theorem Parts.length {B : Nat} {w : World} : ∀ {vs : List Value} {ls : List (List UInt8)}, Parts B w vs ls → vs.length = ls.length
  | [], [], _ => rfl
  | [], _ :: _, h => h.elim
  | _ :: _, [], h => h.elim
  | _ :: vs, _ :: ls, h => by have := Parts.length h.2; simp [this]
theorem flat_le (ls : List (List UInt8)) (i : Nat) : (ls.take i).flatten.length ≤ ls.flatten.length := by
  have h : ls.flatten = (ls.take i).flatten ++ (ls.drop i).flatten := by rw [← List.flatten_append, List.take_append_drop]
  rw [h, List.length_append]
  omega

set_option maxRecDepth 100000 in
set_option maxHeartbeats 2000000 in
theorem join_any (B g : Nat) (vs : List Value) (ls : List (List UInt8)) (w : World) (hB : B ≤ w.heap.size) (hblk : BlkIs w g 22 vs.toArray) (hp : Parts B w vs ls) (hn : vs.length ≤ 100) (htot : ls.flatten.length ≤ 100000) :
    Calls Try.prog 55 #[.slice (some ⟨g, 0, none⟩) vs.length vs.length] w (BigPost w.heap.size ls.flatten w) := by
  have hgl := hblk.lt
  have HP := Lib.hid hp
  have hlen := hp.length
  clear hp
  obtain ⟨n, hn'⟩ : ∃ n, n = vs.length := ⟨_, rfl⟩
  have HN := Lib.hid hn'
  rw [← hn'] at hn hlen ⊢
  have HL := Lib.hid hlen
  clear hn' hlen
  go_enter Try.func55, Try.ntmps55
  go_wp2
  go_loopw [3, 4] (fun v t wr => ∃ (i : Nat) (l : List UInt8), i ≤ n ∧ t = .int .i64 i ∧ wr.ownsRow w.heap.size 5 1 v l.length (bytesV l) ∧ Below w.heap.size w wr ∧ Kp w wr ∧ Hid (l = (ls.take i).flatten))
    (fun _ t _ => n - (intOf t).toNat)
  case atStart => exact ⟨0, [], Nat.zero_le _, rfl, ⟨rfl, .inl ⟨rfl, rfl⟩⟩, Below.refl _ _, Kp.refl _, rfl⟩
  case round =>
    obtain ⟨i, l, hi, rfl, hown, hbel, hkp, heq⟩ := hrel
    by_cases hin : i < n
    · obtain ⟨y, m, hy, hm, hs, hc⟩ := HP.out.at i (by rw [← HN.out]; exact hin)
      have hcell : wr.cell? ⟨g, i, none⟩ = some y := by
        rw [hbel.cell (p := ⟨g, i, none⟩) hgl, hblk.cell]
        simpa using hy
      have HT : Hid ((ls.take (i + 1)).flatten = (ls.take i).flatten ++ m) := by
        unfold Hid
        have hil : i < ls.length := by rw [← HL.out]; exact hin
        rw [List.take_succ_eq_append_getElem hil, List.flatten_append]
        have : ls[i] = m := by rw [List.getElem?_eq_getElem hil] at hm; injection hm
        simp [this]
      have hb2 : l.length + m.length ≤ 100000 := by
        have h1 := flat_le ls (i + 1)
        rw [HT.out, List.length_append] at h1
        rw [heq.out]
        omega
      have hin' : (i : Int) < (n : Int) := by omega
      have hs' := (hs.below (hbel.mono hB))
      clear hy hm hs
      go_wp2_with (at_builtin; refine wpList_appSl (by rfl) _ _ (by rfl) w.heap.size B _ y l m wr (by rfl) hown (by rfl) hs' hc (by omega) hbel.size ?_; intro v' w1 hown1 hb1 hk1 hg1; clear hg1)
      go_roundw
      case rel => exact ⟨i + 1, l ++ m, by omega, by go_num, hown1, hbel.trans hb1, hkp.trans hk1, by unfold Hid; rw [HT.out, heq.out]⟩
      case measure => simp [intOf]; omega
    · have hge : ¬ (i : Int) < (n : Int) := by omega
      go_wp2
      go_ret
      have e : l = ls.flatten := by rw [heq.out, List.take_of_length_le (by rw [← HL.out]; omega)]
      exact ⟨_, rfl, by rw [← e]; exact hown, hbel, hkp⟩
end Go.Proofs.Ytkkjiihdmpngbaa
