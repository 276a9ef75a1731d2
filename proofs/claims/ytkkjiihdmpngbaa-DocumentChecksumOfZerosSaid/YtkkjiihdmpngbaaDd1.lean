/-
  Contracts: the document's table and Checksum, the reference's Checksum.
-/
import Derived.Test.YtkkjiihdmpngbaaCrc
import Derived.Test.YtkkjiihdmpngbaaFe1
import Derived.Laws.BitsAllLaws
import Derived.Laws.Tables
import Derived.Laws.CopyOwn
import Derived.Outline
namespace Go.Proofs.Ytkkjiihdmpngbaa
open Go.RowKit

theorem crcN_succ (n : Nat) : ∀ v : Nat, crcN (n + 1) v = crc1 (crcN n v) := by
  induction n with
  | zero => intro v; rfl
  | succ n ih => intro v; exact ih (crc1 v)
/-- The table, of which k entries have been made. -/
def tabA (k : Nat) : Array Value := ((List.range 256).map fun i => Value.int .u32 ((if i < k then crc8 i else 0 : Nat) : Int)).toArray
theorem tabA_size (k : Nat) : (tabA k).size = 256 := by simp [tabA]
theorem tabA_zero : Try.zeroCells82 = tabA 0 := by kernel_rfl
theorem tabA_get (k i : Nat) (h : i < 256) : (tabA k)[i]? = some (.int .u32 ((if i < k then crc8 i else 0 : Nat) : Int)) := by
  simp [tabA, h]
theorem tabA_set (k : Nat) (h : k < 256) : (tabA k).setIfInBounds k (.int .u32 (crc8 k : Int)) = tabA (k + 1) := by
  apply Array.ext_getElem?
  intro i
  rw [Array.getElem?_setIfInBounds]
  by_cases hi : i < 256
  · rw [tabA_get k i hi, tabA_get (k + 1) i hi, tabA_size]
    by_cases he : k = i
    · subst he
      simp [h]
    · rw [if_neg he]
      have : i < k + 1 ↔ i < k := by omega
      simp [this]
  · have h1 : (tabA k)[i]? = none := Array.getElem?_eq_none (by rw [tabA_size]; omega)
    have h2 : (tabA (k + 1))[i]? = none := Array.getElem?_eq_none (by rw [tabA_size]; omega)
    rw [h1, h2]
    split
    · rw [if_neg (by rw [tabA_size]; omega)]
    · rfl
theorem and1_u32 (x : Nat) (h : x < 4294967296) : bits .and .u32 (x : Int) 1 = ((x % 2 : Nat) : Int) := by
  have := u32_and_nat x 1 h (by omega)
  rw [Nat.and_one_is_mod] at this
  exact this
theorem crc1_odd {x : Nat} (h : x < 4294967296) (ho : x % 2 = 1) : bits .xor .u32 ((x : Int) / 2) 3988292384 = (crc1 x : Int) := by
  have := u32_xor_nat (x / 2) 3988292384 (by omega) (by omega)
  unfold crc1
  rw [if_pos ho]
  exact this
theorem crc1_even' {x : Nat} (ho : x % 2 = 0) : (x : Int) / 2 = (crc1 x : Int) := by
  unfold crc1
  rw [if_neg (by omega)]
  omega
theorem setRow_is {w : World} {g : Nat} {t : TypeId} {cs : Array Value} (h : BlkIs w g t cs) (cs' : Array Value) : (w.setRow g cs').heap[g]? = some (.cells cs' t (0, 0)) := by
  unfold BlkIs at h
  simp [World.setRow, Array.getElem?_modify, h]
theorem one_tabA (k : Nat) : (tabA k).all (·.oneCell') = true := by
  rw [Array.all_eq_true]
  intro i hi
  have h1 := tabA_get k i (by rw [tabA_size] at hi; omega)
  rw [Array.getElem?_eq_getElem hi] at h1
  injection h1 with h1
  rw [h1]
  rfl
theorem info_table : (Try.prog.info? 82).map (·.size) = some 256 := by kernel_rfl

set_option maxRecDepth 100000 in
set_option maxHeartbeats 1000000 in
theorem table_any (w : World) : Calls Try.prog 53 #[] w fun e w' => e = .returned (.agg (tabA 256)) ∧ Below w.heap.size w w' := by
  go_enter Try.func53, Try.ntmps53
  go_wp2
  go_loopw [4] (fun t wr => ∃ k : Nat, k ≤ 256 ∧ t = .int .i64 k ∧ BlkIs wr w.heap.size 82 (tabA 0) ∧ BlkIs wr (w.heap.size + 1) 82 (tabA k) ∧ Below w.heap.size w wr) (fun t _ => 256 - (intOf t).toNat)
  case atStart =>
    refine ⟨0, by omega, rfl, ?_, ?_, ((Below.refl _ _).alloc (Nat.le_refl _) _).alloc (by simp) _⟩
    · rw [← tabA_zero]; exact (BlkIs.new _ _ _).alloc _
    · rw [← tabA_zero]; exact BlkIs.newAt _ _ _ _ (by simp)
  case round =>
    obtain ⟨k, hk, rfl, hb0, hb1, hbel⟩ := hrel
    by_cases hlt : k < 256
    · have hlt' : (k : Int) < 256 := by omega
      have hc1 : wr.cell? ⟨w.heap.size + 1, k, none⟩ = some (.int .u32 0) := by rw [hb1.cell, tabA_get k k hlt]; simp
      have hf1 := hb1.frozen k
      go_wp2
      go_loop [3, 9] (fun v t => ∃ j : Nat, j ≤ 8 ∧ t = .int .i64 j ∧ v = .int .u32 (crcN j k : Int)) (fun _ t => 8 - (intOf t).toNat)
      case atStart => exact ⟨0, by omega, rfl, rfl⟩
      case round =>
        obtain ⟨j, hj, rfl, rfl⟩ := hrel
        have hx := crcN_lt j (v := k) (by omega)
        by_cases hj8 : j < 8
        · have HS := Lib.hid (crcN_succ j k)
          generalize crcN j k = x at *
          have ha := and1_u32 x hx
          by_cases hodd : x % 2 = 1
          · rw [hodd] at ha
            go_wp2
            go_round
            case rel => exact ⟨j + 1, by omega, by go_num, by rw [HS.out, crc1_odd hx hodd]⟩
            case measure => simp [intOf]; omega
          · have h0 : x % 2 = 0 := by omega
            rw [h0] at ha
            go_wp2
            go_round
            case rel => exact ⟨j + 1, by omega, by go_num, by rw [HS.out, crc1_even' h0]⟩
            case measure => simp [intOf]; omega
        · obtain rfl : j = 8 := by omega
          have HT := Lib.hid (tabA_set k hlt)
          have e8 : crcN 8 k = crc8 k := rfl
          rw [e8]
          go_wp2
          go_roundw
          case rel => refine ⟨k + 1, by omega, by go_num, hb0.far (by simp) _, ?_, hbel.setCell (by simp) _⟩; rw [← HT.out]; exact hb1.put _ _
          case measure => simp [intOf]; omega
    · obtain rfl : k = 256 := by omega
      go_wp2_with (first
        | (refine wpList_load_row (by rfl) 82 (.tmp 1) (by rfl) (w.heap.size + 1) (by rfl) _ _ _ _ hb1 Try.underlying82 rfl (by rw [tabA_size]; exact info_table) ?_)
        | (refine wpList_store_row (by rfl) 82 (.tmp 0) (.tmp 24) (by rfl) w.heap.size (tabA 256) (by rfl) (by rfl) _ _ hb0 (by rw [tabA_size]; exact info_table) (by rw [tabA_size, tabA_size]) (one_tabA 256) ?_))
      refine bodyPost_ret (v := .agg (tabA 256)) (results_cell_row Try.results53 _ _ w.heap.size 82 _ (0, 0) _ rfl (setRow_is hb0 _) Try.underlying82 rfl (by rw [tabA_size]; exact info_table)) rfl ⟨rfl, below_setRow hbel (Nat.le_refl _) _⟩
theorem not_u32 {x : Nat} (h : x < 4294967296) : bits .xor .u32 IntKind.u32.max (x : Int) = ((4294967295 - x : Nat) : Int) := by
  have h1 := u32_xor_nat 4294967295 x (by omega) h
  have h2 : 4294967295 ^^^ x = 4294967295 - x := by
    have h3 := BitVec.toNat_not (x := BitVec.ofNat 32 x)
    rw [BitVec.not_def, BitVec.toNat_xor, BitVec.toNat_allOnes, BitVec.toNat_ofNat, Nat.mod_eq_of_lt (by omega)] at h3
    simpa using h3
  rw [h2] at h1
  exact h1
theorem crcF_snoc (l : List UInt8) (c : UInt8) (v : Nat) : crcF (l ++ [c]) v = crcB (crcF l v) c := by simp [crcF]
theorem crcB_step {x i : Nat} {c : UInt8} (hx : x < 4294967296) (hi : i = (x % 256) ^^^ c.toNat) : bits .xor .u32 ((x : Int) / 256) (crc8 i : Int) = (crcB x c : Int) := by
  have hc := c.toNat_lt
  have h256 : i < 256 := by
    rw [hi]
    have := Nat.xor_lt_two_pow (n := 8) (x := x % 256) (y := c.toNat) (by omega) (by omega)
    simpa using this
  have := u32_xor_nat (x / 256) (crc8 i) (by omega) (crc8_lt (by omega))
  rw [crcB_table, ← hi]
  exact this
set_option maxRecDepth 100000 in
set_option maxHeartbeats 1000000 in
theorem checksum_any (B : Nat) (v : Value) (l : List UInt8) (w : World) (h : Sl B w v l) (hB : B ≤ w.heap.size) (hl : l.length ≤ 4611686018427387904) : Calls Try.prog 18 #[v] w fun e w' => e = .returned (.int .u32 (crcL l : Int)) ∧ Below w.heap.size w w' := by
  obtain ⟨a, c, rfl, hc, hx⟩ := h
  have HX := Lib.hid hx
  clear hx
  go_enter Try.func18, Try.ntmps18
  go_wp2_with (first
    | (go_at_call 53; refine (table_any _).mono ?_; rintro e w1 ⟨rfl, hb1⟩)
    | (refine wpList_store_row (by rfl) 82 (.tmp 3) (.tmp 7) (by rfl) w1.heap.size (tabA 256) (by rfl) (by rfl) _ _ (BlkIs.new _ _ _) (by rw [tabA_size]; exact info_table) (by rw [tabA_zero, tabA_size, tabA_size]) (one_tabA 256) ?_))
  have hblk : BlkIs ((w1.alloc (.cells Try.zeroCells82 82)).setRow w1.heap.size (tabA 256)) w1.heap.size 82 (tabA 256) := setRow_is (BlkIs.new _ _ _) _
  have hbel : Below w.heap.size w ((w1.alloc (.cells Try.zeroCells82 82)).setRow w1.heap.size (tabA 256)) := below_setRow (hb1.alloc hb1.size _) hb1.size _
  clear hb1
  generalize (w1.alloc (.cells Try.zeroCells82 82)).setRow w1.heap.size (tabA 256) = W at *
  generalize w1.heap.size = g at *
  go_loop [4, 6, 10] (fun v _ t => ∃ j : Nat, j ≤ l.length ∧ t = .int .i64 j ∧ v = .int .u32 (crcF (l.take j) 4294967295 : Int)) (fun _ _ t => l.length - (intOf t).toNat)
  case atStart => exact ⟨0, by omega, rfl, rfl⟩
  case round =>
    obtain ⟨j, hj, rfl, rfl⟩ := hrel
    have hx := crcF_lt (l.take j) (v := 4294967295) (by decide)
    by_cases hjl : j < l.length
    · have hjl' : (j : Int) < (l.length : Int) := by omega
      obtain ⟨b, o, rfl, hb, hcells⟩ := HX.out (by omega)
      have hcell : W.cell? ⟨b, o + j, none⟩ = some (.int .u8 (l[j].toNat : Int)) := (hbel.cell (p := ⟨b, o + j, none⟩) (Nat.lt_of_lt_of_le hb hB)).trans (hcells j l[j] (List.getElem?_eq_getElem hjl))
      clear hcells
      have HT : Hid (crcF (l.take (j + 1)) 4294967295 = crcB (crcF (l.take j) 4294967295) l[j]) := by
        unfold Hid
        rw [List.take_succ_eq_append_getElem hjl, crcF_snoc]
      have hcb := l[j].toNat_lt
      generalize crcF (l.take j) 4294967295 = x at *
      obtain ⟨i, hi⟩ : ∃ i, i = (x % 256) ^^^ l[j].toNat := ⟨_, rfl⟩
      have hi8 : bits .xor .u8 ((x : Int) % 256) (l[j].toNat : Int) = (i : Int) := by
        rw [hi]
        exact u8_xor_nat (x % 256) l[j].toNat (by omega) (by omega)
      have hib : i < 256 := by
        rw [hi]
        have := Nat.xor_lt_two_pow (n := 8) (x := x % 256) (y := l[j].toNat) (by omega) (by omega)
        simpa using this
      have hib' : (i : Int) < 256 := by omega
      have ht : W.cell? ⟨g, i, none⟩ = some (.int .u32 (crc8 i : Int)) := by rw [hblk.cell, tabA_get 256 i hib, if_pos hib]
      have HST := Lib.hid (crcB_step hx hi)
      clear hi
      go_wp2
      go_round
      case rel => exact ⟨j + 1, by omega, by go_num, by rw [HST.out, HT.out]⟩
      case measure => simp [intOf]; omega
    · obtain rfl : j = l.length := by omega
      rw [List.take_length] at hx
      go_wp2
      go_ret
      exact ⟨ret_int (by rw [not_u32 hx]; rfl), hbel⟩
set_option maxRecDepth 100000 in
set_option maxHeartbeats 1000000 in
theorem gchecksum_any (B : Nat) (v : Value) (l : List UInt8) (w : World) (h : Sl B w v l) (hl : l.length ≤ 4611686018427387904) : Calls Try.prog 19 #[v] w fun e w' => e = .returned (.int .u32 (crcL l : Int)) ∧ w = w' := by
  obtain ⟨a, c, rfl, hc, hx⟩ := h
  have HX := Lib.hid hx
  clear hx
  go_enter Try.func19, Try.ntmps19
  go_wp2
  go_loop [3, 4, 5, 6] (fun v t _ _ => ∃ j : Nat, j ≤ l.length ∧ t = .int .i64 j ∧ v = .int .u32 (crcF (l.take j) 4294967295 : Int)) (fun _ t _ _ => l.length - (intOf t).toNat)
  case atStart => exact ⟨0, by omega, rfl, rfl⟩
  case round =>
    obtain ⟨j, hj, rfl, rfl⟩ := hrel
    have hx := crcF_lt (l.take j) (v := 4294967295) (by decide)
    by_cases hjl : j < l.length
    · have hjl' : (j : Int) < (l.length : Int) := by omega
      obtain ⟨b, o, rfl, hb, hcells⟩ := HX.out (by omega)
      have hcell : w.cell? ⟨b, o + j, none⟩ = some (.int .u8 (l[j].toNat : Int)) := hcells j l[j] (List.getElem?_eq_getElem hjl)
      clear hcells
      have HT : Hid (crcF (l.take (j + 1)) 4294967295 = crcB (crcF (l.take j) 4294967295) l[j]) := by
        unfold Hid
        rw [List.take_succ_eq_append_getElem hjl, crcF_snoc]
      have hcb := l[j].toNat_lt
      generalize crcF (l.take j) 4294967295 = x at *
      obtain ⟨y, hy⟩ : ∃ y, y = x ^^^ l[j].toNat := ⟨_, rfl⟩
      have hy32 : bits .xor .u32 (x : Int) (l[j].toNat : Int) = (y : Int) := by
        rw [hy]
        exact u32_xor_nat x l[j].toNat hx (by omega)
      have hyb : y < 4294967296 := by rw [hy]; exact xor_lt32 hx (by omega)
      have HY : Hid (crcB x l[j] = crcN 8 y) := by unfold Hid crcB crc8; rw [hy]
      clear hy
      go_wp2
      go_loop [3, 5, 6] (fun v t _ => ∃ i : Nat, i ≤ 8 ∧ t = .int .i64 i ∧ v = .int .u32 (crcN i y : Int)) (fun _ t _ => 8 - (intOf t).toNat)
      case atStart => exact ⟨0, by omega, rfl, rfl⟩
      case round =>
        obtain ⟨i, hi, rfl, rfl⟩ := hrel
        have hx := crcN_lt i hyb
        by_cases hi8 : i < 8
        · have HS := Lib.hid (crcN_succ i y)
          generalize crcN i y = x at *
          have ha := and1_u32 x hx
          by_cases hodd : x % 2 = 1
          · rw [hodd] at ha
            go_wp2
            go_round
            case rel => exact ⟨i + 1, by omega, by go_num, by rw [HS.out, crc1_odd hx hodd]⟩
            case measure => simp [intOf]; omega
          · have h0 : x % 2 = 0 := by omega
            rw [h0] at ha
            go_wp2
            go_round
            case rel => exact ⟨i + 1, by omega, by go_num, by rw [HS.out, crc1_even' h0]⟩
            case measure => simp [intOf]; omega
        · obtain rfl : i = 8 := by omega
          go_wp2
          go_round
          case rel => exact ⟨j + 1, by omega, by go_num, by rw [HT.out, HY.out]⟩
          case measure => simp [intOf]; omega
    · obtain rfl : j = l.length := by omega
      rw [List.take_length] at hx
      go_wp2
      go_ret
      exact ⟨ret_int (by rw [not_u32 hx]; rfl), rfl⟩
end Go.Proofs.Ytkkjiihdmpngbaa
