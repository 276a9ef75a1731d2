/-
  DocumentChecksumOfZeros: the checksums of rows of fewer than 64 zeros are equal only if their lengths are. No conditions.
-/
import Derived.Test.YtkkjiihdmpngbaaDh2
import Derived.Test.YtkkjiihdmpngbaaRg
import Derived.Test.YtkkjiihdmpngbaaLfr
import Derived.Test.YtkkjiihdmpngbaaZp
import Derived.SizedLaws
namespace Go.Proofs.Ytkkjiihdmpngbaa
open Go.ChangeShapes Go.WideShapes Go.ChangeAt Go.RowKit
set_option linter.unusedVariables false

section
variable {P : Program} {ops : Array Oper} {Q : Exit → Act → World → Prop} {S : List Nat} {fin : Array Bool} {E : Act → World → Prop}
theorem ga_step {fuel : Nat} {listed : Array Bool} {a : Act} {w : World} (r : List Nat) (hr : Region.ready .any ops listed = r) (hne : r ≠ []) (hf : (r.all fun i => fin.getD i false) = true)
    (h : ∀ w', Below w.heap.size w w' → ∀ i ∈ r, wpOp P ops Q i (fun a' w'' => KeptBut S w' w'' ∧ wpAnyG P ops Q S fin E fuel (listed.setIfInBounds i true) a' w'') a w') : wpAnyG P ops Q S fin E (fuel + 1) listed a w := by
  subst hr
  exact ⟨hne, fun i hi => List.all_eq_true.1 hf i hi, h⟩
theorem ga_do {fuel i : Nat} {o : Oper} {listed : Array Bool} {a : Act} {w : World} (hi : ops[i]? = some o) (hw : Region.wanted o (yielded ops a.tmps) = true)
    (h : ∀ K : Act → World → Prop, (∀ a' w'', KeptBut S w w'' → wpAnyG P ops Q S fin E fuel listed a' w'' → K a' w'') → o.wp P a w K Q) :
    wpOp P ops Q i (fun a' w'' => KeptBut S w w'' ∧ wpAnyG P ops Q S fin E fuel listed a' w'') a w := by
  unfold wpOp
  rw [hi]
  simp only [hw, if_true]
  exact .inl (h _ fun _ _ h1 h2 => ⟨h1, h2⟩)
theorem ga_nil {listed : Array Bool} {a : Act} {w : World} (hl : listed = fin) (h : ∀ w', Below w.heap.size w w' → E a w') : wpAnyG P ops Q S fin E 0 listed a w := ⟨hl, h⟩
theorem wp_region_ga {id : Nat} {a : Act} {w : World} {l : List Oper} (fin : Array Bool) (n : Nat) (hn : l.toArray.size = n) (hm : P.follows .mixedOrders = true) (hfin : Region.ready .any l.toArray fin = [])
    (h : wpAnyG P l.toArray Q [] fin (fun a w => Q .normal a w) n (Array.replicate n false) a w.drew) : (Code.region id l.toArray true).wp P Q a w := by
  subst hn
  exact wp_region_any hm (wpAny_of_G (m := 0) (fun a w h => ⟨hfin, h⟩) _ _ a _ h)
end
theorem mkz (w : World) (n : Nat) (hn : n ≤ 63) : ∃ w', (Instr.makeSlice 22 (.int .i64 (n : Int)) (.int .i64 (n : Int))).run Try.prog w = .ok (.slice (some ⟨w.heap.size, 0, none⟩) n n) w' ∧ w'.ownsRow w.heap.size 5 1 (.slice (some ⟨w.heap.size, 0, none⟩) n n) n (bytesV (List.replicate n 0)) ∧ w.grownBy w' none := by
  obtain ⟨i0, hi, hz0, hz1, hz2⟩ := info_parts Try.infoU8
  obtain ⟨w', h1, h2, h3⟩ := run_makeSlice_full (P := Try.prog) w w.heap.size 22 5 i0 (.int .u8 0) 1 Try.underlying22 hi hz0 hz1 .i64 .i64 n (by omega) (by rw [hz2]; omega) (by simp [maxLen]; omega) (Nat.le_refl _)
  refine ⟨w', h1, ?_, h3⟩
  have e : (madeCells (Value.int .u8 0).cells (n * 1)).toList = bytesV (List.replicate n 0) := by
    apply List.ext_getElem
    · simp [madeCells, bytesV]
    · intro i h1 h2
      simp [madeCells, Value.cells, bytesV, Nat.mod_one]
  rw [← e]
  exact h2
attribute [local irreducible] wpAnyG
theorem zs_end {m n : Nat} (hm : m ≤ 63) (hn : n ≤ 63) : (((crcL (List.replicate m 0) : Int) == (crcL (List.replicate n 0) : Int)) == ((m : Int) == (n : Int))) = true := by rw [crcz hm hn]; simp

set_option maxRecDepth 100000 in
set_option maxHeartbeats 1000000 in
theorem lzs_walk (x y : Int) (w : World) :
    Calls Try.prog 4 #[.int .i64 x, .int .i64 y] w fun e w' => e = .returned (.bool true) ∧ Below w.heap.size w w' := by
  go_enter Try.func4, Try.ntmps4
  go_wp2_with fail
  refine (mod2_any x 64 _ (by decide) (by decide)).mono ?_
  rintro e w' ⟨rfl, rfl⟩
  obtain ⟨x1, x2⟩ := emod_bd x 64 (by decide)
  obtain ⟨m, hm⟩ := Int.eq_ofNat_of_zero_le x1
  rw [hm] at x1 x2 ⊢
  clear hm
  go_wp2_with fail
  refine (mod2_any y 64 _ (by decide) (by decide)).mono ?_
  rintro e w' ⟨rfl, rfl⟩
  obtain ⟨y1, y2⟩ := emod_bd y 64 (by decide)
  obtain ⟨n, hn⟩ := Int.eq_ofNat_of_zero_le y1
  rw [hn] at y1 y2 ⊢
  clear hn
  go_wp2_with fail
  refine wp_region_ga #[true, true, true, true, true, true, true, true, true, true, true, true, true, true, true] 15 rfl (by kernel_rfl) (by kernel_rfl) ?_
  have hbel : Below w.heap.size w w.drew := (Below.refl _ _).drew
  generalize w.drew = W at *
  refine ga_step [0] (by kernel_rfl) (by simp) (by kernel_rfl) ?_
  intro w1 hw1 i hi
  replace hbel := bnext hbel hw1
  clear hw1
  obtain rfl : i = 0 := by simpa using hi
  clear hi
  refine ga_do rfl rfl ?_
  intro K hK
  go_simp
  refine (awake_any _).mono ?_
  rintro e w2 ⟨rfl, hb⟩
  refine hK _ _ (KeptBut.of_below hb) ?_
  clear hK K
  replace hbel := bnext hbel hb
  clear hb
  refine wpAnyG_pre (m := 8) (listed1 := #[true, true, true, false, false, true, false, false, false, true, true, true, false, false, false]) (tailW_spec (by kernel_rfl)) (by kernel_rfl) (fun _ _ _ _ _ h => h) [1, 2, 5, 9, 10, 11] _ _ (closedB_spec (by kernel_rfl)) (by decide) (by kernel_rfl) ?_
  simp only [picked, List.getElem?_cons_zero, List.getElem?_cons_succ]
  repeat (refine pre_quiet ?_; go_big_quiet_step (fail); refine wpQuiet_nil ?_)
  refine pre_nil ?_
  intro hcl_
  clear hcl_
  refine ga_step [3, 6] (by kernel_rfl) (by simp) (by kernel_rfl) ?_
  intro w3 hw3 i hi
  replace hbel := bnext hbel hw3
  clear hw3
  simp only [List.mem_cons, List.not_mem_nil, or_false] at hi
  rcases hi with rfl | rfl
  · refine ga_do rfl rfl ?_
    intro K hK
    obtain ⟨w4, hmk, ho, hg⟩ := mkz w3 m (by omega)
    have s4 : Sl w4.heap.size w4 (.slice (some ⟨w3.heap.size, 0, none⟩) m m) (List.replicate m 0) := Sl.of_own (by simpa using ho)
    have hb4 : Below w3.heap.size w3 w4 := ⟨hg.os, hg.tape, hg.output, hg.size, fun k hk => hg.block k hk (by simp)⟩
    go_simp
    clear hmk ho hg
    refine hK _ _ (KeptBut.of_below hb4) ?_
    clear hK K
    replace hbel := bnext hbel hb4
    refine ga_step [4, 6] (by kernel_rfl) (by simp) (by kernel_rfl) ?_
    intro w5 hb5 q hq
    replace hbel := bnext hbel hb5
    simp only [List.mem_cons, List.not_mem_nil, or_false] at hq
    rcases hq with rfl | rfl
    · refine ga_do rfl rfl ?_
      intro K hK
      go_simp
      refine (checksum_any _ _ _ _ (s4.below hb5) (hb5.size) (by simp; omega)).mono ?_
      rintro e w6 ⟨rfl, hb6⟩
      refine hK _ _ (KeptBut.of_below hb6) ?_
      clear hK K
      replace hbel := bnext hbel hb6
      refine ga_step [6] (by kernel_rfl) (by simp) (by kernel_rfl) ?_
      intro w7 hb7 q hq
      obtain rfl : q = 6 := by simpa using hq
      clear hq
      refine ga_do rfl rfl ?_
      intro K hK
      replace hbel := bnext hbel hb7
      obtain ⟨w8, hmk, ho, hg⟩ := mkz w7 n (by omega)
      have s8 : Sl w8.heap.size w8 (.slice (some ⟨w7.heap.size, 0, none⟩) n n) (List.replicate n 0) := Sl.of_own (by simpa using ho)
      have hb8 : Below w7.heap.size w7 w8 := ⟨hg.os, hg.tape, hg.output, hg.size, fun k hk => hg.block k hk (by simp)⟩
      go_simp
      clear hmk ho hg
      refine hK _ _ (KeptBut.of_below hb8) ?_
      clear hK K
      replace hbel := bnext hbel hb8
      refine ga_step [7] (by kernel_rfl) (by simp) (by kernel_rfl) ?_
      intro w9 hb9 q hq
      obtain rfl : q = 7 := by simpa using hq
      clear hq
      refine ga_do rfl rfl ?_
      intro K hK
      replace hbel := bnext hbel hb9
      go_simp
      refine (checksum_any _ _ _ _ (s8.below hb9) (hb9.size) (by simp; omega)).mono ?_
      rintro e w10 ⟨rfl, hb10⟩
      refine hK _ _ (KeptBut.of_below hb10) ?_
      clear hK K
      replace hbel := bnext hbel hb10
      refine ga_step [8] (by kernel_rfl) (by simp) (by kernel_rfl) ?_
      intro t1 ht1 q hq
      obtain rfl : q = 8 := by simpa using hq
      clear hq
      refine ga_do rfl rfl ?_
      intro K hK
      replace hbel := bnext hbel ht1
      go_simp
      refine hK _ _ (KeptBut.refl _ _) ?_
      clear hK K
      clear ht1
      refine ga_step [12] (by kernel_rfl) (by simp) (by kernel_rfl) ?_
      intro t2 ht2 q hq
      obtain rfl : q = 12 := by simpa using hq
      clear hq
      refine ga_do rfl rfl ?_
      intro K hK
      replace hbel := bnext hbel ht2
      go_simp
      refine hK _ _ (KeptBut.refl _ _) ?_
      clear hK K
      clear ht2
      refine ga_step [13] (by kernel_rfl) (by simp) (by kernel_rfl) ?_
      intro t3 ht3 q hq
      obtain rfl : q = 13 := by simpa using hq
      clear hq
      refine ga_do rfl rfl ?_
      intro K hK
      replace hbel := bnext hbel ht3
      go_simp
      refine hK _ _ (KeptBut.refl _ _) ?_
      clear hK K
      clear ht3
      refine ga_step [14] (by kernel_rfl) (by simp) (by kernel_rfl) ?_
      intro t4 ht4 q hq
      obtain rfl : q = 14 := by simpa using hq
      clear hq
      refine ga_do rfl rfl ?_
      intro K hK
      replace hbel := bnext hbel ht4
      go_simp
      refine hK _ _ (KeptBut.refl _ _) ?_
      clear hK K
      clear ht4
      refine ga_nil (by kernel_rfl) ?_
      intro t5 ht5
      replace hbel := bnext hbel ht5
      go_wp2
      go_ret
      exact ⟨ret_bool (zs_end (by omega) (by omega)), hbel⟩
    · refine ga_do rfl rfl ?_
      intro K hK
      obtain ⟨w6, hmk, ho, hg⟩ := mkz w5 n (by omega)
      have s6 : Sl w6.heap.size w6 (.slice (some ⟨w5.heap.size, 0, none⟩) n n) (List.replicate n 0) := Sl.of_own (by simpa using ho)
      have hb6 : Below w5.heap.size w5 w6 := ⟨hg.os, hg.tape, hg.output, hg.size, fun k hk => hg.block k hk (by simp)⟩
      go_simp
      clear hmk ho hg
      refine hK _ _ (KeptBut.of_below hb6) ?_
      clear hK K
      replace hbel := bnext hbel hb6
      have s4 := s4.below (bnext hb5 hb6)
      have z4 := (bnext hb5 hb6).size
      refine ga_step [4] (by kernel_rfl) (by simp) (by kernel_rfl) ?_
      intro w7 hb7 q hq
      obtain rfl : q = 4 := by simpa using hq
      clear hq
      refine ga_do rfl rfl ?_
      intro K hK
      replace hbel := bnext hbel hb7
      go_simp
      refine (checksum_any _ _ _ _ (s4.below (hb7.mono z4)) (Nat.le_trans z4 hb7.size) (by simp; omega)).mono ?_
      rintro e w8 ⟨rfl, hb8⟩
      refine hK _ _ (KeptBut.of_below hb8) ?_
      clear hK K
      replace hbel := bnext hbel hb8
      refine ga_step [7] (by kernel_rfl) (by simp) (by kernel_rfl) ?_
      intro w9 hb9 q hq
      obtain rfl : q = 7 := by simpa using hq
      clear hq
      refine ga_do rfl rfl ?_
      intro K hK
      replace hbel := bnext hbel hb9
      go_simp
      refine (checksum_any _ _ _ _ (s6.below (bnext (bnext hb7 hb8) hb9)) ((bnext (bnext hb7 hb8) hb9).size) (by simp; omega)).mono ?_
      rintro e w10 ⟨rfl, hb10⟩
      refine hK _ _ (KeptBut.of_below hb10) ?_
      clear hK K
      replace hbel := bnext hbel hb10
      refine ga_step [8] (by kernel_rfl) (by simp) (by kernel_rfl) ?_
      intro t1 ht1 q hq
      obtain rfl : q = 8 := by simpa using hq
      clear hq
      refine ga_do rfl rfl ?_
      intro K hK
      replace hbel := bnext hbel ht1
      go_simp
      refine hK _ _ (KeptBut.refl _ _) ?_
      clear hK K
      clear ht1
      refine ga_step [12] (by kernel_rfl) (by simp) (by kernel_rfl) ?_
      intro t2 ht2 q hq
      obtain rfl : q = 12 := by simpa using hq
      clear hq
      refine ga_do rfl rfl ?_
      intro K hK
      replace hbel := bnext hbel ht2
      go_simp
      refine hK _ _ (KeptBut.refl _ _) ?_
      clear hK K
      clear ht2
      refine ga_step [13] (by kernel_rfl) (by simp) (by kernel_rfl) ?_
      intro t3 ht3 q hq
      obtain rfl : q = 13 := by simpa using hq
      clear hq
      refine ga_do rfl rfl ?_
      intro K hK
      replace hbel := bnext hbel ht3
      go_simp
      refine hK _ _ (KeptBut.refl _ _) ?_
      clear hK K
      clear ht3
      refine ga_step [14] (by kernel_rfl) (by simp) (by kernel_rfl) ?_
      intro t4 ht4 q hq
      obtain rfl : q = 14 := by simpa using hq
      clear hq
      refine ga_do rfl rfl ?_
      intro K hK
      replace hbel := bnext hbel ht4
      go_simp
      refine hK _ _ (KeptBut.refl _ _) ?_
      clear hK K
      clear ht4
      refine ga_nil (by kernel_rfl) ?_
      intro t5 ht5
      replace hbel := bnext hbel ht5
      go_wp2
      go_ret
      exact ⟨ret_bool (zs_end (by omega) (by omega)), hbel⟩
  · refine ga_do rfl rfl ?_
    intro K hK
    obtain ⟨w4, hmk, ho, hg⟩ := mkz w3 n (by omega)
    have s4 : Sl w4.heap.size w4 (.slice (some ⟨w3.heap.size, 0, none⟩) n n) (List.replicate n 0) := Sl.of_own (by simpa using ho)
    have hb4 : Below w3.heap.size w3 w4 := ⟨hg.os, hg.tape, hg.output, hg.size, fun k hk => hg.block k hk (by simp)⟩
    go_simp
    clear hmk ho hg
    refine hK _ _ (KeptBut.of_below hb4) ?_
    clear hK K
    replace hbel := bnext hbel hb4
    refine ga_step [3] (by kernel_rfl) (by simp) (by kernel_rfl) ?_
    intro w5 hb5 q hq
    obtain rfl : q = 3 := by simpa using hq
    clear hq
    refine ga_do rfl rfl ?_
    intro K hK
    replace hbel := bnext hbel hb5
    obtain ⟨w6, hmk, ho, hg⟩ := mkz w5 m (by omega)
    have s6 : Sl w6.heap.size w6 (.slice (some ⟨w5.heap.size, 0, none⟩) m m) (List.replicate m 0) := Sl.of_own (by simpa using ho)
    have hb6 : Below w5.heap.size w5 w6 := ⟨hg.os, hg.tape, hg.output, hg.size, fun k hk => hg.block k hk (by simp)⟩
    go_simp
    clear hmk ho hg
    refine hK _ _ (KeptBut.of_below hb6) ?_
    clear hK K
    replace hbel := bnext hbel hb6
    have s4 := s4.below (bnext hb5 hb6)
    have z4 := (bnext hb5 hb6).size
    refine ga_step [4] (by kernel_rfl) (by simp) (by kernel_rfl) ?_
    intro w7 hb7 q hq
    obtain rfl : q = 4 := by simpa using hq
    clear hq
    refine ga_do rfl rfl ?_
    intro K hK
    replace hbel := bnext hbel hb7
    go_simp
    refine (checksum_any _ _ _ _ (s6.below hb7) (hb7.size) (by simp; omega)).mono ?_
    rintro e w8 ⟨rfl, hb8⟩
    refine hK _ _ (KeptBut.of_below hb8) ?_
    clear hK K
    replace hbel := bnext hbel hb8
    have h78 := bnext hb7 hb8
    refine ga_step [7] (by kernel_rfl) (by simp) (by kernel_rfl) ?_
    intro w9 hb9 q hq
    obtain rfl : q = 7 := by simpa using hq
    clear hq
    refine ga_do rfl rfl ?_
    intro K hK
    replace hbel := bnext hbel hb9
    have h79 := bnext h78 hb9
    go_simp
    refine (checksum_any _ _ _ _ (s4.below (h79.mono z4)) (Nat.le_trans z4 h79.size) (by simp; omega)).mono ?_
    rintro e w10 ⟨rfl, hb10⟩
    refine hK _ _ (KeptBut.of_below hb10) ?_
    clear hK K
    replace hbel := bnext hbel hb10
    refine ga_step [8] (by kernel_rfl) (by simp) (by kernel_rfl) ?_
    intro t1 ht1 q hq
    obtain rfl : q = 8 := by simpa using hq
    clear hq
    refine ga_do rfl rfl ?_
    intro K hK
    replace hbel := bnext hbel ht1
    go_simp
    refine hK _ _ (KeptBut.refl _ _) ?_
    clear hK K
    clear ht1
    refine ga_step [12] (by kernel_rfl) (by simp) (by kernel_rfl) ?_
    intro t2 ht2 q hq
    obtain rfl : q = 12 := by simpa using hq
    clear hq
    refine ga_do rfl rfl ?_
    intro K hK
    replace hbel := bnext hbel ht2
    go_simp
    refine hK _ _ (KeptBut.refl _ _) ?_
    clear hK K
    clear ht2
    refine ga_step [13] (by kernel_rfl) (by simp) (by kernel_rfl) ?_
    intro t3 ht3 q hq
    obtain rfl : q = 13 := by simpa using hq
    clear hq
    refine ga_do rfl rfl ?_
    intro K hK
    replace hbel := bnext hbel ht3
    go_simp
    refine hK _ _ (KeptBut.refl _ _) ?_
    clear hK K
    clear ht3
    refine ga_step [14] (by kernel_rfl) (by simp) (by kernel_rfl) ?_
    intro t4 ht4 q hq
    obtain rfl : q = 14 := by simpa using hq
    clear hq
    refine ga_do rfl rfl ?_
    intro K hK
    replace hbel := bnext hbel ht4
    go_simp
    refine hK _ _ (KeptBut.refl _ _) ?_
    clear hK K
    clear ht4
    refine ga_nil (by kernel_rfl) ?_
    intro t5 ht5
    replace hbel := bnext hbel ht5
    go_wp2
    go_ret
    exact ⟨ret_bool (zs_end (by omega) (by omega)), hbel⟩

set_option maxRecDepth 100000 in
theorem lzs_lifted (os : Os) (started : os.Started) (H : Type) (enc : TypeId × Value → H) :
    ReturnsInHanded {} Try.checked os 4 .any (Rows.documentChecksumOfZerosSpec.pre6 enc Try.prog Try.f4 Rows.documentChecksumOfZerosRow.domain false) (Rows.documentChecksumOfZerosSpec.post enc Try.prog Try.f4 false true false false) := by
  refine returnsInHanded_of_change_sized (C := Try.checked) own_knob started (by kernel_rfl) Try.func4
    (ChangeSpec.witness6 (enc := enc) (C := Try.checked) false ⟨#[], #[.int .i64 0, .int .i64 0], []⟩ 8 (by kernel_rfl) (by kernel_rfl) (by kernel_rfl) (by kernel_rfl)) ?_
  intro W base args ds gs before hval0 hW hcnd hsz0 _
  have hval : ∀ (j : Nat) t v, Try.f4.params[j]? = some t → args[j]? = some v → Value.okWide Try.prog W .any base t v := hval0
  have hsz : (DataW.weightsEach Try.prog (Try.f4.params.toList ++ Rows.documentChecksumOfZerosSpec.plain.varTypes Try.prog) (ds ++ gs)).all (· ≤ reachBytes) = true := hsz0
  have hW' := hW
  obtain ⟨p, q, hA0, hV, rfl, hfz, hnd⟩ := hW
  have hA : DataW.TrodAll enc Try.prog W 0 (fun _ => true) true Try.f4.params.toList args.toList ds p := hA0
  rw [Try.params4] at hA hval hsz
  obtain ⟨v0, vs0, d0, ds0, p0, q0, hargs, rfl, rfl, h0, tl0⟩ := trodAll_cons hA
  obtain ⟨v1, vs1, d1, ds1, p1, q1, rfl, rfl, rfl, h1, tl1⟩ := trodAll_cons tl0
  obtain ⟨rfl, rfl, rfl⟩ := trodAll_nil tl1
  obtain rfl : args = #[v0, v1] := by cases args; simp_all
  obtain ⟨rfl, rfl⟩ := trodVars_none hV
  have k0 := h0
  have lt0 : ∀ x ∈ p0, x.block < W.heap.size := by obtain ⟨m, hm⟩ := k0; exact DataW.trod_lt m _ _ _ hm
  have k1 := h1
  have lt1 : ∀ x ∈ p1, x.block < W.heap.size := by obtain ⟨m, hm⟩ := k1; exact DataW.trod_lt m _ _ _ hm
  obtain ⟨a, rfl, rfl, rfl, w1⟩ := open_int Try.underlying3 (hval 0 3 v0 rfl rfl) h0
  obtain ⟨b, rfl, rfl, rfl, w2⟩ := open_int Try.underlying3 (hval 1 3 v1 rfl rfl) h1
  clear hA0 hval0
  refine (lzs_walk a b W).mono fun e W' ⟨he, bel⟩ => ?_
  subst he
  exact ⟨_, rfl, _, _, _, [], _, [], hW', trodAll_mk1 (shut_bool Try.underlying4 _), (trodAll_cons_mk (Below.trod laid_out (by kernel_rfl) (of_decide_eq_true (by kernel_rfl)) k0 bel lt0) (trodAll_cons_mk (Below.trod laid_out (by kernel_rfl) (of_decide_eq_true (by kernel_rfl)) k1 bel lt1) trodAll_mk0)), rfl, bel.frame _, fun h => by cases h⟩

theorem lzs_over : Rows.documentChecksumOfZerosRow.holds Try.pinned (OpenSpec.ofChange Rows.documentChecksumOfZerosSpec) :=
  OpenClaim.holds_of_wide 4 Try.f4 rfl rfl rfl rfl rfl rfl rfl ⟨rfl, rfl, rfl, rfl, rfl⟩ rfl rfl rfl rfl rfl (by kernel_rfl) Try.func4 (by kernel_rfl)
    (of_decide_eq_true (by kernel_rfl)) (by unfold Func.isWrapper; first | (rw [if_pos (by decide +kernel)]; kernel_rfl) | (rw [if_neg (by decide +kernel)]; exact ⟨rfl, rfl⟩))
    (fun os started H enc _ => lzs_lifted os started H enc)

/-- The statement. -/
theorem lzs_holds : Rows.DocumentChecksumOfZerosSaid := lzs_over
#print axioms lzs_holds
end Go.Proofs.Ytkkjiihdmpngbaa
