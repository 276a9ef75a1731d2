/-
  AuditFindsAWrongNumber: a changed net amount, a deduction above the independent amount, a repeated item, a share above the theoretical amount and a conversion that does not raise are found. No conditions.
-/
import Derived.Test.YtnlcgiemhegmcaaFrn
namespace Go.Proofs.Ytnlcgiemhegmcaa
open Go.ChangeShapes Go.WideShapes Go.ChangeAt Go.RowKit
set_option linter.unusedVariables false

theorem own_of_blk {w : World} {g base : Nat} {L : List Ln} (h : BlkIs w g 36 (rowL L).toArray) (hb : base ≤ g) (hl : L.length ≤ 1000) : w.ownsRow base 36 5 (.slice (some ⟨g, 0, none⟩) L.length L.length) L.length (rowL L) := by
  refine ⟨rowL_length L, .inr ⟨g, L.length, (rowL L).toArray, rfl, hb, h, Nat.le_refl _, by unfold maxLen; omega, by simp [rowL_length], ?_⟩⟩
  rw [← rowL_length]
  simp
def hd0 : Ln := ⟨0, 1, 7, 1, 1⟩
theorem hd0_sound : soundB [hd0] = true := by decide +kernel
/-- What is known of the lines before they are put behind the first one. -/
structure FwR (w : World) (g : Nat) (L : List Ln) (W : World) : Prop where
  bel : Below w.heap.size w W
  lt : g < W.heap.size
  cell : ∀ j, j < L.length * 5 → W.cell? ⟨g, 0 + j, none⟩ = (rowL L)[j]?
theorem FwR.of_blk {w W : World} {g : Nat} {L : List Ln} (hb : Below w.heap.size w W) (h : BlkIs W g 36 (rowL L).toArray) : FwR w g L W :=
  ⟨hb, h.lt, fun j hj => by rw [Nat.zero_add, h.cell j]; simp⟩
theorem FwR.alloc {w W : World} {g : Nat} {L : List Ln} (h : FwR w g L W) (o : Obj) : FwR w g L (W.alloc o) :=
  have hb : Below W.heap.size W (W.alloc o) := (Below.refl _ _).alloc (Nat.le_refl _) _
  ⟨bnext h.bel hb, Nat.lt_of_lt_of_le h.lt hb.size, fun j hj => (hb.cell (p := ⟨g, 0 + j, none⟩) h.lt).trans (h.cell j hj)⟩
theorem fw0 {a b c d n q m x : Int} (h : x ≠ max (a - d) c) : unsL (hd0 :: entL a b c d n q x) = [1] := by
  have hf : fsts (hd0 :: entL a b c d n q x) = [0, 1] := by simp [fsts, hd0, entL, isFst, List.range, List.range.loop]
  have h0 : grpAt (hd0 :: entL a b c d n q x) 0 = [hd0] := by simp [grpAt, grp, entL, hd0]
  have h1 : grpAt (hd0 :: entL a b c d n q x) 1 = entL a b c d n q x := by simp [grpAt, grp, entL, hd0]
  have hs : soundB (entL a b c d n q x) = false := by simp [soundB, entL, arithB, firstV, h]
  unfold unsL
  rw [hf]
  simp [h0, h1, hs, hd0_sound]
theorem fw1 {a b c d n q m : Int} (h : a < d) : unsL (hd0 :: entL a b c d n q m) = [1] := by
  have hf : fsts (hd0 :: entL a b c d n q m) = [0, 1] := by simp [fsts, hd0, entL, isFst, List.range, List.range.loop]
  have h0 : grpAt (hd0 :: entL a b c d n q m) 0 = [hd0] := by simp [grpAt, grp, entL, hd0]
  have h1 : grpAt (hd0 :: entL a b c d n q m) 1 = entL a b c d n q m := by simp [grpAt, grp, entL, hd0]
  have hs : soundB (entL a b c d n q m) = false := by simp [soundB, entL, arithB, firstV]; omega
  unfold unsL
  rw [hf]
  simp [h0, h1, hs, hd0_sound]
theorem fw3 {a b c d n q m : Int} (h : b < c) : unsL (hd0 :: entL a b c d n q m) = [1] := by
  have hf : fsts (hd0 :: entL a b c d n q m) = [0, 1] := by simp [fsts, hd0, entL, isFst, List.range, List.range.loop]
  have h0 : grpAt (hd0 :: entL a b c d n q m) 0 = [hd0] := by simp [grpAt, grp, entL, hd0]
  have h1 : grpAt (hd0 :: entL a b c d n q m) 1 = entL a b c d n q m := by simp [grpAt, grp, entL, hd0]
  have hs : soundB (entL a b c d n q m) = false := by simp [soundB, entL, arithB, firstV]; omega
  unfold unsL
  rw [hf]
  simp [h0, h1, hs, hd0_sound]
theorem fw4 {a b c d n q m x : Int} (h : x ≤ m) : unsL (hd0 :: (entL a b c d n q m ++ [⟨3, 1, 8, x, 1⟩])) = [1] := by
  have hf : fsts (hd0 :: (entL a b c d n q m ++ [⟨3, 1, 8, x, 1⟩])) = [0, 1] := by simp [fsts, hd0, entL, isFst, List.range, List.range.loop]
  have h0 : grpAt (hd0 :: (entL a b c d n q m ++ [⟨3, 1, 8, x, 1⟩])) 0 = [hd0] := by simp [grpAt, grp, entL, hd0]
  have h1 : grpAt (hd0 :: (entL a b c d n q m ++ [⟨3, 1, 8, x, 1⟩])) 1 = entL a b c d n q m ++ [⟨3, 1, 8, x, 1⟩] := by simp [grpAt, grp, entL, hd0]
  have hs : soundB (entL a b c d n q m ++ [⟨3, 1, 8, x, 1⟩]) = false := by simp [soundB, entL, arithB, firstV]; omega
  unfold unsL
  rw [hf]
  simp [h0, h1, hs, hd0_sound]
theorem fw2 {a b c d n q m : Int} {k : Nat} (hk : k < 6) : unsL (hd0 :: (entL a b c d n q m ++ [ln (entL a b c d n q m) k])) = [1] := by
  have key : ∀ y : Ln, y.s = 3 → y.b = 1 → wrongB (entL a b c d n q m ++ [y]) = true → unsL (hd0 :: (entL a b c d n q m ++ [y])) = [1] := by
    intro y hy1 hy2 hw
    have hf : fsts (hd0 :: (entL a b c d n q m ++ [y])) = [0, 1] := by simp [fsts, hd0, entL, isFst, List.range, List.range.loop, hy1, hy2]
    have h0 : grpAt (hd0 :: (entL a b c d n q m ++ [y])) 0 = [hd0] := by simp [grpAt, grp, entL, hd0, hy1]
    have h1 : grpAt (hd0 :: (entL a b c d n q m ++ [y])) 1 = entL a b c d n q m ++ [y] := by simp [grpAt, grp, entL, hd0, hy1, hy2]
    have hs : soundB (entL a b c d n q m ++ [y]) = false := by simp [soundB, hw]
    unfold unsL
    rw [hf]
    simp [h0, h1, hs, hd0_sound]
  have hs : (ln (entL a b c d n q m) k).s = 3 ∧ (ln (entL a b c d n q m) k).b = 1 := by
    rcases k with _ | _ | _ | _ | _ | _ | k
    all_goals first | exact ⟨rfl, rfl⟩ | (exfalso; omega)
  refine key _ hs.1 hs.2 ?_
  rw [wrongB_snoc, lastV_some]
  have : ((entL a b c d n q m).any fun l => l.it == (ln (entL a b c d n q m) k).it) = true := by
    rw [List.any_eq_true]
    refine ⟨ln (entL a b c d n q m) k, ?_, by simp⟩
    unfold ln
    have hk' : k < (entL a b c d n q m).length := hk
    simp [List.getD, hk']
  rw [this]
  simp

theorem LnsR_app {L M : List Ln} (h : LnsR L) (h' : LnsR M) : LnsR (L ++ M) := by
  intro i hi
  by_cases hl : i < L.length
  · have e : ln (L ++ M) i = ln L i := by unfold ln; simp [List.getD, hl, List.getElem?_append_left hl]
    rw [e]
    exact h i hl
  · have e : ln (L ++ M) i = ln M (i - L.length) := by unfold ln; simp [List.getD, List.getElem?_append_right (Nat.le_of_not_lt hl)]
    rw [e]
    exact h' _ (by rw [List.length_append] at hi; omega)
theorem row_one (y : Ln) (j : Nat) : (#[.int .i64 y.s, .int .i64 y.b, .int .i64 y.it, .int .i64 y.n, .int .i64 y.d] : Array Value)[j]? = (rowL [y])[j]? := by simp [rowL, lcells]
theorem conv_R (x : Int) : LnsR [⟨3, 1, 8, x, 1⟩] := by
  intro i hi
  obtain rfl : i = 0 := by simpa using hi
  refine ⟨⟨?_, ?_⟩, ⟨?_, ?_⟩, ?_, ?_⟩ <;> simp [ln]
theorem hd0_R : LnsR [hd0] := by
  intro i hi
  obtain rfl : i = 0 := by simpa using hi
  decide
set_option maxRecDepth 100000 in
set_option maxHeartbeats 4000000 in
theorem lfw_walk (ind theory pro ded what by_ : Int) (w : World) (i1 : -9223372036854775808 ≤ ind ∧ ind ≤ 9223372036854775807) (i2 : -9223372036854775808 ≤ theory ∧ theory ≤ 9223372036854775807) (i3 : -9223372036854775808 ≤ pro ∧ pro ≤ 9223372036854775807) (i4 : -9223372036854775808 ≤ ded ∧ ded ≤ 9223372036854775807) :
    Calls Try.prog 5 #[.int .i64 ind, .int .i64 theory, .int .i64 pro, .int .i64 ded, .int .i64 what, .int .i64 by_] w fun e w' => e = .returned (.bool true) ∧ Below w.heap.size w w' := by
  obtain ⟨x1, x2⟩ := emod_bd by_ 1000 (by omega)
  obtain ⟨y1, y2⟩ := emod_bd what 5 (by omega)
  obtain ⟨z1, z2⟩ := emod_bd by_ 6 (by omega)
  go_enter Try.func5, Try.ntmps5
  go_wp2_with fail
  refine (entry_any ind theory pro ded 1 2 _ i1 i2 i3 i4).mono ?_
  rintro e w2 ⟨a, b, c, d, n, q, m, g, hE, rfl, hblk, hgl, hb2⟩
  go_wp2_with fail
  refine (mod2_any by_ 1000 _ (by omega) (by omega)).mono ?_
  rintro e w' ⟨rfl, rfl⟩
  generalize by_ % 1000 = dd at *
  go_wp2_with fail
  refine (mod2_any what 5 _ (by omega) (by omega)).mono ?_
  rintro e w' ⟨rfl, rfl⟩
  generalize what % 5 = r at *
  obtain ⟨a0, a1, b0, b1, c0, c1, d0, d1, n0, n1, vf, nt, za, zb⟩ := hE
  have m0 : 0 ≤ m ∧ m ≤ 1000000000000 := by omega
  obtain ⟨m0, m1⟩ := m0
  have VF := Lib.hid vf
  have NT := Lib.hid nt
  clear vf nt za zb
  have hgl2 := hblk.lt
  have fz : ∀ j, w2.frozen? ⟨g, j, none⟩ = false := fun j => hblk.frozen j
  have cz := hblk.cell
  have f18 := fz 18
  have f23 := fz 23
  have f28 := fz 28
  have c3 := cz 3
  have c8 := cz 8
  have c18 := cz 18
  have c23 := cz 23
  have c28 := cz 28
  simp only [entC, List.getElem?_toArray, List.getElem?_cons_zero, List.getElem?_cons_succ] at c3 c8 c18 c23 c28
  have CZ := Lib.hid cz
  clear cz fz
  have hcases : r = 0 ∨ r = 1 ∨ r = 2 ∨ r = 3 ∨ r = 4 := by omega
  rcases hcases with rfl | rfl | rfl | rfl | rfl
  · go_upto_region 13 with (fail)
    refine world_gen (FwR w g (entL a b c d n q (m + (1 + dd)))) (FwR.of_blk (hb2.setCell hgl _) (hblk.put 28 _)) ?_
    have hx := NT.out
    have hx2 : m + (1 + dd) ≠ max (a - d) c := by omega
    clear hx
    have HX2 := Lib.hid hx2
    clear hx2
    intro W hF
    have HU : Hid (unsL (hd0 :: (entL a b c d n q (m + (1 + dd)))) = [1]) := fw0 (m := m) HX2.out
    have HLR : Hid (LnsR (entL a b c d n q (m + (1 + dd)))) := entL_R _ _ _ _ _ _ _
    have HCL := Lib.hid hF.cell
    have hz := hF.bel.size
    have HC2 := Lib.hid ((hF.alloc (.cells #[.int .i64 0, .int .i64 1, .int .i64 7, .int .i64 1, .int .i64 1] 36)).cell)
    have hW := hF.bel
    clear hF
    go_upto_region 14 with (at_builtin; go_loud (refine wpList_appL (by rfl) _ _ (by rfl) w.heap.size (.slice (some ⟨W.heap.size, 0, none⟩) 1 1) [hd0] (entL a b c d n q (m + (1 + dd))) _ (by rfl) (own_of_blk (L := [hd0]) (BlkIs.new W _ _) hz (by simp)) (g) 0 (6) (by rfl) HC2.out (by simp [entL]) (by simp; omega) ?_); intro v5 w5 hown5 hg5 hloc5)
    have hB5 : Below w.heap.size w w5 := by
      have h1 : Below w.heap.size w (W.alloc (.cells #[.int .i64 0, .int .i64 1, .int .i64 7, .int .i64 1, .int .i64 1] 36)) := hW.alloc hz _
      exact h1.trans ⟨hg5.os, hg5.tape, hg5.output, hg5.size, fun k hk => hg5.block k (by simp; omega) (by simp [Value.ownBlock]; omega)⟩
    clear hg5 hloc5 HC2 HCL hW hz
    have HL5 := Lib.hid (Lns.of_own hown5)
    clear hown5
    go_wp2_with fail
    refine (awake_any _).mono ?_
    rintro e w6 ⟨rfl, hb6⟩
    replace hB5 := bnext hB5 hb6
    go_wp2_with fail
    refine (unsound_any (hd0 :: (entL a b c d n q (m + (1 + dd)))) _ _ ((HL5.out.below hb6).mono hb6.size) (LnsR_app (L := [hd0]) hd0_R HLR.out) (by simp [entL])).mono ?_
    rintro e w7 ⟨v7, rfl, hown7, hb7⟩
    rw [HU.out] at hown7
    have hI := Ins.of_own hown7
    replace hB5 := bnext hB5 hb7
    clear hown7 hb7 hb6 HL5
    go_wp2_with fail
    refine (ints_any (ofN [1]) [1] _ _ _ (hI.below ((Below.refl _ _).alloc (Nat.le_refl _) _)) ⟨_, 1, rfl, by simp, fun _ => ⟨w7.heap.size, 0, rfl, by simp, fun i hi => ?_⟩⟩ (by simp [ofN]) (by simp)).mono ?_
    · obtain rfl : i = 0 := by simpa using hi
      exact (BlkIs.new w7 _ _).cell 0
    rintro e w8 ⟨rfl, hb8⟩
    replace hB5 := bnext (bnext hB5 ((Below.refl _ _).alloc (Nat.le_refl _) _)) hb8
    have e5 : (ofN [1] == [1]) = true := rfl
    rw [e5]
    clear e5 hb8 hI
    go_wp2
    go_ret
    exact ⟨rfl, hB5⟩
  · go_upto_region 13 with (fail)
    refine world_gen (FwR w g (entL a b c (a + (1 + dd)) n q m)) (FwR.of_blk (hb2.setCell hgl _) (hblk.put 23 _)) ?_
    intro W hF
    have HU : Hid (unsL (hd0 :: (entL a b c (a + (1 + dd)) n q m)) = [1]) := fw1 (by omega)
    have HLR : Hid (LnsR (entL a b c (a + (1 + dd)) n q m)) := entL_R _ _ _ _ _ _ _
    have HCL := Lib.hid hF.cell
    have hz := hF.bel.size
    have HC2 := Lib.hid ((hF.alloc (.cells #[.int .i64 0, .int .i64 1, .int .i64 7, .int .i64 1, .int .i64 1] 36)).cell)
    have hW := hF.bel
    clear hF
    go_upto_region 14 with (at_builtin; go_loud (refine wpList_appL (by rfl) _ _ (by rfl) w.heap.size (.slice (some ⟨W.heap.size, 0, none⟩) 1 1) [hd0] (entL a b c (a + (1 + dd)) n q m) _ (by rfl) (own_of_blk (L := [hd0]) (BlkIs.new W _ _) hz (by simp)) (g) 0 (6) (by rfl) HC2.out (by simp [entL]) (by simp; omega) ?_); intro v5 w5 hown5 hg5 hloc5)
    have hB5 : Below w.heap.size w w5 := by
      have h1 : Below w.heap.size w (W.alloc (.cells #[.int .i64 0, .int .i64 1, .int .i64 7, .int .i64 1, .int .i64 1] 36)) := hW.alloc hz _
      exact h1.trans ⟨hg5.os, hg5.tape, hg5.output, hg5.size, fun k hk => hg5.block k (by simp; omega) (by simp [Value.ownBlock]; omega)⟩
    clear hg5 hloc5 HC2 HCL hW hz
    have HL5 := Lib.hid (Lns.of_own hown5)
    clear hown5
    go_wp2_with fail
    refine (awake_any _).mono ?_
    rintro e w6 ⟨rfl, hb6⟩
    replace hB5 := bnext hB5 hb6
    go_wp2_with fail
    refine (unsound_any (hd0 :: (entL a b c (a + (1 + dd)) n q m)) _ _ ((HL5.out.below hb6).mono hb6.size) (LnsR_app (L := [hd0]) hd0_R HLR.out) (by simp [entL])).mono ?_
    rintro e w7 ⟨v7, rfl, hown7, hb7⟩
    rw [HU.out] at hown7
    have hI := Ins.of_own hown7
    replace hB5 := bnext hB5 hb7
    clear hown7 hb7 hb6 HL5
    go_wp2_with fail
    refine (ints_any (ofN [1]) [1] _ _ _ (hI.below ((Below.refl _ _).alloc (Nat.le_refl _) _)) ⟨_, 1, rfl, by simp, fun _ => ⟨w7.heap.size, 0, rfl, by simp, fun i hi => ?_⟩⟩ (by simp [ofN]) (by simp)).mono ?_
    · obtain rfl : i = 0 := by simpa using hi
      exact (BlkIs.new w7 _ _).cell 0
    rintro e w8 ⟨rfl, hb8⟩
    replace hB5 := bnext (bnext hB5 ((Below.refl _ _).alloc (Nat.le_refl _) _)) hb8
    have e5 : (ofN [1] == [1]) = true := rfl
    rw [e5]
    clear e5 hb8 hI
    go_wp2
    go_ret
    exact ⟨rfl, hB5⟩
  · go_wp2_with fail
    refine (mod2_any by_ 6 _ (by omega) (by omega)).mono ?_
    rintro e w' ⟨rfl, rfl⟩
    obtain ⟨k, hk⟩ := Int.eq_ofNat_of_zero_le z1
    rw [hk] at z2 ⊢
    clear hk z1
    have hk6 : k < 6 := by omega
    have hat : ∀ j, j < 5 → w2.cell? ⟨g, k * 5 + j, none⟩ = (lcells (ln (entL a b c d n q m) k).s (ln (entL a b c d n q m) k).b (ln (entL a b c d n q m) k).it (ln (entL a b c d n q m) k).n (ln (entL a b c d n q m) k).d)[j]? := by
      intro j hj
      rw [CZ.out, entC_row, List.getElem?_toArray]
      exact rowL_at (entL a b c d n q m) k j hk6 hj
    have t0 := hat 0 (by omega)
    have t1 := hat 1 (by omega)
    have t2 := hat 2 (by omega)
    have t3 := hat 3 (by omega)
    have t4 := hat 4 (by omega)
    clear hat
    have HU2 := Lib.hid (fw2 (a := a) (b := b) (c := c) (d := d) (n := n) (q := q) (m := m) hk6)
    have HR2 : Hid (LnsR [ln (entL a b c d n q m) k]) := by
      intro i hi
      obtain rfl : i = 0 := by simpa using hi
      exact entL_R a b c d n q m k hk6
    generalize ln (entL a b c d n q m) k = y at *
    simp only [lcells, List.getElem?_toArray, List.getElem?_cons_zero, List.getElem?_cons_succ, Nat.add_zero] at t0 t1 t2 t3 t4
    have hown := fun o => (own_of_blk (L := entL a b c d n q m) (by rw [← entC_row]; exact hblk) hgl (by simp [entL])).alloc o
    have hgl3 := hb2.size
    go_upto_region 13 with (at_builtin; go_loud (refine wpList_appL (by rfl) _ _ (by rfl) w.heap.size (.slice (some ⟨g, 0, none⟩) 6 6) (entL a b c d n q m) [y] _ (by rfl) (hown _) w2.heap.size 0 1 (by rfl) (fun j hj => by rw [Nat.zero_add, (BlkIs.new w2 _ _).cell j]; exact row_one _ j) (by simp [entL]) (by simp; omega) ?_); intro v4 w4 hown4 hg4 hloc4; obtain ⟨g4, cap4, cur4, rfl, hc4, hgl4, hb4, hcur⟩ := lns_cells hown4 (by simp [entL]))
    refine world_gen (FwR w g4 (entL a b c d n q m ++ [y])) (FwR.mk ((hb2.alloc hgl3 _).trans ⟨hg4.os, hg4.tape, hg4.output, hg4.size, fun k hk => hg4.block k (by simp; omega) (by simp [Value.ownBlock]; omega)⟩) hb4.lt (fun j hj => by rw [Nat.zero_add, hb4.cell j]; exact hcur j hj)) ?_
    clear hown hown4 hg4 hloc4 hb4 hcur t0 t1 t2 t3 t4
    intro W hF
    have HU : Hid (unsL (hd0 :: (entL a b c d n q m ++ [y])) = [1]) := HU2.out
    have HLR : Hid (LnsR (entL a b c d n q m ++ [y])) := LnsR_app (entL_R _ _ _ _ _ _ _) HR2.out
    have HCL := Lib.hid hF.cell
    have hz := hF.bel.size
    have HC2 := Lib.hid ((hF.alloc (.cells #[.int .i64 0, .int .i64 1, .int .i64 7, .int .i64 1, .int .i64 1] 36)).cell)
    have hW := hF.bel
    clear hF
    go_upto_region 14 with (at_builtin; go_loud (refine wpList_appL (by rfl) _ _ (by rfl) w.heap.size (.slice (some ⟨W.heap.size, 0, none⟩) 1 1) [hd0] (entL a b c d n q m ++ [y]) _ (by rfl) (own_of_blk (L := [hd0]) (BlkIs.new W _ _) hz (by simp)) (g4) 0 (cap4) (by rfl) HC2.out (by simp [entL]) (by simp; omega) ?_); intro v5 w5 hown5 hg5 hloc5)
    have hB5 : Below w.heap.size w w5 := by
      have h1 : Below w.heap.size w (W.alloc (.cells #[.int .i64 0, .int .i64 1, .int .i64 7, .int .i64 1, .int .i64 1] 36)) := hW.alloc hz _
      exact h1.trans ⟨hg5.os, hg5.tape, hg5.output, hg5.size, fun k hk => hg5.block k (by simp; omega) (by simp [Value.ownBlock]; omega)⟩
    clear hg5 hloc5 HC2 HCL hW hz
    have HL5 := Lib.hid (Lns.of_own hown5)
    clear hown5
    go_wp2_with fail
    refine (awake_any _).mono ?_
    rintro e w6 ⟨rfl, hb6⟩
    replace hB5 := bnext hB5 hb6
    go_wp2_with fail
    refine (unsound_any (hd0 :: (entL a b c d n q m ++ [y])) _ _ ((HL5.out.below hb6).mono hb6.size) (LnsR_app (L := [hd0]) hd0_R HLR.out) (by simp [entL])).mono ?_
    rintro e w7 ⟨v7, rfl, hown7, hb7⟩
    rw [HU.out] at hown7
    have hI := Ins.of_own hown7
    replace hB5 := bnext hB5 hb7
    clear hown7 hb7 hb6 HL5
    go_wp2_with fail
    refine (ints_any (ofN [1]) [1] _ _ _ (hI.below ((Below.refl _ _).alloc (Nat.le_refl _) _)) ⟨_, 1, rfl, by simp, fun _ => ⟨w7.heap.size, 0, rfl, by simp, fun i hi => ?_⟩⟩ (by simp [ofN]) (by simp)).mono ?_
    · obtain rfl : i = 0 := by simpa using hi
      exact (BlkIs.new w7 _ _).cell 0
    rintro e w8 ⟨rfl, hb8⟩
    replace hB5 := bnext (bnext hB5 ((Below.refl _ _).alloc (Nat.le_refl _) _)) hb8
    have e5 : (ofN [1] == [1]) = true := rfl
    rw [e5]
    clear e5 hb8 hI
    go_wp2
    go_ret
    exact ⟨rfl, hB5⟩
  · go_upto_region 13 with (fail)
    refine world_gen (FwR w g (entL a b (b + (1 + dd)) d n q m)) (FwR.of_blk (hb2.setCell hgl _) (hblk.put 18 _)) ?_
    intro W hF
    have HU : Hid (unsL (hd0 :: (entL a b (b + (1 + dd)) d n q m)) = [1]) := fw3 (by omega)
    have HLR : Hid (LnsR (entL a b (b + (1 + dd)) d n q m)) := entL_R _ _ _ _ _ _ _
    have HCL := Lib.hid hF.cell
    have hz := hF.bel.size
    have HC2 := Lib.hid ((hF.alloc (.cells #[.int .i64 0, .int .i64 1, .int .i64 7, .int .i64 1, .int .i64 1] 36)).cell)
    have hW := hF.bel
    clear hF
    go_upto_region 14 with (at_builtin; go_loud (refine wpList_appL (by rfl) _ _ (by rfl) w.heap.size (.slice (some ⟨W.heap.size, 0, none⟩) 1 1) [hd0] (entL a b (b + (1 + dd)) d n q m) _ (by rfl) (own_of_blk (L := [hd0]) (BlkIs.new W _ _) hz (by simp)) (g) 0 (6) (by rfl) HC2.out (by simp [entL]) (by simp; omega) ?_); intro v5 w5 hown5 hg5 hloc5)
    have hB5 : Below w.heap.size w w5 := by
      have h1 : Below w.heap.size w (W.alloc (.cells #[.int .i64 0, .int .i64 1, .int .i64 7, .int .i64 1, .int .i64 1] 36)) := hW.alloc hz _
      exact h1.trans ⟨hg5.os, hg5.tape, hg5.output, hg5.size, fun k hk => hg5.block k (by simp; omega) (by simp [Value.ownBlock]; omega)⟩
    clear hg5 hloc5 HC2 HCL hW hz
    have HL5 := Lib.hid (Lns.of_own hown5)
    clear hown5
    go_wp2_with fail
    refine (awake_any _).mono ?_
    rintro e w6 ⟨rfl, hb6⟩
    replace hB5 := bnext hB5 hb6
    go_wp2_with fail
    refine (unsound_any (hd0 :: (entL a b (b + (1 + dd)) d n q m)) _ _ ((HL5.out.below hb6).mono hb6.size) (LnsR_app (L := [hd0]) hd0_R HLR.out) (by simp [entL])).mono ?_
    rintro e w7 ⟨v7, rfl, hown7, hb7⟩
    rw [HU.out] at hown7
    have hI := Ins.of_own hown7
    replace hB5 := bnext hB5 hb7
    clear hown7 hb7 hb6 HL5
    go_wp2_with fail
    refine (ints_any (ofN [1]) [1] _ _ _ (hI.below ((Below.refl _ _).alloc (Nat.le_refl _) _)) ⟨_, 1, rfl, by simp, fun _ => ⟨w7.heap.size, 0, rfl, by simp, fun i hi => ?_⟩⟩ (by simp [ofN]) (by simp)).mono ?_
    · obtain rfl : i = 0 := by simpa using hi
      exact (BlkIs.new w7 _ _).cell 0
    rintro e w8 ⟨rfl, hb8⟩
    replace hB5 := bnext (bnext hB5 ((Below.refl _ _).alloc (Nat.le_refl _) _)) hb8
    have e5 : (ofN [1] == [1]) = true := rfl
    rw [e5]
    clear e5 hb8 hI
    go_wp2
    go_ret
    exact ⟨rfl, hB5⟩
  · have hgl3 := hb2.size
    have hown := fun o => (own_of_blk (L := entL a b c d n q m) (by rw [← entC_row]; exact hblk) hgl (by simp [entL])).alloc o
    by_cases hx : 0 < m - (1 + dd) + 1
    · go_upto_region 13 with (at_builtin; go_loud (refine wpList_appL (by rfl) _ _ (by rfl) w.heap.size (.slice (some ⟨g, 0, none⟩) 6 6) (entL a b c d n q m) [⟨3, 1, 8, m - (1 + dd) + 1, 1⟩] _ (by rfl) (hown _) w2.heap.size 0 1 (by rfl) (fun j hj => by rw [Nat.zero_add, (BlkIs.new w2 _ _).cell j]; exact row_one ⟨3, 1, 8, m - (1 + dd) + 1, 1⟩ j) (by simp [entL]) (by simp; omega) ?_); intro v4 w4 hown4 hg4 hloc4; obtain ⟨g4, cap4, cur4, rfl, hc4, hgl4, hb4, hcur⟩ := lns_cells hown4 (by simp [entL]))
      refine world_gen (FwR w g4 (entL a b c d n q m ++ [⟨3, 1, 8, m - (1 + dd) + 1, 1⟩])) (FwR.mk ((hb2.alloc hgl3 _).trans ⟨hg4.os, hg4.tape, hg4.output, hg4.size, fun k hk => hg4.block k (by simp; omega) (by simp [Value.ownBlock]; omega)⟩) hb4.lt (fun j hj => by rw [Nat.zero_add, hb4.cell j]; exact hcur j hj)) ?_
      clear hown hown4 hg4 hloc4 hb4 hcur
      intro W hF
      have HU : Hid (unsL (hd0 :: (entL a b c d n q m ++ [⟨3, 1, 8, m - (1 + dd) + 1, 1⟩])) = [1]) := fw4 (by omega)
      have HLR : Hid (LnsR (entL a b c d n q m ++ [⟨3, 1, 8, m - (1 + dd) + 1, 1⟩])) := LnsR_app (entL_R _ _ _ _ _ _ _) (conv_R _)
      have HCL := Lib.hid hF.cell
      have hz := hF.bel.size
      have HC2 := Lib.hid ((hF.alloc (.cells #[.int .i64 0, .int .i64 1, .int .i64 7, .int .i64 1, .int .i64 1] 36)).cell)
      have hW := hF.bel
      clear hF
      go_upto_region 14 with (at_builtin; go_loud (refine wpList_appL (by rfl) _ _ (by rfl) w.heap.size (.slice (some ⟨W.heap.size, 0, none⟩) 1 1) [hd0] (entL a b c d n q m ++ [⟨3, 1, 8, m - (1 + dd) + 1, 1⟩]) _ (by rfl) (own_of_blk (L := [hd0]) (BlkIs.new W _ _) hz (by simp)) (g4) 0 (cap4) (by rfl) HC2.out (by simp [entL]) (by simp; omega) ?_); intro v5 w5 hown5 hg5 hloc5)
      have hB5 : Below w.heap.size w w5 := by
        have h1 : Below w.heap.size w (W.alloc (.cells #[.int .i64 0, .int .i64 1, .int .i64 7, .int .i64 1, .int .i64 1] 36)) := hW.alloc hz _
        exact h1.trans ⟨hg5.os, hg5.tape, hg5.output, hg5.size, fun k hk => hg5.block k (by simp; omega) (by simp [Value.ownBlock]; omega)⟩
      clear hg5 hloc5 HC2 HCL hW hz
      have HL5 := Lib.hid (Lns.of_own hown5)
      clear hown5
      go_wp2_with fail
      refine (awake_any _).mono ?_
      rintro e w6 ⟨rfl, hb6⟩
      replace hB5 := bnext hB5 hb6
      go_wp2_with fail
      refine (unsound_any (hd0 :: (entL a b c d n q m ++ [⟨3, 1, 8, m - (1 + dd) + 1, 1⟩])) _ _ ((HL5.out.below hb6).mono hb6.size) (LnsR_app (L := [hd0]) hd0_R HLR.out) (by simp [entL])).mono ?_
      rintro e w7 ⟨v7, rfl, hown7, hb7⟩
      rw [HU.out] at hown7
      have hI := Ins.of_own hown7
      replace hB5 := bnext hB5 hb7
      clear hown7 hb7 hb6 HL5
      go_wp2_with fail
      refine (ints_any (ofN [1]) [1] _ _ _ (hI.below ((Below.refl _ _).alloc (Nat.le_refl _) _)) ⟨_, 1, rfl, by simp, fun _ => ⟨w7.heap.size, 0, rfl, by simp, fun i hi => ?_⟩⟩ (by simp [ofN]) (by simp)).mono ?_
      · obtain rfl : i = 0 := by simpa using hi
        exact (BlkIs.new w7 _ _).cell 0
      rintro e w8 ⟨rfl, hb8⟩
      replace hB5 := bnext (bnext hB5 ((Below.refl _ _).alloc (Nat.le_refl _) _)) hb8
      have e5 : (ofN [1] == [1]) = true := rfl
      rw [e5]
      clear e5 hb8 hI
      go_wp2
      go_ret
      exact ⟨rfl, hB5⟩
    · go_upto_region 13 with (at_builtin; go_loud (refine wpList_appL (by rfl) _ _ (by rfl) w.heap.size (.slice (some ⟨g, 0, none⟩) 6 6) (entL a b c d n q m) [⟨3, 1, 8, 0, 1⟩] _ (by rfl) (hown _) w2.heap.size 0 1 (by rfl) (fun j hj => by rw [Nat.zero_add, (BlkIs.new w2 _ _).cell j]; exact row_one ⟨3, 1, 8, 0, 1⟩ j) (by simp [entL]) (by simp; omega) ?_); intro v4 w4 hown4 hg4 hloc4; obtain ⟨g4, cap4, cur4, rfl, hc4, hgl4, hb4, hcur⟩ := lns_cells hown4 (by simp [entL]))
      refine world_gen (FwR w g4 (entL a b c d n q m ++ [⟨3, 1, 8, 0, 1⟩])) (FwR.mk ((hb2.alloc hgl3 _).trans ⟨hg4.os, hg4.tape, hg4.output, hg4.size, fun k hk => hg4.block k (by simp; omega) (by simp [Value.ownBlock]; omega)⟩) hb4.lt (fun j hj => by rw [Nat.zero_add, hb4.cell j]; exact hcur j hj)) ?_
      clear hown hown4 hg4 hloc4 hb4 hcur
      intro W hF
      have HU : Hid (unsL (hd0 :: (entL a b c d n q m ++ [⟨3, 1, 8, 0, 1⟩])) = [1]) := fw4 (by omega)
      have HLR : Hid (LnsR (entL a b c d n q m ++ [⟨3, 1, 8, 0, 1⟩])) := LnsR_app (entL_R _ _ _ _ _ _ _) (conv_R _)
      have HCL := Lib.hid hF.cell
      have hz := hF.bel.size
      have HC2 := Lib.hid ((hF.alloc (.cells #[.int .i64 0, .int .i64 1, .int .i64 7, .int .i64 1, .int .i64 1] 36)).cell)
      have hW := hF.bel
      clear hF
      go_upto_region 14 with (at_builtin; go_loud (refine wpList_appL (by rfl) _ _ (by rfl) w.heap.size (.slice (some ⟨W.heap.size, 0, none⟩) 1 1) [hd0] (entL a b c d n q m ++ [⟨3, 1, 8, 0, 1⟩]) _ (by rfl) (own_of_blk (L := [hd0]) (BlkIs.new W _ _) hz (by simp)) (g4) 0 (cap4) (by rfl) HC2.out (by simp [entL]) (by simp; omega) ?_); intro v5 w5 hown5 hg5 hloc5)
      have hB5 : Below w.heap.size w w5 := by
        have h1 : Below w.heap.size w (W.alloc (.cells #[.int .i64 0, .int .i64 1, .int .i64 7, .int .i64 1, .int .i64 1] 36)) := hW.alloc hz _
        exact h1.trans ⟨hg5.os, hg5.tape, hg5.output, hg5.size, fun k hk => hg5.block k (by simp; omega) (by simp [Value.ownBlock]; omega)⟩
      clear hg5 hloc5 HC2 HCL hW hz
      have HL5 := Lib.hid (Lns.of_own hown5)
      clear hown5
      go_wp2_with fail
      refine (awake_any _).mono ?_
      rintro e w6 ⟨rfl, hb6⟩
      replace hB5 := bnext hB5 hb6
      go_wp2_with fail
      refine (unsound_any (hd0 :: (entL a b c d n q m ++ [⟨3, 1, 8, 0, 1⟩])) _ _ ((HL5.out.below hb6).mono hb6.size) (LnsR_app (L := [hd0]) hd0_R HLR.out) (by simp [entL])).mono ?_
      rintro e w7 ⟨v7, rfl, hown7, hb7⟩
      rw [HU.out] at hown7
      have hI := Ins.of_own hown7
      replace hB5 := bnext hB5 hb7
      clear hown7 hb7 hb6 HL5
      go_wp2_with fail
      refine (ints_any (ofN [1]) [1] _ _ _ (hI.below ((Below.refl _ _).alloc (Nat.le_refl _) _)) ⟨_, 1, rfl, by simp, fun _ => ⟨w7.heap.size, 0, rfl, by simp, fun i hi => ?_⟩⟩ (by simp [ofN]) (by simp)).mono ?_
      · obtain rfl : i = 0 := by simpa using hi
        exact (BlkIs.new w7 _ _).cell 0
      rintro e w8 ⟨rfl, hb8⟩
      replace hB5 := bnext (bnext hB5 ((Below.refl _ _).alloc (Nat.le_refl _) _)) hb8
      have e5 : (ofN [1] == [1]) = true := rfl
      rw [e5]
      clear e5 hb8 hI
      go_wp2
      go_ret
      exact ⟨rfl, hB5⟩

set_option maxRecDepth 100000 in
theorem lfw_lifted (os : Os) (started : os.Started) (H : Type) (enc : TypeId × Value → H) :
    ReturnsInHanded {} Try.checked os 5 .any (Rows.auditFindsAWrongNumberSpec.pre6 enc Try.prog Try.f5 Rows.auditFindsAWrongNumberRow.domain false) (Rows.auditFindsAWrongNumberSpec.post enc Try.prog Try.f5 false true false false) := by
  refine returnsInHanded_of_change_sized (C := Try.checked) own_knob started (by kernel_rfl) Try.func5
    (ChangeSpec.witness6 (enc := enc) (C := Try.checked) false ⟨#[], #[.int .i64 0, .int .i64 0, .int .i64 0, .int .i64 0, .int .i64 0, .int .i64 0], []⟩ 8 (by kernel_rfl) (by kernel_rfl) (by kernel_rfl) (by kernel_rfl)) ?_
  intro W base args ds gs before hval0 hW hcnd hsz0 _
  have hval : ∀ (j : Nat) t v, Try.f5.params[j]? = some t → args[j]? = some v → Value.okWide Try.prog W .any base t v := hval0
  have hsz : (DataW.weightsEach Try.prog (Try.f5.params.toList ++ Rows.auditFindsAWrongNumberSpec.plain.varTypes Try.prog) (ds ++ gs)).all (· ≤ reachBytes) = true := hsz0
  have hW' := hW
  obtain ⟨p, q, hA0, hV, rfl, hfz, hnd⟩ := hW
  have hA : DataW.TrodAll enc Try.prog W 0 (fun _ => true) true Try.f5.params.toList args.toList ds p := hA0
  rw [Try.params5] at hA hval hsz
  obtain ⟨v0, vs0, d0, ds0, p0, q0, hargs, rfl, rfl, h0, tl0⟩ := trodAll_cons hA
  obtain ⟨v1, vs1, d1, ds1, p1, q1, rfl, rfl, rfl, h1, tl1⟩ := trodAll_cons tl0
  obtain ⟨v2, vs2, d2, ds2, p2, q2, rfl, rfl, rfl, h2, tl2⟩ := trodAll_cons tl1
  obtain ⟨v3, vs3, d3, ds3, p3, q3, rfl, rfl, rfl, h3, tl3⟩ := trodAll_cons tl2
  obtain ⟨v4, vs4, d4, ds4, p4, q4, rfl, rfl, rfl, h4, tl4⟩ := trodAll_cons tl3
  obtain ⟨v5, vs5, d5, ds5, p5, q5, rfl, rfl, rfl, h5, tl5⟩ := trodAll_cons tl4
  obtain ⟨rfl, rfl, rfl⟩ := trodAll_nil tl5
  obtain rfl : args = #[v0, v1, v2, v3, v4, v5] := by cases args; simp_all
  obtain ⟨rfl, rfl⟩ := trodVars_none hV
  have k0 := h0
  have lt0 : ∀ x ∈ p0, x.block < W.heap.size := by obtain ⟨m, hm⟩ := k0; exact DataW.trod_lt m _ _ _ hm
  have k1 := h1
  have lt1 : ∀ x ∈ p1, x.block < W.heap.size := by obtain ⟨m, hm⟩ := k1; exact DataW.trod_lt m _ _ _ hm
  have k2 := h2
  have lt2 : ∀ x ∈ p2, x.block < W.heap.size := by obtain ⟨m, hm⟩ := k2; exact DataW.trod_lt m _ _ _ hm
  have k3 := h3
  have lt3 : ∀ x ∈ p3, x.block < W.heap.size := by obtain ⟨m, hm⟩ := k3; exact DataW.trod_lt m _ _ _ hm
  have k4 := h4
  have lt4 : ∀ x ∈ p4, x.block < W.heap.size := by obtain ⟨m, hm⟩ := k4; exact DataW.trod_lt m _ _ _ hm
  have k5 := h5
  have lt5 : ∀ x ∈ p5, x.block < W.heap.size := by obtain ⟨m, hm⟩ := k5; exact DataW.trod_lt m _ _ _ hm
  obtain ⟨a0, rfl, rfl, rfl, w0⟩ := open_int Try.underlying3 (hval 0 3 v0 rfl rfl) h0
  obtain ⟨a1, rfl, rfl, rfl, w1⟩ := open_int Try.underlying3 (hval 1 3 v1 rfl rfl) h1
  obtain ⟨a2, rfl, rfl, rfl, w2⟩ := open_int Try.underlying3 (hval 2 3 v2 rfl rfl) h2
  obtain ⟨a3, rfl, rfl, rfl, w3⟩ := open_int Try.underlying3 (hval 3 3 v3 rfl rfl) h3
  obtain ⟨a4, rfl, rfl, rfl, w4⟩ := open_int Try.underlying3 (hval 4 3 v4 rfl rfl) h4
  obtain ⟨a5, rfl, rfl, rfl, w5⟩ := open_int Try.underlying3 (hval 5 3 v5 rfl rfl) h5
  clear hA0 hval0
  refine (lfw_walk a0 a1 a2 a3 a4 a5 W (i64_of_wf w0) (i64_of_wf w1) (i64_of_wf w2) (i64_of_wf w3)).mono fun e W' ⟨he, bel⟩ => ?_
  subst he
  exact ⟨_, rfl, _, _, _, [], _, [], hW', trodAll_mk1 (shut_bool Try.underlying4 _), (trodAll_cons_mk (Below.trod laid_out (by kernel_rfl) (of_decide_eq_true (by kernel_rfl)) k0 bel lt0) (trodAll_cons_mk (Below.trod laid_out (by kernel_rfl) (of_decide_eq_true (by kernel_rfl)) k1 bel lt1) (trodAll_cons_mk (Below.trod laid_out (by kernel_rfl) (of_decide_eq_true (by kernel_rfl)) k2 bel lt2) (trodAll_cons_mk (Below.trod laid_out (by kernel_rfl) (of_decide_eq_true (by kernel_rfl)) k3 bel lt3) (trodAll_cons_mk (Below.trod laid_out (by kernel_rfl) (of_decide_eq_true (by kernel_rfl)) k4 bel lt4) (trodAll_cons_mk (Below.trod laid_out (by kernel_rfl) (of_decide_eq_true (by kernel_rfl)) k5 bel lt5) trodAll_mk0)))))), rfl, bel.frame _, fun h => by cases h⟩

theorem lfw_over : Rows.auditFindsAWrongNumberRow.holds Try.pinned (OpenSpec.ofChange Rows.auditFindsAWrongNumberSpec) :=
  OpenClaim.holds_of_wide 5 Try.f5 rfl rfl rfl rfl rfl rfl rfl ⟨rfl, rfl, rfl, rfl, rfl⟩ rfl rfl rfl rfl rfl (by kernel_rfl) Try.func5 (by kernel_rfl)
    (of_decide_eq_true (by kernel_rfl)) (by unfold Func.isWrapper; first | (rw [if_pos (by decide +kernel)]; kernel_rfl) | (rw [if_neg (by decide +kernel)]; exact ⟨rfl, rfl⟩))
    (fun os started H enc _ => lfw_lifted os started H enc)

/-- The statement. -/
theorem lfw_holds : Rows.AuditFindsAWrongNumberSaid := lfw_over
#print axioms lfw_holds
end Go.Proofs.Ytnlcgiemhegmcaa
