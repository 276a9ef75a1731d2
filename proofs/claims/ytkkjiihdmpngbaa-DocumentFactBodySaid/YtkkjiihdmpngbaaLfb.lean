/-
  DocumentFactBody: facts have the bodies of the reference, and are read back. No conditions.
-/
import Derived.Test.YtkkjiihdmpngbaaLeq
import Derived.Test.YtkkjiihdmpngbaaLfr
import Derived.SizedLaws
import Derived.Test.YtkkjiihdmpngbaaFd1
namespace Go.Proofs.Ytkkjiihdmpngbaa
open Go.ChangeShapes Go.WideShapes Go.ChangeAt Go.RowKit
set_option linter.unusedVariables false

set_option maxRecDepth 100000 in
set_option maxHeartbeats 4000000 in
theorem lfb_walk (r0 r1 r2 : Int) (r3 : Bool) (r4 r5 r6 r7 r8 r9 r10 r11 r12 : Int) (a0 a1 a2 : Int) (a3 : Bool) (a4 a5 a6 a7 a8 a9 a10 a11 a12 a13 : Int) (a : Option Addr) (c : Nat) (l : List UInt8) (w : World) (z1 : -9223372036854775808 ≤ r9) (z2 : r9 ≤ 9223372036854775807) (hsl : Sl w.heap.size w (.slice a l.length c) l) (hl : l.length ≤ 140737488351232) :
    Calls Try.prog 16 #[.agg #[.int .i64 r0, .int .i64 r1, .int .i64 r2, .bool r3, .int .i64 r4, .int .i64 r5, .int .i64 r6, .int .i64 r7, .int .i64 r8, .int .i64 r9, .int .i64 r10, .int .i64 r11, .int .i64 r12], .agg #[.int .i64 a0, .int .i64 a1, .int .i64 a2, .bool a3, .int .i64 a4, .int .i64 a5, .int .i64 a6, .int .i64 a7, .int .i64 a8, .int .i64 a9, .int .i64 a10, .int .i64 a11, .int .i64 a12, .int .i64 a13], .slice a l.length c] w fun e w' => e = .returned (.bool true) ∧ Below w.heap.size w w' := by
  have hbel : Below w.heap.size w ((w.alloc (.cells #[.int .i64 r0, .int .i64 r1, .int .i64 r2, .bool r3, .int .i64 r4, .int .i64 r5, .int .i64 r6, .int .i64 r7, .int .i64 r8, .int .i64 r9, .int .i64 r10, .int .i64 r11, .int .i64 r12] 30)).alloc (.cells #[.int .i64 a0, .int .i64 a1, .int .i64 a2, .bool a3, .int .i64 a4, .int .i64 a5, .int .i64 a6, .int .i64 a7, .int .i64 a8, .int .i64 a9, .int .i64 a10, .int .i64 a11, .int .i64 a12, .int .i64 a13] 76)) := ((Below.refl _ _).alloc (Nat.le_refl _) _).alloc (by simp) _
  have b2 : BlkIs ((w.alloc (.cells #[.int .i64 r0, .int .i64 r1, .int .i64 r2, .bool r3, .int .i64 r4, .int .i64 r5, .int .i64 r6, .int .i64 r7, .int .i64 r8, .int .i64 r9, .int .i64 r10, .int .i64 r11, .int .i64 r12] 30)).alloc (.cells #[.int .i64 a0, .int .i64 a1, .int .i64 a2, .bool a3, .int .i64 a4, .int .i64 a5, .int .i64 a6, .int .i64 a7, .int .i64 a8, .int .i64 a9, .int .i64 a10, .int .i64 a11, .int .i64 a12, .int .i64 a13] 76)) (w.heap.size + 1) 76 #[.int .i64 a0, .int .i64 a1, .int .i64 a2, .bool a3, .int .i64 a4, .int .i64 a5, .int .i64 a6, .int .i64 a7, .int .i64 a8, .int .i64 a9, .int .i64 a10, .int .i64 a11, .int .i64 a12, .int .i64 a13] := BlkIs.newAt _ _ _ _ (by simp)
  have HSL := Lib.hid hsl
  clear hsl
  have EF := Lib.hid eqr_fact
  obtain ⟨F, hF⟩ : ∃ F, F = fcR l := ⟨_, rfl⟩
  have HF := Lib.hid hF
  clear hF
  obtain ⟨i0, i1, i2, i3, i4, i5, i6, i7, i8, i9, i10, i11, i12, i13⟩ := F
  obtain ⟨vb, hvb⟩ : ∃ vb, vb = validB ⟨a0, a1, a2, a3, a4, a5, a6, a7, a8, a9, a10, a11, a12, a13⟩ := ⟨_, rfl⟩
  obtain ⟨GO, hGO⟩ : ∃ GO, GO = factO ⟨a0, a1, a2, a3, a4, a5, a6, a7, a8, a9, a10, a11, a12, a13⟩ := ⟨_, rfl⟩
  have HG := Lib.hid (And.intro hvb hGO)
  clear hvb hGO
  go_enter Try.func16, Try.ntmps16
  go_wp2_with fail
  refine (make_any r0 r1 r2 r3 r4 r5 r6 r7 r8 r9 r10 r11 r12 _ z1 z2).mono ?_
  rintro e w_m ⟨⟨g0, g1, g2, g3, g4, g5, g6, g7, g8, g9, g10, g11, g12, g13⟩, rfl, hv, hb⟩
  simp only [fcells]
  replace b2 := b2.below hb b2.lt
  replace hbel := bnext hbel hb
  clear hb
  have b3 := BlkIs.new w_m 76 #[.int .i64 g0, .int .i64 g1, .int .i64 g2, .bool g3, .int .i64 g4, .int .i64 g5, .int .i64 g6, .int .i64 g7, .int .i64 g8, .int .i64 g9, .int .i64 g10, .int .i64 g11, .int .i64 g12, .int .i64 g13]
  have hA : Below w_m.heap.size w_m (w_m.alloc (.cells #[.int .i64 g0, .int .i64 g1, .int .i64 g2, .bool g3, .int .i64 g4, .int .i64 g5, .int .i64 g6, .int .i64 g7, .int .i64 g8, .int .i64 g9, .int .i64 g10, .int .i64 g11, .int .i64 g12, .int .i64 g13] 76)) := (Below.refl _ _).alloc (Nat.le_refl _) _
  replace b2 := b2.below hA b2.lt
  replace hbel := bnext hbel hA
  clear hA
  have HV := Lib.hid hv
  have HO : Hid (factO ⟨g0, g1, g2, g3, g4, g5, g6, g7, g8, g9, g10, g11, g12, g13⟩ = factL ⟨g0, g1, g2, g3, g4, g5, g6, g7, g8, g9, g10, g11, g12, g13⟩) := factO_valid hv
  obtain ⟨k1, k2⟩ := fc_back hv
  obtain ⟨l1, l2⟩ := factL_len ⟨g0, g1, g2, g3, g4, g5, g6, g7, g8, g9, g10, g11, g12, g13⟩
  clear hv
  obtain ⟨FL, hFL⟩ : ∃ FL, FL = factL ⟨g0, g1, g2, g3, g4, g5, g6, g7, g8, g9, g10, g11, g12, g13⟩ := ⟨_, rfl⟩
  have HFL := Lib.hid hFL
  rw [← hFL] at l1 l2 k1 k2
  have HK := Lib.hid (And.intro k1 k2)
  clear hFL k1 k2
  have c_b2 := b2.cell
  have c_b3 := b3.cell
  go_wp2_with fail
  clear c_b2
  clear c_b3
  refine (offact_any ⟨g0, g1, g2, g3, g4, g5, g6, g7, g8, g9, g10, g11, g12, g13⟩ _).mono ?_
  rintro e w_p1 ⟨v_p1, rfl, ho_p1, hb⟩
  rw [HV.out]
  rw [HO.out, ← HFL.out] at ho_p1
  obtain ⟨a_p1, k_p1, hv_p1⟩ := own_len ho_p1
  subst hv_p1
  replace b2 := b2.below hb b2.lt
  replace b3 := b3.below hb b3.lt
  replace hbel := bnext hbel hb
  clear hb
  have q1_1 := Lib.hid (Part1.of ho_p1)
  clear ho_p1
  have c_b2 := b2.cell
  have c_b3 := b3.cell
  go_wp2_with fail
  clear c_b2
  clear c_b3
  refine (roffact_any ⟨g0, g1, g2, g3, g4, g5, g6, g7, g8, g9, g10, g11, g12, g13⟩ _).mono ?_
  rintro e w_p2 ⟨v_p2, rfl, ho_p2, hb⟩
  rw [HV.out]
  rw [HO.out, ← HFL.out] at ho_p2
  obtain ⟨a_p2, k_p2, hv_p2⟩ := own_len ho_p2
  subst hv_p2
  replace b2 := b2.below hb b2.lt
  replace b3 := b3.below hb b3.lt
  replace hbel := bnext hbel hb
  have q1_2 := Lib.hid (q1_1.out.next hb)
  clear q1_1
  clear hb
  have q2_3 := Lib.hid (Part1.of ho_p2)
  clear ho_p2
  have c_b2 := b2.cell
  have c_b3 := b3.cell
  go_wp2_with fail
  clear c_b2
  clear c_b3
  refine (offact_any ⟨a0, a1, a2, a3, a4, a5, a6, a7, a8, a9, a10, a11, a12, a13⟩ _).mono ?_
  rintro e w_p3 ⟨v_p3, rfl, ho_p3, hb⟩
  rw [← HG.out.1]
  rw [← HG.out.2] at ho_p3
  obtain ⟨a_p3, k_p3, hv_p3⟩ := own_len ho_p3
  subst hv_p3
  replace b2 := b2.below hb b2.lt
  replace b3 := b3.below hb b3.lt
  replace hbel := bnext hbel hb
  have q1_4 := Lib.hid (q1_2.out.next hb)
  clear q1_2
  have q2_5 := Lib.hid (q2_3.out.next hb)
  clear q2_3
  clear hb
  have q3_6 := Lib.hid (Part1.of ho_p3)
  clear ho_p3
  have c_b2 := b2.cell
  have c_b3 := b3.cell
  go_wp2_with fail
  clear c_b2
  clear c_b3
  refine (roffact_any ⟨a0, a1, a2, a3, a4, a5, a6, a7, a8, a9, a10, a11, a12, a13⟩ _).mono ?_
  rintro e w_p4 ⟨v_p4, rfl, ho_p4, hb⟩
  rw [← HG.out.1]
  rw [← HG.out.2] at ho_p4
  obtain ⟨a_p4, k_p4, hv_p4⟩ := own_len ho_p4
  subst hv_p4
  replace b2 := b2.below hb b2.lt
  replace b3 := b3.below hb b3.lt
  replace hbel := bnext hbel hb
  have q1_7 := Lib.hid (q1_4.out.next hb)
  clear q1_4
  have q2_8 := Lib.hid (q2_5.out.next hb)
  clear q2_5
  have q3_9 := Lib.hid (q3_6.out.next hb)
  clear q3_6
  clear hb
  have q4_10 := Lib.hid (Part1.of ho_p4)
  clear ho_p4
  have c_b2 := b2.cell
  have c_b3 := b3.cell
  go_wp2_with fail
  clear c_b2
  clear c_b3
  refine (takefact_any _ FL _ q1_7.out.1 (by omega)).mono ?_
  rintro e w_p5 ⟨rfl, hb⟩
  rw [HK.out.1, HK.out.2]
  simp only [fcells]
  replace b2 := b2.below hb b2.lt
  replace b3 := b3.below hb b3.lt
  replace hbel := bnext hbel hb
  have q1_11 := Lib.hid (q1_7.out.next hb)
  clear q1_7
  have q2_12 := Lib.hid (q2_8.out.next hb)
  clear q2_8
  have q3_13 := Lib.hid (q3_9.out.next hb)
  clear q3_9
  have q4_14 := Lib.hid (q4_10.out.next hb)
  clear q4_10
  clear hb
  have b4 := BlkIs.new w_p5 76 #[.int .i64 g0, .int .i64 g1, .int .i64 g2, .bool g3, .int .i64 g4, .int .i64 g5, .int .i64 g6, .int .i64 g7, .int .i64 g8, .int .i64 g9, .int .i64 g10, .int .i64 g11, .int .i64 g12, .int .i64 g13]
  have hA : Below w_p5.heap.size w_p5 (w_p5.alloc (.cells #[.int .i64 g0, .int .i64 g1, .int .i64 g2, .bool g3, .int .i64 g4, .int .i64 g5, .int .i64 g6, .int .i64 g7, .int .i64 g8, .int .i64 g9, .int .i64 g10, .int .i64 g11, .int .i64 g12, .int .i64 g13] 76)) := (Below.refl _ _).alloc (Nat.le_refl _) _
  replace b2 := b2.below hA b2.lt
  replace b3 := b3.below hA b3.lt
  replace hbel := bnext hbel hA
  have q1_15 := Lib.hid (q1_11.out.next hA)
  clear q1_11
  have q2_16 := Lib.hid (q2_12.out.next hA)
  clear q2_12
  have q3_17 := Lib.hid (q3_13.out.next hA)
  clear q3_13
  have q4_18 := Lib.hid (q4_14.out.next hA)
  clear q4_14
  clear hA
  have c_b2 := b2.cell
  have c_b3 := b3.cell
  have c_b4 := b4.cell
  go_wp2_with fail
  clear c_b2
  clear c_b3
  clear c_b4
  refine (takefact_any _ l _ ((HSL.out.below hbel).mono hbel.size) (by omega)).mono ?_
  rintro e w_p6 ⟨rfl, hb⟩
  rw [← HF.out]
  simp only [fcells]
  replace b2 := b2.below hb b2.lt
  replace b3 := b3.below hb b3.lt
  replace b4 := b4.below hb b4.lt
  replace hbel := bnext hbel hb
  have q1_19 := Lib.hid (q1_15.out.next hb)
  clear q1_15
  have q2_20 := Lib.hid (q2_16.out.next hb)
  clear q2_16
  have q3_21 := Lib.hid (q3_17.out.next hb)
  clear q3_17
  have q4_22 := Lib.hid (q4_18.out.next hb)
  clear q4_18
  clear hb
  have b5 := BlkIs.new w_p6 76 #[.int .i64 i0, .int .i64 i1, .int .i64 i2, .bool i3, .int .i64 i4, .int .i64 i5, .int .i64 i6, .int .i64 i7, .int .i64 i8, .int .i64 i9, .int .i64 i10, .int .i64 i11, .int .i64 i12, .int .i64 i13]
  have hA : Below w_p6.heap.size w_p6 (w_p6.alloc (.cells #[.int .i64 i0, .int .i64 i1, .int .i64 i2, .bool i3, .int .i64 i4, .int .i64 i5, .int .i64 i6, .int .i64 i7, .int .i64 i8, .int .i64 i9, .int .i64 i10, .int .i64 i11, .int .i64 i12, .int .i64 i13] 76)) := (Below.refl _ _).alloc (Nat.le_refl _) _
  replace b2 := b2.below hA b2.lt
  replace b3 := b3.below hA b3.lt
  replace b4 := b4.below hA b4.lt
  replace hbel := bnext hbel hA
  have q1_23 := Lib.hid (q1_19.out.next hA)
  clear q1_19
  have q2_24 := Lib.hid (q2_20.out.next hA)
  clear q2_20
  have q3_25 := Lib.hid (q3_21.out.next hA)
  clear q3_21
  have q4_26 := Lib.hid (q4_22.out.next hA)
  clear q4_22
  clear hA
  have c_b2 := b2.cell
  have c_b3 := b3.cell
  have c_b4 := b4.cell
  have c_b5 := b5.cell
  go_wp2_with fail
  clear c_b2
  clear c_b3
  clear c_b4
  clear c_b5
  refine (rtakefact_any _ l _ ((HSL.out.below hbel).mono hbel.size) (by omega)).mono ?_
  rintro e w_p7 ⟨rfl, hb⟩
  rw [← HF.out]
  simp only [fcells]
  replace b2 := b2.below hb b2.lt
  replace b3 := b3.below hb b3.lt
  replace b4 := b4.below hb b4.lt
  replace b5 := b5.below hb b5.lt
  replace hbel := bnext hbel hb
  have q1_27 := Lib.hid (q1_23.out.next hb)
  clear q1_23
  have q2_28 := Lib.hid (q2_24.out.next hb)
  clear q2_24
  have q3_29 := Lib.hid (q3_25.out.next hb)
  clear q3_25
  have q4_30 := Lib.hid (q4_26.out.next hb)
  clear q4_26
  clear hb
  have b6 := BlkIs.new w_p7 76 #[.int .i64 i0, .int .i64 i1, .int .i64 i2, .bool i3, .int .i64 i4, .int .i64 i5, .int .i64 i6, .int .i64 i7, .int .i64 i8, .int .i64 i9, .int .i64 i10, .int .i64 i11, .int .i64 i12, .int .i64 i13]
  have hA : Below w_p7.heap.size w_p7 (w_p7.alloc (.cells #[.int .i64 i0, .int .i64 i1, .int .i64 i2, .bool i3, .int .i64 i4, .int .i64 i5, .int .i64 i6, .int .i64 i7, .int .i64 i8, .int .i64 i9, .int .i64 i10, .int .i64 i11, .int .i64 i12, .int .i64 i13] 76)) := (Below.refl _ _).alloc (Nat.le_refl _) _
  replace b2 := b2.below hA b2.lt
  replace b3 := b3.below hA b3.lt
  replace b4 := b4.below hA b4.lt
  replace b5 := b5.below hA b5.lt
  replace hbel := bnext hbel hA
  have q1_31 := Lib.hid (q1_27.out.next hA)
  clear q1_27
  have q2_32 := Lib.hid (q2_28.out.next hA)
  clear q2_28
  have q3_33 := Lib.hid (q3_29.out.next hA)
  clear q3_29
  have q4_34 := Lib.hid (q4_30.out.next hA)
  clear q4_30
  clear hA
  generalize fcOk l = lk at *
  generalize hn1 : FL.length = n1 at *
  generalize hn2 : GO.length = n2 at *
  clear hn1 hn2
  have eL : (FL == FL) = true := by simp
  have eG : (GO == GO) = true := by simp
  have c_b2 := b2.cell
  have c_b3 := b3.cell
  have c_b4 := b4.cell
  have c_b5 := b5.cell
  have c_b6 := b6.cell
  go_wp2_with fail
  clear c_b2
  clear c_b3
  clear c_b4
  clear c_b5
  clear c_b6
  refine (awake_any _).mono ?_
  rintro e w_a ⟨rfl, hb⟩
  replace b2 := b2.below hb b2.lt
  replace b3 := b3.below hb b3.lt
  replace b4 := b4.below hb b4.lt
  replace b5 := b5.below hb b5.lt
  replace b6 := b6.below hb b6.lt
  replace hbel := bnext hbel hb
  have q1_35 := Lib.hid (q1_31.out.next hb)
  clear q1_31
  have q2_36 := Lib.hid (q2_32.out.next hb)
  clear q2_32
  have q3_37 := Lib.hid (q3_33.out.next hb)
  clear q3_33
  have q4_38 := Lib.hid (q4_34.out.next hb)
  clear q4_34
  clear hb
  have c_b2 := b2.cell
  have c_b3 := b3.cell
  have c_b4 := b4.cell
  have c_b5 := b5.cell
  have c_b6 := b6.cell
  go_wp2_with fail
  refine (pbytes_any _ _ FL FL _ _ q1_35.out.1 q2_36.out.1).mono ?_
  rintro e w' ⟨rfl, rfl⟩
  rw [eL]
  go_wp2_with fail
  refine (pbytes_any _ _ GO GO _ _ q3_37.out.1 q4_38.out.1).mono ?_
  rintro e w' ⟨rfl, rfl⟩
  rw [eG]
  have e1 := EF.out ⟨g0, g1, g2, g3, g4, g5, g6, g7, g8, g9, g10, g11, g12, g13⟩
  have e2 := EF.out ⟨i0, i1, i2, i3, i4, i5, i6, i7, i8, i9, i10, i11, i12, i13⟩
  simp only [fcells] at e1 e2
  go_wp2
  go_ret
  exact ⟨rfl, hbel⟩

set_option maxRecDepth 100000 in
theorem lfb_lifted (os : Os) (started : os.Started) (H : Type) (enc : TypeId × Value → H) :
    ReturnsInHanded {} Try.checked os 16 .any (Rows.documentFactBodySpec.pre6 enc Try.prog Try.f16 Rows.documentFactBodyRow.domain false) (Rows.documentFactBodySpec.post enc Try.prog Try.f16 false true false false) := by
  refine returnsInHanded_of_change_sized (C := Try.checked) own_knob started (by kernel_rfl) Try.func16
    (ChangeSpec.witness6 (enc := enc) (C := Try.checked) false ⟨#[], #[.agg #[.int .i64 0, .int .i64 0, .int .i64 0, .bool false, .int .i64 0, .int .i64 0, .int .i64 0, .int .i64 0, .int .i64 0, .int .i64 0, .int .i64 0, .int .i64 0, .int .i64 0], .agg #[.int .i64 0, .int .i64 0, .int .i64 0, .bool false, .int .i64 0, .int .i64 0, .int .i64 0, .int .i64 0, .int .i64 0, .int .i64 0, .int .i64 0, .int .i64 0, .int .i64 0, .int .i64 0], .slice none 0 0], []⟩ 8 (by kernel_rfl) (by kernel_rfl) (by kernel_rfl) (by kernel_rfl)) ?_
  intro W base args ds gs before hval0 hW hcnd hsz0 _
  have hval : ∀ (j : Nat) t v, Try.f16.params[j]? = some t → args[j]? = some v → Value.okWide Try.prog W .any base t v := hval0
  have hsz : (DataW.weightsEach Try.prog (Try.f16.params.toList ++ Rows.documentFactBodySpec.plain.varTypes Try.prog) (ds ++ gs)).all (· ≤ reachBytes) = true := hsz0
  have hW' := hW
  obtain ⟨p, q, hA0, hV, rfl, hfz, hnd⟩ := hW
  have hA : DataW.TrodAll enc Try.prog W 0 (fun _ => true) true Try.f16.params.toList args.toList ds p := hA0
  rw [Try.params16] at hA hval hsz
  obtain ⟨v0, vs0, d0, ds0, p0, q0, hargs, rfl, rfl, h0, tl0⟩ := trodAll_cons hA
  obtain ⟨v1, vs1, d1, ds1, p1, q1, rfl, rfl, rfl, h1, tl1⟩ := trodAll_cons tl0
  obtain ⟨v2, vs2, d2, ds2, p2, q2, rfl, rfl, rfl, h2, tl2⟩ := trodAll_cons tl1
  obtain ⟨rfl, rfl, rfl⟩ := trodAll_nil tl2
  obtain rfl : args = #[v0, v1, v2] := by cases args; simp_all
  obtain ⟨rfl, rfl⟩ := trodVars_none hV
  have k0 := h0
  have lt0 : ∀ x ∈ p0, x.block < W.heap.size := by obtain ⟨m, hm⟩ := k0; exact DataW.trod_lt m _ _ _ hm
  have k1 := h1
  have lt1 : ∀ x ∈ p1, x.block < W.heap.size := by obtain ⟨m, hm⟩ := k1; exact DataW.trod_lt m _ _ _ hm
  have k2 := h2
  have lt2 : ∀ x ∈ p2, x.block < W.heap.size := by obtain ⟨m, hm⟩ := k2; exact DataW.trod_lt m _ _ _ hm
  obtain ⟨r0, r1, r2, r3, r4, r5, r6, r7, r8, r9, r10, r11, r12, rfl, _, _, _, _, _, _, _, _, z9, _⟩ := open_hand (hval 0 _ v0 rfl rfl) h0
  obtain ⟨a0, a1, a2, a3, a4, a5, a6, a7, a8, a9, a10, a11, a12, a13, rfl, _⟩ := open_fact (hval 1 _ v1 rfl rfl) h1
  obtain ⟨a, c, l, rfl, hz, hsl, hw⟩ := open_bytes2 (hval 2 _ v2 rfl rfl) h2
  have hl := hw (each_all hsz (j := 2) rfl rfl)
  clear hA0 hval0
  refine (lfb_walk r0 r1 r2 r3 r4 r5 r6 r7 r8 r9 r10 r11 r12 a0 a1 a2 a3 a4 a5 a6 a7 a8 a9 a10 a11 a12 a13 a c l W z9.1 z9.2 hsl hl).mono fun e W' ⟨he, bel⟩ => ?_
  subst he
  exact ⟨_, rfl, _, _, _, [], _, [], hW', trodAll_mk1 (shut_bool Try.underlying4 _), (trodAll_cons_mk (Below.trod laid_out (by kernel_rfl) (of_decide_eq_true (by kernel_rfl)) k0 bel lt0) (trodAll_cons_mk (Below.trod laid_out (by kernel_rfl) (of_decide_eq_true (by kernel_rfl)) k1 bel lt1) (trodAll_cons_mk (Below.trod laid_out (by kernel_rfl) (of_decide_eq_true (by kernel_rfl)) k2 bel lt2) trodAll_mk0))), rfl, bel.frame _, fun h => by cases h⟩

theorem lfb_over : Rows.documentFactBodyRow.holds Try.pinned (OpenSpec.ofChange Rows.documentFactBodySpec) :=
  OpenClaim.holds_of_wide 16 Try.f16 rfl rfl rfl rfl rfl rfl rfl ⟨rfl, rfl, rfl, rfl, rfl⟩ rfl rfl rfl rfl rfl (by kernel_rfl) Try.func16 (by kernel_rfl)
    (of_decide_eq_true (by kernel_rfl)) (by unfold Func.isWrapper; first | (rw [if_pos (by decide +kernel)]; kernel_rfl) | (rw [if_neg (by decide +kernel)]; exact ⟨rfl, rfl⟩))
    (fun os started H enc _ => lfb_lifted os started H enc)

/-- The statement. -/
theorem lfb_holds : Rows.DocumentFactBodySaid := lfb_over
#print axioms lfb_holds
end Go.Proofs.Ytkkjiihdmpngbaa
