/-
  DocumentClaimBody: claims have the bodies of the reference, and are read back. No conditions.
-/
import Derived.Test.YtkkjiihdmpngbaaLeq
import Derived.Test.YtkkjiihdmpngbaaLfr
import Derived.SizedLaws
namespace Go.Proofs.Ytkkjiihdmpngbaa
open Go.ChangeShapes Go.WideShapes Go.ChangeAt Go.RowKit
set_option linter.unusedVariables false

set_option maxRecDepth 100000 in
set_option maxHeartbeats 4000000 in
theorem lcl_walk (x0 x1 x2 x3 x4 x5 : Int) (a : Option Addr) (c : Nat) (l : List UInt8) (w : World) (hsl : Sl w.heap.size w (.slice a l.length c) l) :
    Calls Try.prog 13 #[.agg #[.int .i64 x0, .int .i64 x1, .int .i64 x2, .int .i64 x3, .int .i64 x4, .int .i64 x5], .slice a l.length c] w fun e w' => e = .returned (.bool true) ∧ Below w.heap.size w w' := by
  have hbel : Below w.heap.size w (w.alloc (.cells #[.int .i64 x0, .int .i64 x1, .int .i64 x2, .int .i64 x3, .int .i64 x4, .int .i64 x5] 62)) := (Below.refl _ _).alloc (Nat.le_refl _) _
  have b1 := BlkIs.new w 62 #[.int .i64 x0, .int .i64 x1, .int .i64 x2, .int .i64 x3, .int .i64 x4, .int .i64 x5]
  have HSL := Lib.hid hsl
  clear hsl
  have HBK : Hid (claimB x0 x1 x2 x3 x4 x5 = true → claimOk (claimO x0 x1 x2 x3 x4 x5) = true ∧ claimI0 (claimO x0 x1 x2 x3 x4 x5) = x0 ∧ claimI1 (claimO x0 x1 x2 x3 x4 x5) = x1 ∧ claimI2 (claimO x0 x1 x2 x3 x4 x5) = x2 ∧ claimI3 (claimO x0 x1 x2 x3 x4 x5) = x3 ∧ claimI4 (claimO x0 x1 x2 x3 x4 x5) = x4 ∧ claimI5 (claimO x0 x1 x2 x3 x4 x5) = x5) := by
    intro h
    have e : claimO x0 x1 x2 x3 x4 x5 = claimL x0 x1 x2 x3 x4 x5 := by simp [claimO, h]
    rw [e]
    exact claim_back h
  have E1 : Hid (∀ (i0 i1 i2 i3 i4 i5 : Int) (w : World), (Op.equalIn 10000 62 (.agg #[.int .i64 i0, .int .i64 i1, .int .i64 i2, .int .i64 i3, .int .i64 i4, .int .i64 i5]) (.agg #[.int .i64 i0, .int .i64 i1, .int .i64 i2, .int .i64 i3, .int .i64 i4, .int .i64 i5])).run Try.prog w = .ok true w) := eqr_claim
  obtain ⟨i0, hi0⟩ : ∃ x, x = claimI0 l := ⟨_, rfl⟩
  obtain ⟨i1, hi1⟩ : ∃ x, x = claimI1 l := ⟨_, rfl⟩
  obtain ⟨i2, hi2⟩ : ∃ x, x = claimI2 l := ⟨_, rfl⟩
  obtain ⟨i3, hi3⟩ : ∃ x, x = claimI3 l := ⟨_, rfl⟩
  obtain ⟨i4, hi4⟩ : ∃ x, x = claimI4 l := ⟨_, rfl⟩
  obtain ⟨i5, hi5⟩ : ∃ x, x = claimI5 l := ⟨_, rfl⟩
  have HI := Lib.hid (And.intro hi0 (And.intro hi1 (And.intro hi2 (And.intro hi3 (And.intro hi4 hi5)))))
  clear hi0 hi1 hi2 hi3 hi4 hi5
  go_enter Try.func13, Try.ntmps13
  have c_b1 := b1.cell
  go_wp2_with fail
  clear c_b1
  refine (ofclaim_any x0 x1 x2 x3 x4 x5 _).mono ?_
  rintro e w_p1 ⟨v_p1, rfl, ho_p1, hb⟩
  obtain ⟨a_p1, k_p1, hv_p1⟩ := own_len ho_p1
  subst hv_p1
  replace b1 := b1.below hb b1.lt
  replace hbel := bnext hbel hb
  clear hb
  have q1_1 := Lib.hid (Part1.of ho_p1)
  clear ho_p1
  have c_b1 := b1.cell
  go_wp2_with fail
  clear c_b1
  refine (rofClaim_any x0 x1 x2 x3 x4 x5 _).mono ?_
  rintro e w_p2 ⟨v_p2, rfl, ho_p2, hb⟩
  obtain ⟨a_p2, k_p2, hv_p2⟩ := own_len ho_p2
  subst hv_p2
  replace b1 := b1.below hb b1.lt
  replace hbel := bnext hbel hb
  have q1_2 := Lib.hid (q1_1.out.next hb)
  clear q1_1
  clear hb
  have q2_3 := Lib.hid (Part1.of ho_p2)
  clear ho_p2
  have c_b1 := b1.cell
  go_wp2_with fail
  clear c_b1
  refine (takeClaim_any _ l _ ((HSL.out.below hbel).mono hbel.size)).mono ?_
  rintro e w_p3 ⟨rfl, hb⟩
  obtain ⟨h0, h1, h2, h3, h4, h5⟩ := HI.out
  rw [← h0, ← h1, ← h2, ← h3, ← h4, ← h5]
  clear h0 h1 h2 h3 h4 h5
  replace b1 := b1.below hb b1.lt
  replace hbel := bnext hbel hb
  have q1_4 := Lib.hid (q1_2.out.next hb)
  clear q1_2
  have q2_5 := Lib.hid (q2_3.out.next hb)
  clear q2_3
  clear hb
  have b3 := BlkIs.new w_p3 62 #[.int .i64 i0, .int .i64 i1, .int .i64 i2, .int .i64 i3, .int .i64 i4, .int .i64 i5]
  have hA : Below w_p3.heap.size w_p3 (w_p3.alloc (.cells #[.int .i64 i0, .int .i64 i1, .int .i64 i2, .int .i64 i3, .int .i64 i4, .int .i64 i5] 62)) := (Below.refl _ _).alloc (Nat.le_refl _) _
  replace b1 := b1.below hA b1.lt
  replace hbel := bnext hbel hA
  have q1_6 := Lib.hid (q1_4.out.next hA)
  clear q1_4
  have q2_7 := Lib.hid (q2_5.out.next hA)
  clear q2_5
  clear hA
  have c_b1 := b1.cell
  have c_b3 := b3.cell
  go_wp2_with fail
  clear c_b1
  clear c_b3
  refine (rtakeClaim_any _ l _ ((HSL.out.below hbel).mono hbel.size)).mono ?_
  rintro e w_p4 ⟨rfl, hb⟩
  obtain ⟨h0, h1, h2, h3, h4, h5⟩ := HI.out
  rw [← h0, ← h1, ← h2, ← h3, ← h4, ← h5]
  clear h0 h1 h2 h3 h4 h5
  replace b1 := b1.below hb b1.lt
  replace b3 := b3.below hb b3.lt
  replace hbel := bnext hbel hb
  have q1_8 := Lib.hid (q1_6.out.next hb)
  clear q1_6
  have q2_9 := Lib.hid (q2_7.out.next hb)
  clear q2_7
  clear hb
  have b4 := BlkIs.new w_p4 62 #[.int .i64 i0, .int .i64 i1, .int .i64 i2, .int .i64 i3, .int .i64 i4, .int .i64 i5]
  have hA : Below w_p4.heap.size w_p4 (w_p4.alloc (.cells #[.int .i64 i0, .int .i64 i1, .int .i64 i2, .int .i64 i3, .int .i64 i4, .int .i64 i5] 62)) := (Below.refl _ _).alloc (Nat.le_refl _) _
  replace b1 := b1.below hA b1.lt
  replace b3 := b3.below hA b3.lt
  replace hbel := bnext hbel hA
  have q1_10 := Lib.hid (q1_8.out.next hA)
  clear q1_8
  have q2_11 := Lib.hid (q2_9.out.next hA)
  clear q2_9
  clear hA
  have c_b1 := b1.cell
  have c_b3 := b3.cell
  have c_b4 := b4.cell
  go_wp2_with fail
  clear c_b1
  clear c_b3
  clear c_b4
  refine (takeClaim_any _ (claimO x0 x1 x2 x3 x4 x5) _ q1_10.out.1).mono ?_
  rintro e w_p5 ⟨rfl, hb⟩
  replace b1 := b1.below hb b1.lt
  replace b3 := b3.below hb b3.lt
  replace b4 := b4.below hb b4.lt
  replace hbel := bnext hbel hb
  have q1_12 := Lib.hid (q1_10.out.next hb)
  clear q1_10
  have q2_13 := Lib.hid (q2_11.out.next hb)
  clear q2_11
  clear hb
  rcases hcb : claimB x0 x1 x2 x3 x4 x5 with _ | _
  · have HCB := Lib.hid hcb
    clear hcb
    clear HBK
    generalize claimI0 (claimO x0 x1 x2 x3 x4 x5) = j0 at *
    generalize claimI1 (claimO x0 x1 x2 x3 x4 x5) = j1 at *
    generalize claimI2 (claimO x0 x1 x2 x3 x4 x5) = j2 at *
    generalize claimI3 (claimO x0 x1 x2 x3 x4 x5) = j3 at *
    generalize claimI4 (claimO x0 x1 x2 x3 x4 x5) = j4 at *
    generalize claimI5 (claimO x0 x1 x2 x3 x4 x5) = j5 at *
    generalize claimOk (claimO x0 x1 x2 x3 x4 x5) = jk at *
    have b5 := BlkIs.new w_p5 62 #[.int .i64 j0, .int .i64 j1, .int .i64 j2, .int .i64 j3, .int .i64 j4, .int .i64 j5]
    have hA : Below w_p5.heap.size w_p5 (w_p5.alloc (.cells #[.int .i64 j0, .int .i64 j1, .int .i64 j2, .int .i64 j3, .int .i64 j4, .int .i64 j5] 62)) := (Below.refl _ _).alloc (Nat.le_refl _) _
    replace b1 := b1.below hA b1.lt
    replace b3 := b3.below hA b3.lt
    replace b4 := b4.below hA b4.lt
    replace hbel := bnext hbel hA
    have q1_14 := Lib.hid (q1_12.out.next hA)
    clear q1_12
    have q2_15 := Lib.hid (q2_13.out.next hA)
    clear q2_13
    clear hA
    generalize claimO x0 x1 x2 x3 x4 x5 = L at *
    generalize hn : L.length = n at *
    clear hn
    have eL : (L == L) = true := by simp
    generalize claimOk l = lk at *
    have c_b1 := b1.cell
    have c_b3 := b3.cell
    have c_b4 := b4.cell
    have c_b5 := b5.cell
    go_wp2_with fail
    clear c_b1
    clear c_b3
    clear c_b4
    clear c_b5
    refine (awake_any _).mono ?_
    rintro e w_a ⟨rfl, hb⟩
    replace b1 := b1.below hb b1.lt
    replace b3 := b3.below hb b3.lt
    replace b4 := b4.below hb b4.lt
    replace b5 := b5.below hb b5.lt
    replace hbel := bnext hbel hb
    have q1_16 := Lib.hid (q1_14.out.next hb)
    clear q1_14
    have q2_17 := Lib.hid (q2_15.out.next hb)
    clear q2_15
    clear hb
    have c_b1 := b1.cell
    have c_b3 := b3.cell
    have c_b4 := b4.cell
    have c_b5 := b5.cell
    go_wp2_with fail
    refine (pbytes_any _ _ L L _ _ q1_16.out.1 q2_17.out.1).mono ?_
    rintro e w' ⟨rfl, rfl⟩
    rw [eL]
    have e1 := E1.out i0 i1 i2 i3 i4 i5
    go_wp2
    go_ret
    exact ⟨rfl, hbel⟩
  · have HCB := Lib.hid hcb
    clear hcb
    obtain ⟨h6, h0, h1, h2, h3, h4, h5⟩ := HBK.out HCB.out
    rw [h6, h0, h1, h2, h3, h4, h5]
    clear h6 h0 h1 h2 h3 h4 h5 HBK
    have b5 := BlkIs.new w_p5 62 #[.int .i64 x0, .int .i64 x1, .int .i64 x2, .int .i64 x3, .int .i64 x4, .int .i64 x5]
    have hA : Below w_p5.heap.size w_p5 (w_p5.alloc (.cells #[.int .i64 x0, .int .i64 x1, .int .i64 x2, .int .i64 x3, .int .i64 x4, .int .i64 x5] 62)) := (Below.refl _ _).alloc (Nat.le_refl _) _
    replace b1 := b1.below hA b1.lt
    replace b3 := b3.below hA b3.lt
    replace b4 := b4.below hA b4.lt
    replace hbel := bnext hbel hA
    have q1_14 := Lib.hid (q1_12.out.next hA)
    clear q1_12
    have q2_15 := Lib.hid (q2_13.out.next hA)
    clear q2_13
    clear hA
    generalize claimO x0 x1 x2 x3 x4 x5 = L at *
    generalize hn : L.length = n at *
    clear hn
    have eL : (L == L) = true := by simp
    generalize claimOk l = lk at *
    have c_b1 := b1.cell
    have c_b3 := b3.cell
    have c_b4 := b4.cell
    have c_b5 := b5.cell
    go_wp2_with fail
    clear c_b1
    clear c_b3
    clear c_b4
    clear c_b5
    refine (awake_any _).mono ?_
    rintro e w_a ⟨rfl, hb⟩
    replace b1 := b1.below hb b1.lt
    replace b3 := b3.below hb b3.lt
    replace b4 := b4.below hb b4.lt
    replace b5 := b5.below hb b5.lt
    replace hbel := bnext hbel hb
    have q1_16 := Lib.hid (q1_14.out.next hb)
    clear q1_14
    have q2_17 := Lib.hid (q2_15.out.next hb)
    clear q2_15
    clear hb
    have c_b1 := b1.cell
    have c_b3 := b3.cell
    have c_b4 := b4.cell
    have c_b5 := b5.cell
    go_wp2_with fail
    refine (pbytes_any _ _ L L _ _ q1_16.out.1 q2_17.out.1).mono ?_
    rintro e w' ⟨rfl, rfl⟩
    rw [eL]
    have e1 := E1.out i0 i1 i2 i3 i4 i5
    have e2 := E1.out x0 x1 x2 x3 x4 x5
    go_wp2
    go_ret
    exact ⟨rfl, hbel⟩

set_option maxRecDepth 100000 in
theorem lcl_lifted (os : Os) (started : os.Started) (H : Type) (enc : TypeId × Value → H) :
    ReturnsInHanded {} Try.checked os 13 .any (Rows.documentClaimBodySpec.pre6 enc Try.prog Try.f13 Rows.documentClaimBodyRow.domain false) (Rows.documentClaimBodySpec.post enc Try.prog Try.f13 false true false false) := by
  refine returnsInHanded_of_change_sized (C := Try.checked) own_knob started (by kernel_rfl) Try.func13
    (ChangeSpec.witness6 (enc := enc) (C := Try.checked) false ⟨#[], #[.agg #[.int .i64 0, .int .i64 0, .int .i64 0, .int .i64 0, .int .i64 0, .int .i64 0], .slice none 0 0], []⟩ 8 (by kernel_rfl) (by kernel_rfl) (by kernel_rfl) (by kernel_rfl)) ?_
  intro W base args ds gs before hval0 hW hcnd hsz0 _
  have hval : ∀ (j : Nat) t v, Try.f13.params[j]? = some t → args[j]? = some v → Value.okWide Try.prog W .any base t v := hval0
  have hsz : (DataW.weightsEach Try.prog (Try.f13.params.toList ++ Rows.documentClaimBodySpec.plain.varTypes Try.prog) (ds ++ gs)).all (· ≤ reachBytes) = true := hsz0
  have hW' := hW
  obtain ⟨p, q, hA0, hV, rfl, hfz, hnd⟩ := hW
  have hA : DataW.TrodAll enc Try.prog W 0 (fun _ => true) true Try.f13.params.toList args.toList ds p := hA0
  rw [Try.params13] at hA hval hsz
  obtain ⟨v0, vs0, d0, ds0, p0, q0, hargs, rfl, rfl, h0, tl0⟩ := trodAll_cons hA
  obtain ⟨v1, vs1, d1, ds1, p1, q1, rfl, rfl, rfl, h1, tl1⟩ := trodAll_cons tl0
  obtain ⟨rfl, rfl, rfl⟩ := trodAll_nil tl1
  obtain rfl : args = #[v0, v1] := by cases args; simp_all
  obtain ⟨rfl, rfl⟩ := trodVars_none hV
  have k0 := h0
  have lt0 : ∀ x ∈ p0, x.block < W.heap.size := by obtain ⟨m, hm⟩ := k0; exact DataW.trod_lt m _ _ _ hm
  have k1 := h1
  have lt1 : ∀ x ∈ p1, x.block < W.heap.size := by obtain ⟨m, hm⟩ := k1; exact DataW.trod_lt m _ _ _ hm
  obtain ⟨x0, x1, x2, x3, x4, x5, rfl, _⟩ := open_claim (hval 0 _ v0 rfl rfl) h0
  obtain ⟨a, c, l, rfl, hz, hsl, hw⟩ := open_bytes2 (hval 1 _ v1 rfl rfl) h1
  clear hA0 hval0
  refine (lcl_walk x0 x1 x2 x3 x4 x5 a c l W hsl).mono fun e W' ⟨he, bel⟩ => ?_
  subst he
  exact ⟨_, rfl, _, _, _, [], _, [], hW', trodAll_mk1 (shut_bool Try.underlying4 _), (trodAll_cons_mk (Below.trod laid_out (by kernel_rfl) (of_decide_eq_true (by kernel_rfl)) k0 bel lt0) (trodAll_cons_mk (Below.trod laid_out (by kernel_rfl) (of_decide_eq_true (by kernel_rfl)) k1 bel lt1) trodAll_mk0)), rfl, bel.frame _, fun h => by cases h⟩

theorem lcl_over : Rows.documentClaimBodyRow.holds Try.pinned (OpenSpec.ofChange Rows.documentClaimBodySpec) :=
  OpenClaim.holds_of_wide 13 Try.f13 rfl rfl rfl rfl rfl rfl rfl ⟨rfl, rfl, rfl, rfl, rfl⟩ rfl rfl rfl rfl rfl (by kernel_rfl) Try.func13 (by kernel_rfl)
    (of_decide_eq_true (by kernel_rfl)) (by unfold Func.isWrapper; first | (rw [if_pos (by decide +kernel)]; kernel_rfl) | (rw [if_neg (by decide +kernel)]; exact ⟨rfl, rfl⟩))
    (fun os started H enc _ => lcl_lifted os started H enc)

/-- The statement. -/
theorem lcl_holds : Rows.DocumentClaimBodySaid := lcl_over
#print axioms lcl_holds
end Go.Proofs.Ytkkjiihdmpngbaa
