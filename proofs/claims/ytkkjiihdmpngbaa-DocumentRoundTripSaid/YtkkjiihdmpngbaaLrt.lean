/-
  DocumentRoundTrip: decoding the encoding of a made document returns the document. No conditions.
-/
import Derived.Test.YtkkjiihdmpngbaaDi2
import Derived.Test.YtkkjiihdmpngbaaLfr
import Derived.SizedLaws
namespace Go.Proofs.Ytkkjiihdmpngbaa
open Go.ChangeShapes Go.WideShapes Go.ChangeAt Go.RowKit
set_option linter.unusedVariables false

set_option maxRecDepth 100000 in
set_option maxHeartbeats 4000000 in
theorem lrt_walk (z0 z1 z2 z3 z4 z5 : Int) (z6 : Bool) (z7 z8 z9 z10 z11 z12 z13 z14 z15 z16 z17 z18 z19 z20 : Int) (w : World) (r12 : -9223372036854775808 ≤ z12 ∧ z12 ≤ 9223372036854775807) (r18 : -9223372036854775808 ≤ z18 ∧ z18 ≤ 9223372036854775807) (r19 : -9223372036854775808 ≤ z19 ∧ z19 ≤ 9223372036854775807) (r20 : -9223372036854775808 ≤ z20 ∧ z20 ≤ 9223372036854775807) :
    Calls Try.prog 8 #[.agg #[.int .i64 z0, .int .i64 z1, .int .i64 z2, .int .i64 z3, .int .i64 z4, .int .i64 z5, .bool z6, .int .i64 z7, .int .i64 z8, .int .i64 z9, .int .i64 z10, .int .i64 z11, .int .i64 z12, .int .i64 z13, .int .i64 z14, .int .i64 z15, .int .i64 z16, .int .i64 z17, .int .i64 z18, .int .i64 z19, .int .i64 z20]] w fun e w' => e = .returned (.bool true) ∧ Below w.heap.size w w' := by
  have hbox := BlkIs.new w 32 #[.int .i64 z0, .int .i64 z1, .int .i64 z2, .int .i64 z3, .int .i64 z4, .int .i64 z5, .bool z6, .int .i64 z7, .int .i64 z8, .int .i64 z9, .int .i64 z10, .int .i64 z11, .int .i64 z12, .int .i64 z13, .int .i64 z14, .int .i64 z15, .int .i64 z16, .int .i64 z17, .int .i64 z18, .int .i64 z19, .int .i64 z20]
  have hbel : Below w.heap.size w (w.alloc (.cells #[.int .i64 z0, .int .i64 z1, .int .i64 z2, .int .i64 z3, .int .i64 z4, .int .i64 z5, .bool z6, .int .i64 z7, .int .i64 z8, .int .i64 z9, .int .i64 z10, .int .i64 z11, .int .i64 z12, .int .i64 z13, .int .i64 z14, .int .i64 z15, .int .i64 z16, .int .i64 z17, .int .i64 z18, .int .i64 z19, .int .i64 z20] 32)) := (Below.refl _ _).alloc (Nat.le_refl _) _
  go_enter Try.func8, Try.ntmps8
  go_wp2_with (refine wpList_load_row (by rfl) 32 (.tmp 1) (by rfl) w.heap.size (by rfl) _ _ _ _ hbox Try.underlying32 rfl info_raw ?_)
  refine (dmake_any z0 z1 z2 z3 z4 z5 z6 z7 z8 z9 z10 z11 z12 z13 z14 z15 z16 z17 z18 z19 z20 _ r12 r18 r19 r20).mono ?_
  rintro e w_m ⟨s, n, k, p, v, l, rfl, hdoc, hp0, hp1, hv, hb⟩
  clear hbox
  replace hbel := bnext hbel hb
  clear hb
  obtain ⟨va, vn, vc, hvv⟩ := hv.shape
  subst hvv
  simp only [docV]
  have hlen := bodyB_len (docB_parts hdoc).2.2.2
  have HD := Lib.hid hdoc
  have HE := Lib.hid (enc_ok hdoc)
  have HR := Lib.hid (dec_ok hdoc hp0 hp1)
  have HXL := Lib.hid (encA_len s n k p l)
  clear hdoc
  have q_1 := Lib.hid hv
  clear hv
  have b1 := BlkIs.new w_m 34 #[.int .i64 s, .int .i64 n, .int .i64 k, .int .u32 p, .slice va vn vc]
  have hA : Below w_m.heap.size w_m (w_m.alloc (.cells #[.int .i64 s, .int .i64 n, .int .i64 k, .int .u32 p, .slice va vn vc] 34)) := (Below.refl _ _).alloc (Nat.le_refl _) _
  replace hbel := bnext hbel hA
  have q_2 := Lib.hid (q_1.out.next hA)
  clear q_1
  clear hA
  have c_b1 := b1.cell
  go_wp2_with fail
  clear c_b1
  refine (encode_any s n k p _ l _ q_2.out.1 q_2.out.2 (by omega) hp0 hp1).mono ?_
  rintro e w_p1 ⟨v_p1, rfl, ho_p1, hb⟩
  rw [HE.out.1]
  rw [HE.out.2] at ho_p1
  obtain ⟨a_p1, k_p1, hv_p1⟩ := own_len ho_p1
  subst hv_p1
  replace b1 := b1.below hb b1.lt
  replace hbel := bnext hbel hb
  have q_3 := Lib.hid (q_2.out.next hb)
  clear q_2
  clear hb
  have x_4 := Lib.hid (Part1.of ho_p1)
  clear ho_p1
  generalize encA s n k p l = X at *
  go_wp2_with fail
  refine (decode_any _ X _ x_4.out.1 (by rw [HXL.out]; omega)).mono ?_
  rintro e w_d ⟨y, rfl, hy, hb⟩
  obtain ⟨e0, e1, e2, e3, e4, e5⟩ := HR.out
  rw [e0, e1, e2, e3, e4]
  rw [e5] at hy
  clear e0 e1 e2 e3 e4 e5 HR
  obtain ⟨ya, yn, yc, hyy⟩ := hy.shape
  subst hyy
  simp only [docV]
  replace b1 := b1.below hb b1.lt
  replace hbel := bnext hbel hb
  have q_5 := Lib.hid (q_3.out.next hb)
  clear q_3
  have x_6 := Lib.hid (x_4.out.next hb)
  clear x_4
  clear hb
  have y_7 := Lib.hid hy
  clear hy
  have b2 := BlkIs.new w_d 34 #[.int .i64 s, .int .i64 n, .int .i64 k, .int .u32 p, .slice ya yn yc]
  have hA : Below w_d.heap.size w_d (w_d.alloc (.cells #[.int .i64 s, .int .i64 n, .int .i64 k, .int .u32 p, .slice ya yn yc] 34)) := (Below.refl _ _).alloc (Nat.le_refl _) _
  replace b1 := b1.below hA b1.lt
  replace hbel := bnext hbel hA
  have q_8 := Lib.hid (q_5.out.next hA)
  clear q_5
  have x_9 := Lib.hid (x_6.out.next hA)
  clear x_6
  have y_10 := Lib.hid (y_7.out.next hA)
  clear y_7
  clear hA
  have c_b1 := b1.cell
  have c_b2 := b2.cell
  go_wp2_with fail
  clear c_b1
  clear c_b2
  refine (awake_any _).mono ?_
  rintro e w_a ⟨rfl, hb⟩
  replace b1 := b1.below hb b1.lt
  replace b2 := b2.below hb b2.lt
  replace hbel := bnext hbel hb
  have q_11 := Lib.hid (q_8.out.next hb)
  clear q_8
  have x_12 := Lib.hid (x_9.out.next hb)
  clear x_9
  have y_13 := Lib.hid (y_10.out.next hb)
  clear y_10
  clear hb
  have c_b1 := b1.cell
  have c_b2 := b2.cell
  go_wp2_with fail
  clear c_b1
  clear c_b2
  refine (same_eq s n k p _ _ l _ y_13.out.1 q_11.out.1).mono ?_
  rintro e w_b ⟨rfl, hb⟩
  replace b1 := b1.below hb b1.lt
  replace b2 := b2.below hb b2.lt
  replace hbel := bnext hbel hb
  have q_14 := Lib.hid (q_11.out.next hb)
  clear q_11
  have x_15 := Lib.hid (x_12.out.next hb)
  clear x_12
  have y_16 := Lib.hid (y_13.out.next hb)
  clear y_13
  clear hb
  go_wp2
  go_ret
  exact ⟨rfl, hbel⟩

set_option maxRecDepth 100000 in
theorem lrt_lifted (os : Os) (started : os.Started) (H : Type) (enc : TypeId × Value → H) :
    ReturnsInHanded {} Try.checked os 8 .any (Rows.documentRoundTripSpec.pre6 enc Try.prog Try.f8 Rows.documentRoundTripRow.domain false) (Rows.documentRoundTripSpec.post enc Try.prog Try.f8 false true false false) := by
  refine returnsInHanded_of_change_sized (C := Try.checked) own_knob started (by kernel_rfl) Try.func8
    (ChangeSpec.witness6 (enc := enc) (C := Try.checked) false ⟨#[], #[.agg #[.int .i64 0, .int .i64 0, .int .i64 0, .int .i64 0, .int .i64 0, .int .i64 0, .bool false, .int .i64 0, .int .i64 0, .int .i64 0, .int .i64 0, .int .i64 0, .int .i64 0, .int .i64 0, .int .i64 0, .int .i64 0, .int .i64 0, .int .i64 0, .int .i64 0, .int .i64 0, .int .i64 0]], []⟩ 8 (by kernel_rfl) (by kernel_rfl) (by kernel_rfl) (by kernel_rfl)) ?_
  intro W base args ds gs before hval0 hW hcnd hsz0 _
  have hval : ∀ (j : Nat) t v, Try.f8.params[j]? = some t → args[j]? = some v → Value.okWide Try.prog W .any base t v := hval0
  have hsz : (DataW.weightsEach Try.prog (Try.f8.params.toList ++ Rows.documentRoundTripSpec.plain.varTypes Try.prog) (ds ++ gs)).all (· ≤ reachBytes) = true := hsz0
  have hW' := hW
  obtain ⟨p, q, hA0, hV, rfl, hfz, hnd⟩ := hW
  have hA : DataW.TrodAll enc Try.prog W 0 (fun _ => true) true Try.f8.params.toList args.toList ds p := hA0
  rw [Try.params8] at hA hval hsz
  obtain ⟨v0, vs0, d0, ds0, p0, q0, hargs, rfl, rfl, h0, tl0⟩ := trodAll_cons hA
  obtain ⟨rfl, rfl, rfl⟩ := trodAll_nil tl0
  obtain rfl : args = #[v0] := by cases args; simp_all
  obtain ⟨rfl, rfl⟩ := trodVars_none hV
  have k0 := h0
  have lt0 : ∀ x ∈ p0, x.block < W.heap.size := by obtain ⟨m, hm⟩ := k0; exact DataW.trod_lt m _ _ _ hm
  obtain ⟨z0, z1, z2, z3, z4, z5, z6, z7, z8, z9, z10, z11, z12, z13, z14, z15, z16, z17, z18, z19, z20, rfl, u0, u1, u2, u3, u4, u5, u7, u8, u9, u10, u11, u12, u13, u14, u15, u16, u17, u18, u19, u20⟩ := open_raw (hval 0 _ v0 rfl rfl) h0
  clear hA0 hval0
  refine (lrt_walk z0 z1 z2 z3 z4 z5 z6 z7 z8 z9 z10 z11 z12 z13 z14 z15 z16 z17 z18 z19 z20 W u12 u18 u19 u20).mono fun e W' ⟨he, bel⟩ => ?_
  subst he
  exact ⟨_, rfl, _, _, _, [], _, [], hW', trodAll_mk1 (shut_bool Try.underlying4 _), (trodAll_cons_mk (Below.trod laid_out (by kernel_rfl) (of_decide_eq_true (by kernel_rfl)) k0 bel lt0) trodAll_mk0), rfl, bel.frame _, fun h => by cases h⟩

theorem lrt_over : Rows.documentRoundTripRow.holds Try.pinned (OpenSpec.ofChange Rows.documentRoundTripSpec) :=
  OpenClaim.holds_of_wide 8 Try.f8 rfl rfl rfl rfl rfl rfl rfl ⟨rfl, rfl, rfl, rfl, rfl⟩ rfl rfl rfl rfl rfl (by kernel_rfl) Try.func8 (by kernel_rfl)
    (of_decide_eq_true (by kernel_rfl)) (by unfold Func.isWrapper; first | (rw [if_pos (by decide +kernel)]; kernel_rfl) | (rw [if_neg (by decide +kernel)]; exact ⟨rfl, rfl⟩))
    (fun os started H enc _ => lrt_lifted os started H enc)

/-- The statement. -/
theorem lrt_holds : Rows.DocumentRoundTripSaid := lrt_over
#print axioms lrt_holds
end Go.Proofs.Ytkkjiihdmpngbaa
