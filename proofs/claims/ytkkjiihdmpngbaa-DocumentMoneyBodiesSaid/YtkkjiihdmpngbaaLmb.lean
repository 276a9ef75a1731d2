/-
  DocumentMoneyBodies: requests, remittances and notices have the bodies of the reference. No conditions.
-/
import Derived.Test.YtkkjiihdmpngbaaLeq
import Derived.Test.YtkkjiihdmpngbaaLfr
import Derived.SizedLaws
namespace Go.Proofs.Ytkkjiihdmpngbaa
open Go.ChangeShapes Go.WideShapes Go.ChangeAt Go.RowKit
set_option linter.unusedVariables false

set_option maxRecDepth 100000 in
set_option maxHeartbeats 4000000 in
theorem lmb_walk (x0 x1 x2 y0 y1 y2 y3 y4 y5 t0 t1 t2 t3 : Int) (w : World) :
    Calls Try.prog 14 #[.agg #[.int .i64 x0, .int .i64 x1, .int .i64 x2], .agg #[.int .i64 y0, .int .i64 y1, .int .i64 y2, .int .i64 y3, .int .i64 y4, .int .i64 y5], .agg #[.int .i64 t0, .int .i64 t1, .int .i64 t2, .int .i64 t3]] w fun e w' => e = .returned (.bool true) ∧ Below w.heap.size w w' := by
  have hbel : Below w.heap.size w (((w.alloc (.cells #[.int .i64 x0, .int .i64 x1, .int .i64 x2] 48)).alloc (.cells #[.int .i64 y0, .int .i64 y1, .int .i64 y2, .int .i64 y3, .int .i64 y4, .int .i64 y5] 52)).alloc (.cells #[.int .i64 t0, .int .i64 t1, .int .i64 t2, .int .i64 t3] 56)) := (((Below.refl _ _).alloc (Nat.le_refl _) _).alloc (by simp) _).alloc (by simp; omega) _
  have b1 : BlkIs (((w.alloc (.cells #[.int .i64 x0, .int .i64 x1, .int .i64 x2] 48)).alloc (.cells #[.int .i64 y0, .int .i64 y1, .int .i64 y2, .int .i64 y3, .int .i64 y4, .int .i64 y5] 52)).alloc (.cells #[.int .i64 t0, .int .i64 t1, .int .i64 t2, .int .i64 t3] 56)) w.heap.size 48 #[.int .i64 x0, .int .i64 x1, .int .i64 x2] := ((BlkIs.new _ _ _).alloc _).alloc _
  have b2 : BlkIs (((w.alloc (.cells #[.int .i64 x0, .int .i64 x1, .int .i64 x2] 48)).alloc (.cells #[.int .i64 y0, .int .i64 y1, .int .i64 y2, .int .i64 y3, .int .i64 y4, .int .i64 y5] 52)).alloc (.cells #[.int .i64 t0, .int .i64 t1, .int .i64 t2, .int .i64 t3] 56)) (w.heap.size + 1) 52 #[.int .i64 y0, .int .i64 y1, .int .i64 y2, .int .i64 y3, .int .i64 y4, .int .i64 y5] := (BlkIs.newAt _ _ _ _ (by simp)).alloc _
  have b3 : BlkIs (((w.alloc (.cells #[.int .i64 x0, .int .i64 x1, .int .i64 x2] 48)).alloc (.cells #[.int .i64 y0, .int .i64 y1, .int .i64 y2, .int .i64 y3, .int .i64 y4, .int .i64 y5] 52)).alloc (.cells #[.int .i64 t0, .int .i64 t1, .int .i64 t2, .int .i64 t3] 56)) (w.heap.size + 2) 56 #[.int .i64 t0, .int .i64 t1, .int .i64 t2, .int .i64 t3] := BlkIs.newAt _ _ _ _ (by simp)
  go_enter Try.func14, Try.ntmps14
  have c_b1 := b1.cell
  have c_b2 := b2.cell
  have c_b3 := b3.cell
  go_wp2_with fail
  clear c_b1
  clear c_b2
  clear c_b3
  refine (ofrequest_any x0 x1 x2 _).mono ?_
  rintro e w_p1 ⟨v_p1, rfl, ho_p1, hb⟩
  obtain ⟨a_p1, k_p1, hv_p1⟩ := own_len ho_p1
  subst hv_p1
  replace b1 := b1.below hb b1.lt
  replace b2 := b2.below hb b2.lt
  replace b3 := b3.below hb b3.lt
  replace hbel := bnext hbel hb
  clear hb
  have q1_1 := Lib.hid (Part1.of ho_p1)
  clear ho_p1
  have c_b1 := b1.cell
  have c_b2 := b2.cell
  have c_b3 := b3.cell
  go_wp2_with fail
  clear c_b1
  clear c_b2
  clear c_b3
  refine (rofRequest_any x0 x1 x2 _).mono ?_
  rintro e w_p2 ⟨v_p2, rfl, ho_p2, hb⟩
  obtain ⟨a_p2, k_p2, hv_p2⟩ := own_len ho_p2
  subst hv_p2
  replace b1 := b1.below hb b1.lt
  replace b2 := b2.below hb b2.lt
  replace b3 := b3.below hb b3.lt
  replace hbel := bnext hbel hb
  have q1_2 := Lib.hid (q1_1.out.next hb)
  clear q1_1
  clear hb
  have q2_3 := Lib.hid (Part1.of ho_p2)
  clear ho_p2
  have c_b1 := b1.cell
  have c_b2 := b2.cell
  have c_b3 := b3.cell
  go_wp2_with fail
  clear c_b1
  clear c_b2
  clear c_b3
  refine (ofremittance_any y0 y1 y2 y3 y4 y5 _).mono ?_
  rintro e w_p3 ⟨v_p3, rfl, ho_p3, hb⟩
  obtain ⟨a_p3, k_p3, hv_p3⟩ := own_len ho_p3
  subst hv_p3
  replace b1 := b1.below hb b1.lt
  replace b2 := b2.below hb b2.lt
  replace b3 := b3.below hb b3.lt
  replace hbel := bnext hbel hb
  have q1_4 := Lib.hid (q1_2.out.next hb)
  clear q1_2
  have q2_5 := Lib.hid (q2_3.out.next hb)
  clear q2_3
  clear hb
  have q3_6 := Lib.hid (Part1.of ho_p3)
  clear ho_p3
  have c_b1 := b1.cell
  have c_b2 := b2.cell
  have c_b3 := b3.cell
  go_wp2_with fail
  clear c_b1
  clear c_b2
  clear c_b3
  refine (rofRemittance_any y0 y1 y2 y3 y4 y5 _).mono ?_
  rintro e w_p4 ⟨v_p4, rfl, ho_p4, hb⟩
  obtain ⟨a_p4, k_p4, hv_p4⟩ := own_len ho_p4
  subst hv_p4
  replace b1 := b1.below hb b1.lt
  replace b2 := b2.below hb b2.lt
  replace b3 := b3.below hb b3.lt
  replace hbel := bnext hbel hb
  have q1_7 := Lib.hid (q1_4.out.next hb)
  clear q1_4
  have q2_8 := Lib.hid (q2_5.out.next hb)
  clear q2_5
  have q3_9 := Lib.hid (q3_6.out.next hb)
  clear q3_6
  clear hb
  have q4_10 := Lib.hid (Part1.of ho_p4)
  clear ho_p4
  have c_b1 := b1.cell
  have c_b2 := b2.cell
  have c_b3 := b3.cell
  go_wp2_with fail
  clear c_b1
  clear c_b2
  clear c_b3
  refine (ofnotice_any t0 t1 t2 t3 _).mono ?_
  rintro e w_p5 ⟨v_p5, rfl, ho_p5, hb⟩
  obtain ⟨a_p5, k_p5, hv_p5⟩ := own_len ho_p5
  subst hv_p5
  replace b1 := b1.below hb b1.lt
  replace b2 := b2.below hb b2.lt
  replace b3 := b3.below hb b3.lt
  replace hbel := bnext hbel hb
  have q1_11 := Lib.hid (q1_7.out.next hb)
  clear q1_7
  have q2_12 := Lib.hid (q2_8.out.next hb)
  clear q2_8
  have q3_13 := Lib.hid (q3_9.out.next hb)
  clear q3_9
  have q4_14 := Lib.hid (q4_10.out.next hb)
  clear q4_10
  clear hb
  have q5_15 := Lib.hid (Part1.of ho_p5)
  clear ho_p5
  have c_b1 := b1.cell
  have c_b2 := b2.cell
  have c_b3 := b3.cell
  go_wp2_with fail
  clear c_b1
  clear c_b2
  clear c_b3
  refine (rofNotice_any t0 t1 t2 t3 _).mono ?_
  rintro e w_p6 ⟨v_p6, rfl, ho_p6, hb⟩
  obtain ⟨a_p6, k_p6, hv_p6⟩ := own_len ho_p6
  subst hv_p6
  replace b1 := b1.below hb b1.lt
  replace b2 := b2.below hb b2.lt
  replace b3 := b3.below hb b3.lt
  replace hbel := bnext hbel hb
  have q1_16 := Lib.hid (q1_11.out.next hb)
  clear q1_11
  have q2_17 := Lib.hid (q2_12.out.next hb)
  clear q2_12
  have q3_18 := Lib.hid (q3_13.out.next hb)
  clear q3_13
  have q4_19 := Lib.hid (q4_14.out.next hb)
  clear q4_14
  have q5_20 := Lib.hid (q5_15.out.next hb)
  clear q5_15
  clear hb
  have q6_21 := Lib.hid (Part1.of ho_p6)
  clear ho_p6
  generalize requestO x0 x1 x2 = L_requestO at *
  generalize hn_requestO : L_requestO.length = n_requestO at *
  clear hn_requestO
  have e_requestO : (L_requestO == L_requestO) = true := by simp
  generalize remittanceO y0 y1 y2 y3 y4 y5 = L_remittanceO at *
  generalize hn_remittanceO : L_remittanceO.length = n_remittanceO at *
  clear hn_remittanceO
  have e_remittanceO : (L_remittanceO == L_remittanceO) = true := by simp
  generalize noticeO t0 t1 t2 t3 = L_noticeO at *
  generalize hn_noticeO : L_noticeO.length = n_noticeO at *
  clear hn_noticeO
  have e_noticeO : (L_noticeO == L_noticeO) = true := by simp
  generalize requestB x0 x1 x2 = B_requestB at *
  generalize remittanceB y0 y1 y2 y3 y4 y5 = B_remittanceB at *
  generalize noticeB t0 t1 t2 t3 = B_noticeB at *
  go_wp2_with fail
  refine (awake_any _).mono ?_
  rintro e w_a ⟨rfl, hb⟩
  replace b1 := b1.below hb b1.lt
  replace b2 := b2.below hb b2.lt
  replace b3 := b3.below hb b3.lt
  replace hbel := bnext hbel hb
  have q1_22 := Lib.hid (q1_16.out.next hb)
  clear q1_16
  have q2_23 := Lib.hid (q2_17.out.next hb)
  clear q2_17
  have q3_24 := Lib.hid (q3_18.out.next hb)
  clear q3_18
  have q4_25 := Lib.hid (q4_19.out.next hb)
  clear q4_19
  have q5_26 := Lib.hid (q5_20.out.next hb)
  clear q5_20
  have q6_27 := Lib.hid (q6_21.out.next hb)
  clear q6_21
  clear hb
  go_wp2_with fail
  refine (pbytes_any _ _ L_requestO L_requestO _ _ q1_22.out.1 q2_23.out.1).mono ?_
  rintro e w' ⟨rfl, rfl⟩
  rw [e_requestO]
  go_wp2_with fail
  refine (pbytes_any _ _ L_remittanceO L_remittanceO _ _ q3_24.out.1 q4_25.out.1).mono ?_
  rintro e w' ⟨rfl, rfl⟩
  rw [e_remittanceO]
  go_wp2_with fail
  refine (pbytes_any _ _ L_noticeO L_noticeO _ _ q5_26.out.1 q6_27.out.1).mono ?_
  rintro e w' ⟨rfl, rfl⟩
  rw [e_noticeO]
  go_wp2
  go_ret
  exact ⟨rfl, hbel⟩

set_option maxRecDepth 100000 in
theorem lmb_lifted (os : Os) (started : os.Started) (H : Type) (enc : TypeId × Value → H) :
    ReturnsInHanded {} Try.checked os 14 .any (Rows.documentMoneyBodiesSpec.pre6 enc Try.prog Try.f14 Rows.documentMoneyBodiesRow.domain false) (Rows.documentMoneyBodiesSpec.post enc Try.prog Try.f14 false true false false) := by
  refine returnsInHanded_of_change_sized (C := Try.checked) own_knob started (by kernel_rfl) Try.func14
    (ChangeSpec.witness6 (enc := enc) (C := Try.checked) false ⟨#[], #[.agg #[.int .i64 0, .int .i64 0, .int .i64 0], .agg #[.int .i64 0, .int .i64 0, .int .i64 0, .int .i64 0, .int .i64 0, .int .i64 0], .agg #[.int .i64 0, .int .i64 0, .int .i64 0, .int .i64 0]], []⟩ 8 (by kernel_rfl) (by kernel_rfl) (by kernel_rfl) (by kernel_rfl)) ?_
  intro W base args ds gs before hval0 hW hcnd hsz0 _
  have hval : ∀ (j : Nat) t v, Try.f14.params[j]? = some t → args[j]? = some v → Value.okWide Try.prog W .any base t v := hval0
  have hsz : (DataW.weightsEach Try.prog (Try.f14.params.toList ++ Rows.documentMoneyBodiesSpec.plain.varTypes Try.prog) (ds ++ gs)).all (· ≤ reachBytes) = true := hsz0
  have hW' := hW
  obtain ⟨p, q, hA0, hV, rfl, hfz, hnd⟩ := hW
  have hA : DataW.TrodAll enc Try.prog W 0 (fun _ => true) true Try.f14.params.toList args.toList ds p := hA0
  rw [Try.params14] at hA hval hsz
  obtain ⟨v0, vs0, d0, ds0, p0, q0, hargs, rfl, rfl, h0, tl0⟩ := trodAll_cons hA
  obtain ⟨v1, vs1, d1, ds1, p1, q1, rfl, rfl, rfl, h1, tl1⟩ := trodAll_cons tl0
  obtain ⟨v2, vs2, d2, ds2, p2, q2, rfl, rfl, rfl, h2, tl2⟩ := trodAll_cons tl1
  obtain ⟨rfl, rfl, rfl⟩ := trodAll_nil tl2
  obtain rfl : args = #[v0, v1, v2] := by cases args; simp_all
  obtain ⟨rfl, rfl⟩ := trodVars_none hV
  have k0 := h0
  have lt0 : ∀ x ∈ p0, x.block < W.heap.size := by obtain ⟨m, hm⟩ := k0; exact DataW.trod_lt m _ _ _ hm
  have k1 := h1
  have lt1 : ∀ x ∈ p1, x.block < W.heap.size := by obtain ⟨m, hm⟩ := k1; exact DataW.trod_lt m _ _ _ hm
  have k2 := h2
  have lt2 : ∀ x ∈ p2, x.block < W.heap.size := by obtain ⟨m, hm⟩ := k2; exact DataW.trod_lt m _ _ _ hm
  obtain ⟨x0, x1, x2, rfl, _⟩ := open_request (hval 0 _ v0 rfl rfl) h0
  obtain ⟨y0, y1, y2, y3, y4, y5, rfl, _⟩ := open_remittance (hval 1 _ v1 rfl rfl) h1
  obtain ⟨t0, t1, t2, t3, rfl, _⟩ := open_notice (hval 2 _ v2 rfl rfl) h2
  clear hA0 hval0
  refine (lmb_walk x0 x1 x2 y0 y1 y2 y3 y4 y5 t0 t1 t2 t3 W).mono fun e W' ⟨he, bel⟩ => ?_
  subst he
  exact ⟨_, rfl, _, _, _, [], _, [], hW', trodAll_mk1 (shut_bool Try.underlying4 _), (trodAll_cons_mk (Below.trod laid_out (by kernel_rfl) (of_decide_eq_true (by kernel_rfl)) k0 bel lt0) (trodAll_cons_mk (Below.trod laid_out (by kernel_rfl) (of_decide_eq_true (by kernel_rfl)) k1 bel lt1) (trodAll_cons_mk (Below.trod laid_out (by kernel_rfl) (of_decide_eq_true (by kernel_rfl)) k2 bel lt2) trodAll_mk0))), rfl, bel.frame _, fun h => by cases h⟩

theorem lmb_over : Rows.documentMoneyBodiesRow.holds Try.pinned (OpenSpec.ofChange Rows.documentMoneyBodiesSpec) :=
  OpenClaim.holds_of_wide 14 Try.f14 rfl rfl rfl rfl rfl rfl rfl ⟨rfl, rfl, rfl, rfl, rfl⟩ rfl rfl rfl rfl rfl (by kernel_rfl) Try.func14 (by kernel_rfl)
    (of_decide_eq_true (by kernel_rfl)) (by unfold Func.isWrapper; first | (rw [if_pos (by decide +kernel)]; kernel_rfl) | (rw [if_neg (by decide +kernel)]; exact ⟨rfl, rfl⟩))
    (fun os started H enc _ => lmb_lifted os started H enc)

/-- The statement. -/
theorem lmb_holds : Rows.DocumentMoneyBodiesSaid := lmb_over
#print axioms lmb_holds
end Go.Proofs.Ytkkjiihdmpngbaa
