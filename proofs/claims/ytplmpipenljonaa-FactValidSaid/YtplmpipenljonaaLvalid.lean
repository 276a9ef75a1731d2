/-
  FactValid: for every fact, and for every made and every spoilt fact, fact.Valid and the reference's Valid agree, and a made fact is valid. No conditions.
-/
import Derived.Test.YtplmpipenljonaaFd2
import Derived.Test.YtplmpipenljonaaFrm
import Derived.Test.YtplmpipenljonaaMix
namespace Go.Proofs.Ytplmpipenljonaa
open Go.ChangeShapes Go.WideShapes Go.ChangeAt Go.RowKit
set_option linter.unusedVariables false

theorem valid_f (f : Fct) (w : World) : Calls Try.prog 15 #[.agg (fcells f)] w fun e w' => e = .returned (.bool (validB f)) ∧ Below w.heap.size w w' := by
  obtain ⟨a0, a1, a2, a3, a4, a5, a6, a7, a8, a9, a10, a11, a12, a13⟩ := f
  exact valid_any a0 a1 a2 a3 a4 a5 a6 a7 a8 a9 a10 a11 a12 a13 w


set_option maxRecDepth 100000 in
set_option maxHeartbeats 4000000 in
theorem lvalid_walk (r0 r1 r2 : Int) (r3 : Bool) (r4 r5 r6 r7 r8 r9 r10 r11 r12 kind n : Int) (a0 a1 a2 : Int) (a3 : Bool) (a4 a5 a6 a7 a8 a9 a10 a11 a12 a13 : Int) (w : World) (z1 : -9223372036854775808 ≤ r9) (z2 : r9 ≤ 9223372036854775807) :
    Calls Try.prog 4 #[.agg #[.int .i64 r0, .int .i64 r1, .int .i64 r2, .bool r3, .int .i64 r4, .int .i64 r5, .int .i64 r6, .int .i64 r7, .int .i64 r8, .int .i64 r9, .int .i64 r10, .int .i64 r11, .int .i64 r12], .int .i64 kind, .int .i64 n, .agg #[.int .i64 a0, .int .i64 a1, .int .i64 a2, .bool a3, .int .i64 a4, .int .i64 a5, .int .i64 a6, .int .i64 a7, .int .i64 a8, .int .i64 a9, .int .i64 a10, .int .i64 a11, .int .i64 a12, .int .i64 a13]] w fun e w' => e = .returned (.bool true) ∧ Below w.heap.size w w' := by
  go_enter Try.func4, Try.ntmps4
  go_wp2_with (go_at_call 14; refine (spoilt_any r0 r1 r2 r3 r4 r5 r6 r7 r8 r9 r10 r11 r12 kind n _ z1 z2).mono ?_; rintro e w1 ⟨⟨g0, g1, g2, g3, g4, g5, g6, g7, g8, g9, g10, g11, g12, g13⟩, rfl, hb1⟩; simp only [fcells])
  obtain ⟨W, hW⟩ : ∃ W, W = w1.alloc (.cells #[.int .i64 g0, .int .i64 g1, .int .i64 g2, .bool g3, .int .i64 g4, .int .i64 g5, .int .i64 g6, .int .i64 g7, .int .i64 g8, .int .i64 g9, .int .i64 g10, .int .i64 g11, .int .i64 g12, .int .i64 g13] 31) := ⟨_, rfl⟩
  have hr : BlkIs W w.heap.size 27 #[.int .i64 r0, .int .i64 r1, .int .i64 r2, .bool r3, .int .i64 r4, .int .i64 r5, .int .i64 r6, .int .i64 r7, .int .i64 r8, .int .i64 r9, .int .i64 r10, .int .i64 r11, .int .i64 r12] := by rw [hW]; exact (((BlkIs.new w _ _).alloc _).below hb1 (by simp; omega)).alloc _
  have hf : BlkIs W (w.heap.size + 1) 31 #[.int .i64 a0, .int .i64 a1, .int .i64 a2, .bool a3, .int .i64 a4, .int .i64 a5, .int .i64 a6, .int .i64 a7, .int .i64 a8, .int .i64 a9, .int .i64 a10, .int .i64 a11, .int .i64 a12, .int .i64 a13] := by rw [hW]; exact ((BlkIs.newAt _ _ _ _ (by simp)).below hb1 (by simp)).alloc _
  have hg : BlkIs W w1.heap.size 31 #[.int .i64 g0, .int .i64 g1, .int .i64 g2, .bool g3, .int .i64 g4, .int .i64 g5, .int .i64 g6, .int .i64 g7, .int .i64 g8, .int .i64 g9, .int .i64 g10, .int .i64 g11, .int .i64 g12, .int .i64 g13] := by rw [hW]; exact BlkIs.new _ _ _
  have hbel : Below w.heap.size w W := by
    rw [hW]
    have := hb1.size
    simp at this
    exact ((((Below.refl _ _).alloc (Nat.le_refl _) _).alloc (by simp) _).trans (hb1.mono (by simp; omega))).alloc (by omega) _
  rw [← hW]
  clear hW hb1
  refine wp_region_ml [0, 3, 5, 10, 12, 17, 18] [0, 1, 2, 4, 3, 5, 6, 7, 8, 9, 11, 10, 12, 13, 14, 15, 16, 17, 18, 19, 20] W.drew.heap.size (by kernel_rfl) (by kernel_rfl) rfl (by decide) (by kernel_rfl) (fun _ _ _ _ _ h => h) ?_
  simp only [marked, List.getElem?_cons_zero, List.getElem?_cons_succ, List.contains_cons, List.contains_nil, Nat.reduceBEq, Bool.or_false, Bool.or_true, BEq.rfl]
  replace hr := hr.drew
  replace hf := hf.drew
  replace hg := hg.drew
  replace hbel := hbel.drew
  generalize W.drew = W at *
  have hcr := hr.cell
  have hcf := hf.cell
  have hcg := hg.cell
  have lr := hr.lt
  have lf := hf.lt
  have lg := hg.lt
  repeat (refine ml_quiet ?_; go_big_quiet_step (fail); refine wpQuiet_nil ?_)
  refine ml_loud rfl ?_
  intro K hK
  go_simp
  go_at_call 11
  refine (awake_any _).mono ?_
  rintro e w2 ⟨rfl, hb2⟩
  refine hK _ _ w2.heap.size hb2.size hb2 ?_
  clear hK K
  replace hr := hr.below hb2 hr.lt
  replace hf := hf.below hb2 hf.lt
  replace hg := hg.below hb2 hg.lt
  replace hbel := Below.next hbel hb2
  clear hb2 hcr hcf hcg lr lf lg
  have hcr := hr.cell
  have hcf := hf.cell
  have hcg := hg.cell
  have lr := hr.lt
  have lf := hf.lt
  have lg := hg.lt
  repeat (refine ml_quiet ?_; go_big_quiet_step (fail); refine wpQuiet_nil ?_)
  refine ml_loud rfl ?_
  intro K hK
  go_simp
  go_at_call 15
  refine (valid_any a0 a1 a2 a3 a4 a5 a6 a7 a8 a9 a10 a11 a12 a13 _).mono ?_
  rintro e w3 ⟨rfl, hb3⟩
  refine hK _ _ w3.heap.size hb3.size hb3 ?_
  clear hK K
  replace hr := hr.below hb3 hr.lt
  replace hf := hf.below hb3 hf.lt
  replace hg := hg.below hb3 hg.lt
  replace hbel := Below.next hbel hb3
  clear hb3 hcr hcf hcg lr lf lg
  have hcr := hr.cell
  have hcf := hf.cell
  have hcg := hg.cell
  have lr := hr.lt
  have lf := hf.lt
  have lg := hg.lt
  repeat (refine ml_quiet ?_; go_big_quiet_step (fail); refine wpQuiet_nil ?_)
  refine ml_loud rfl ?_
  intro K hK
  go_simp
  go_at_call 16
  refine (rvalid_any a0 a1 a2 a3 a4 a5 a6 a7 a8 a9 a10 a11 a12 a13 _).mono ?_
  rintro e w4 ⟨rfl, hb4⟩
  refine hK _ _ w4.heap.size hb4.size hb4 ?_
  clear hK K
  replace hr := hr.below hb4 hr.lt
  replace hf := hf.below hb4 hf.lt
  replace hg := hg.below hb4 hg.lt
  replace hbel := Below.next hbel hb4
  clear hb4 hcr hcf hcg lr lf lg
  have hcr := hr.cell
  have hcf := hf.cell
  have hcg := hg.cell
  have lr := hr.lt
  have lf := hf.lt
  have lg := hg.lt
  repeat (refine ml_quiet ?_; go_big_quiet_step (fail); refine wpQuiet_nil ?_)
  refine ml_loud rfl ?_
  intro K hK
  go_simp
  go_at_call 15
  refine (valid_any g0 g1 g2 g3 g4 g5 g6 g7 g8 g9 g10 g11 g12 g13 _).mono ?_
  rintro e w5 ⟨rfl, hb5⟩
  refine hK _ _ w5.heap.size hb5.size hb5 ?_
  clear hK K
  replace hr := hr.below hb5 hr.lt
  replace hf := hf.below hb5 hf.lt
  replace hg := hg.below hb5 hg.lt
  replace hbel := Below.next hbel hb5
  clear hb5 hcr hcf hcg lr lf lg
  have hcr := hr.cell
  have hcf := hf.cell
  have hcg := hg.cell
  have lr := hr.lt
  have lf := hf.lt
  have lg := hg.lt
  repeat (refine ml_quiet ?_; go_big_quiet_step (fail); refine wpQuiet_nil ?_)
  refine ml_loud rfl ?_
  intro K hK
  go_simp
  go_at_call 16
  refine (rvalid_any g0 g1 g2 g3 g4 g5 g6 g7 g8 g9 g10 g11 g12 g13 _).mono ?_
  rintro e w6 ⟨rfl, hb6⟩
  refine hK _ _ w6.heap.size hb6.size hb6 ?_
  clear hK K
  replace hr := hr.below hb6 hr.lt
  replace hf := hf.below hb6 hf.lt
  replace hg := hg.below hb6 hg.lt
  replace hbel := Below.next hbel hb6
  clear hb6 hcr hcf hcg lr lf lg
  have hcr := hr.cell
  have hcf := hf.cell
  have hcg := hg.cell
  have lr := hr.lt
  have lf := hf.lt
  have lg := hg.lt
  repeat (refine ml_quiet ?_; go_big_quiet_step (fail); refine wpQuiet_nil ?_)
  refine ml_loud rfl ?_
  intro K hK
  go_simp
  go_at_call 17
  refine (make_any r0 r1 r2 r3 r4 r5 r6 r7 r8 r9 r10 r11 r12 _ z1 z2).mono ?_
  rintro e w7 ⟨f, rfl, hv, hb7⟩
  refine hK _ _ w7.heap.size hb7.size hb7 ?_
  clear hK K
  replace hr := hr.below hb7 hr.lt
  replace hf := hf.below hb7 hf.lt
  replace hg := hg.below hb7 hg.lt
  replace hbel := Below.next hbel hb7
  clear hb7 hcr hcf hcg lr lf lg
  have hcr := hr.cell
  have hcf := hf.cell
  have hcg := hg.cell
  have lr := hr.lt
  have lf := hf.lt
  have lg := hg.lt
  repeat (refine ml_quiet ?_; go_big_quiet_step (fail); refine wpQuiet_nil ?_)
  refine ml_loud rfl ?_
  intro K hK
  go_simp
  go_at_call 15
  refine (valid_f f _).mono ?_
  rintro e w8 ⟨rfl, hb8⟩
  rw [hv]
  refine hK _ _ w8.heap.size hb8.size hb8 ?_
  clear hK K
  replace hr := hr.below hb8 hr.lt
  replace hf := hf.below hb8 hf.lt
  replace hg := hg.below hb8 hg.lt
  replace hbel := Below.next hbel hb8
  clear hb8 hcr hcf hcg lr lf lg
  have hcr := hr.cell
  have hcf := hf.cell
  have hcg := hg.cell
  have lr := hr.lt
  have lf := hf.lt
  have lg := hg.lt
  repeat (refine ml_quiet ?_; go_big_quiet_step (fail); refine wpQuiet_nil ?_)
  refine ml_nil ?_
  go_wp2
  go_ret
  exact ⟨rfl, hbel⟩

set_option maxRecDepth 100000 in
theorem lvalid_lifted (os : Os) (started : os.Started) (H : Type) (enc : TypeId × Value → H) :
    ReturnsInHanded {} Try.checked os 4 .any (Rows.factValidSpec.pre6 enc Try.prog Try.f4 Rows.factValidRow.domain false) (Rows.factValidSpec.post enc Try.prog Try.f4 false true false false) := by
  refine returnsInHanded_of_change (C := Try.checked) own_knob started (by kernel_rfl) Try.func4
    (ChangeSpec.witness6 (enc := enc) (C := Try.checked) false ⟨#[], #[.agg #[.int .i64 0, .int .i64 0, .int .i64 0, .bool false, .int .i64 0, .int .i64 0, .int .i64 0, .int .i64 0, .int .i64 0, .int .i64 0, .int .i64 0, .int .i64 0, .int .i64 0], .int .i64 0, .int .i64 0, .agg #[.int .i64 0, .int .i64 0, .int .i64 0, .bool false, .int .i64 0, .int .i64 0, .int .i64 0, .int .i64 0, .int .i64 0, .int .i64 0, .int .i64 0, .int .i64 0, .int .i64 0, .int .i64 0]], []⟩ 8 (by kernel_rfl) (by kernel_rfl) (by kernel_rfl) (by kernel_rfl)) ?_
  intro W base args ds gs before hval0 hW hcnd _
  have hval : ∀ (j : Nat) t v, Try.f4.params[j]? = some t → args[j]? = some v → Value.okWide Try.prog W .any base t v := hval0
  have hW' := hW
  obtain ⟨p, q, hA0, hV, rfl, hfz, hnd⟩ := hW
  have hA : DataW.TrodAll enc Try.prog W 0 (fun _ => true) true Try.f4.params.toList args.toList ds p := hA0
  rw [Try.params4] at hA hval
  obtain ⟨v0, vs0, d0, ds0, p0, q0, hargs, rfl, rfl, h0, tl0⟩ := trodAll_cons hA
  obtain ⟨v1, vs1, d1, ds1, p1, q1, rfl, rfl, rfl, h1, tl1⟩ := trodAll_cons tl0
  obtain ⟨v2, vs2, d2, ds2, p2, q2, rfl, rfl, rfl, h2, tl2⟩ := trodAll_cons tl1
  obtain ⟨v3, vs3, d3, ds3, p3, q3, rfl, rfl, rfl, h3, tl3⟩ := trodAll_cons tl2
  obtain ⟨rfl, rfl, rfl⟩ := trodAll_nil tl3
  obtain rfl : args = #[v0, v1, v2, v3] := by cases args; simp_all
  obtain ⟨rfl, rfl⟩ := trodVars_none hV
  have k0 := h0
  have lt0 : ∀ x ∈ p0, x.block < W.heap.size := by obtain ⟨m, hm⟩ := k0; exact DataW.trod_lt m _ _ _ hm
  have k1 := h1
  have lt1 : ∀ x ∈ p1, x.block < W.heap.size := by obtain ⟨m, hm⟩ := k1; exact DataW.trod_lt m _ _ _ hm
  have k2 := h2
  have lt2 : ∀ x ∈ p2, x.block < W.heap.size := by obtain ⟨m, hm⟩ := k2; exact DataW.trod_lt m _ _ _ hm
  have k3 := h3
  have lt3 : ∀ x ∈ p3, x.block < W.heap.size := by obtain ⟨m, hm⟩ := k3; exact DataW.trod_lt m _ _ _ hm
  obtain ⟨r0, r1, r2, r3, r4, r5, r6, r7, r8, r9, r10, r11, r12, rfl, _, _, _, _, _, _, _, _, z9, _⟩ := open_hand (hval 0 _ v0 rfl rfl) h0
  obtain ⟨a, rfl, rfl, rfl, w1⟩ := open_int Try.underlying3 (hval 1 3 v1 rfl rfl) h1
  obtain ⟨b, rfl, rfl, rfl, w2⟩ := open_int Try.underlying3 (hval 2 3 v2 rfl rfl) h2
  obtain ⟨a0, a1, a2, a3, a4, a5, a6, a7, a8, a9, a10, a11, a12, a13, rfl, _⟩ := open_fact (hval 3 _ v3 rfl rfl) h3
  clear hA0 hval0
  refine (lvalid_walk r0 r1 r2 r3 r4 r5 r6 r7 r8 r9 r10 r11 r12 a b a0 a1 a2 a3 a4 a5 a6 a7 a8 a9 a10 a11 a12 a13 W z9.1 z9.2).mono fun e W' ⟨he, bel⟩ => ?_
  subst he
  exact ⟨_, rfl, _, _, _, [], _, [], hW', trodAll_mk1 (shut_bool Try.underlying4 _), (trodAll_cons_mk (Below.trod laid_out (by kernel_rfl) (of_decide_eq_true (by kernel_rfl)) k0 bel lt0) (trodAll_cons_mk (Below.trod laid_out (by kernel_rfl) (of_decide_eq_true (by kernel_rfl)) k1 bel lt1) (trodAll_cons_mk (Below.trod laid_out (by kernel_rfl) (of_decide_eq_true (by kernel_rfl)) k2 bel lt2) (trodAll_cons_mk (Below.trod laid_out (by kernel_rfl) (of_decide_eq_true (by kernel_rfl)) k3 bel lt3) trodAll_mk0)))), rfl, bel.frame _, fun h => by cases h⟩

theorem lvalid_over : Rows.factValidRow.holds Try.pinned (OpenSpec.ofChange Rows.factValidSpec) :=
  OpenClaim.holds_of_wide 4 Try.f4 rfl rfl rfl rfl rfl rfl rfl ⟨rfl, rfl, rfl, rfl, rfl⟩ rfl rfl rfl rfl rfl (by kernel_rfl) Try.func4 (by kernel_rfl)
    (of_decide_eq_true (by kernel_rfl)) (by unfold Func.isWrapper; first | (rw [if_pos (by decide +kernel)]; kernel_rfl) | (rw [if_neg (by decide +kernel)]; exact ⟨rfl, rfl⟩))
    (fun os started H enc _ => lvalid_lifted os started H enc)

/-- The statement. -/
theorem lvalid_holds : Rows.FactValidSaid := lvalid_over
#print axioms lvalid_holds
end Go.Proofs.Ytplmpipenljonaa
