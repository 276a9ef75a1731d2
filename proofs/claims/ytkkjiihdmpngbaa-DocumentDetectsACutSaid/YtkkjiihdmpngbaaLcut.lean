/-
  DocumentDetectsACut: a shortened or a lengthened encoding of a made document is rejected. No conditions.
-/
import Derived.Test.YtkkjiihdmpngbaaDi2
import Derived.Test.YtkkjiihdmpngbaaLfr
import Derived.SizedLaws
namespace Go.Proofs.Ytkkjiihdmpngbaa
open Go.ChangeShapes Go.WideShapes Go.ChangeAt Go.RowKit
set_option linter.unusedVariables false

set_option maxRecDepth 100000 in
set_option maxHeartbeats 4000000 in
theorem lcut_walk (z0 z1 z2 z3 z4 z5 : Int) (z6 : Bool) (z7 z8 z9 z10 z11 z12 z13 z14 z15 z16 z17 z18 z19 z20 : Int) (at_ : Int) (a : Option Addr) (c : Nat) (m : List UInt8) (w : World) (r12 : -9223372036854775808 ≤ z12 ∧ z12 ≤ 9223372036854775807) (r18 : -9223372036854775808 ≤ z18 ∧ z18 ≤ 9223372036854775807) (r19 : -9223372036854775808 ≤ z19 ∧ z19 ≤ 9223372036854775807) (r20 : -9223372036854775808 ≤ z20 ∧ z20 ≤ 9223372036854775807) (hz : a = none → c = 0) (hsl : Sl w.heap.size w (.slice a m.length c) m) (hml : m.length ≤ 140737488351232) :
    Calls Try.prog 11 #[.agg #[.int .i64 z0, .int .i64 z1, .int .i64 z2, .int .i64 z3, .int .i64 z4, .int .i64 z5, .bool z6, .int .i64 z7, .int .i64 z8, .int .i64 z9, .int .i64 z10, .int .i64 z11, .int .i64 z12, .int .i64 z13, .int .i64 z14, .int .i64 z15, .int .i64 z16, .int .i64 z17, .int .i64 z18, .int .i64 z19, .int .i64 z20], .int .i64 at_, .slice a m.length c] w fun e w' => e = .returned (.bool true) ∧ Below w.heap.size w w' := by
  have HSL := Lib.hid hsl
  clear hsl
  have hbox := BlkIs.new w 32 #[.int .i64 z0, .int .i64 z1, .int .i64 z2, .int .i64 z3, .int .i64 z4, .int .i64 z5, .bool z6, .int .i64 z7, .int .i64 z8, .int .i64 z9, .int .i64 z10, .int .i64 z11, .int .i64 z12, .int .i64 z13, .int .i64 z14, .int .i64 z15, .int .i64 z16, .int .i64 z17, .int .i64 z18, .int .i64 z19, .int .i64 z20]
  have hbel : Below w.heap.size w (w.alloc (.cells #[.int .i64 z0, .int .i64 z1, .int .i64 z2, .int .i64 z3, .int .i64 z4, .int .i64 z5, .bool z6, .int .i64 z7, .int .i64 z8, .int .i64 z9, .int .i64 z10, .int .i64 z11, .int .i64 z12, .int .i64 z13, .int .i64 z14, .int .i64 z15, .int .i64 z16, .int .i64 z17, .int .i64 z18, .int .i64 z19, .int .i64 z20] 32)) := (Below.refl _ _).alloc (Nat.le_refl _) _
  go_enter Try.func11, Try.ntmps11
  go_wp2_with (refine wpList_load_row (by rfl) 32 (.tmp 3) (by rfl) w.heap.size (by rfl) _ _ _ _ hbox Try.underlying32 rfl info_raw ?_)
  refine (dmake_any z0 z1 z2 z3 z4 z5 z6 z7 z8 z9 z10 z11 z12 z13 z14 z15 z16 z17 z18 z19 z20 _ r12 r18 r19 r20).mono ?_
  rintro e w_m ⟨s, n, k, p, v, l, rfl, hdoc, hp0, hp1, hv, hb⟩
  clear hbox
  replace hbel := bnext hbel hb
  clear hb
  obtain ⟨va, vn, vc, hvv⟩ := hv.shape
  subst hvv
  simp only [docV]
  have hlen := bodyB_len (docB_parts hdoc).2.2.2
  have HD := Lib.hid hdoc
  have HE := Lib.hid (enc_ok hdoc)
  have HR := Lib.hid (dec_ok hdoc hp0 hp1)
  have HXL := Lib.hid (encA_len s n k p l)
  clear hdoc
  have q_1 := Lib.hid hv
  clear hv
  have HCUT : Hid (∀ x : List UInt8, x.take 11 = (encA s n k p l).take 11 → x.length ≠ (encA s n k p l).length → dOk x = false) := fun x h1 h2 => doc_cut HD.out h1 h2
  have HOK : Hid (dOk (encA s n k p l) = true) := (doc_back HD.out hp0 hp1).1
  go_wp2_with fail
  refine (encode_any s n k p _ l _ q_1.out.1 q_1.out.2 (by omega) hp0 hp1).mono ?_
  rintro e w_p1 ⟨v_p1, rfl, ho_p1, hb⟩
  rw [HE.out.1]
  rw [HE.out.2] at ho_p1
  obtain ⟨gx, cx, hgx, hgb, hgc, hgl⟩ := own_some ho_p1 (by rw [HXL.out]; omega)
  subst hgx
  replace hbel := bnext hbel hb
  have q_2 := Lib.hid (q_1.out.next hb)
  clear q_1
  clear hb
  generalize encA s n k p l = X at *
  clear HR
  have hxl := HXL.out
  have x_3 := Lib.hid (Part1.of ho_p1)
  clear ho_p1
  obtain ⟨xn, hxn⟩ : ∃ xn, xn = X.length := ⟨_, rfl⟩
  rw [← hxn] at hxl hgc ⊢
  rw [← hxn] at x_3
  have HXN := Lib.hid hxn
  have hxlo : 22 ≤ xn := by omega
  have hxhi : xn ≤ 58 := by omega
  clear hxn hxl HXL hgb
  have hx0 : ((xn : Int) == 0) = false := beq_eq_false_iff_ne.2 (by omega)
  have hx1 : (0 : Int) < (xn : Int) := by omega
  go_wp2_with fail
  refine (awake_any _).mono ?_
  rintro e w_a ⟨rfl, hb⟩
  replace hbel := bnext hbel hb
  have q_4 := Lib.hid (q_2.out.next hb)
  clear q_2
  have x_5 := Lib.hid (x_3.out.next hb)
  clear x_3
  clear hb
  go_wp2_with fail
  refine (mod2_any at_ (xn : Int) _ (by omega) (by omega)).mono ?_
  rintro e w' ⟨rfl, rfl⟩
  obtain ⟨p1, p2⟩ := emod_bd at_ (xn : Int) (by omega)
  obtain ⟨j, hj⟩ := Int.eq_ofNat_of_zero_le p1
  rw [hj] at p1 p2 ⊢
  clear hj
  have hjl : j < xn := by omega
  have sJ : Hid (Sl w_a.heap.size w_a (.slice (some ⟨gx, 0, none⟩) j cx) (X.take j)) := by
    have h := x_5.out.1
    rw [HXN.out] at h hjl
    exact h.take (by omega)
  have hjc : (j : Int) ≤ (cx : Int) := by omega
  go_wp2_with fail
  refine (decode_any _ (X.take j) _ sJ.out (by simp; omega)).mono ?_
  rintro e w_d ⟨y, rfl, hy, hb⟩
  have hbad : dOk (X.take j) = false := by
    by_cases hj11 : 11 ≤ j
    · refine HCUT.out _ (by rw [List.take_take, Nat.min_eq_left hj11]) ?_
      have := HXN.out
      simp
      omega
    · exact dOk_short (by have := HXN.out; simp; omega)
  have HB0 : Hid (rE (X.take j) = 11) := by simp [Hid, rE, hbad]
  clear hbad
  rw [HB0.out]
  obtain ⟨ya, yn, yc, hyy⟩ := hy.shape
  subst hyy
  simp only [docV]
  replace hbel := bnext hbel hb
  have q_6 := Lib.hid (q_4.out.next hb)
  clear q_4
  have x_7 := Lib.hid (x_5.out.next hb)
  clear x_5
  clear hb
  generalize rS (X.take j) = s1 at *
  generalize rN (X.take j) = n1 at *
  generalize rK (X.take j) = k1 at *
  generalize rP (X.take j) = p1_ at *
  clear hy
  have hA : Below w_d.heap.size w_d (w_d.alloc (.cells #[.int .i64 s1, .int .i64 n1, .int .i64 k1, .int .u32 p1_, .slice ya yn yc] 34)) := (Below.refl _ _).alloc (Nat.le_refl _) _
  replace hbel := bnext hbel hA
  have q_8 := Lib.hid (q_6.out.next hA)
  clear q_6
  have x_9 := Lib.hid (x_7.out.next hA)
  clear x_7
  clear hA
  have HS1 := Lib.hid ((HSL.out.below hbel).mono hbel.size)
  have hnil : ∀ c', (Value.slice a m.length c) = .slice none 0 c' → c' = 0 := by
    intro c' h
    injection h with h1 _ h3
    rw [← h3]
    exact hz h1
  have HNIL := Lib.hid hnil
  clear hnil
  go_wp2_with (first | (at_builtin; refine wpList_appBig (by rfl) _ _ (by rfl) (w_d.alloc (.cells #[.int .i64 s1, .int .i64 n1, .int .i64 k1, .int .u32 p1_, .slice ya yn yc] 34)).heap.size _ (.slice none 0 0) _ [] X _ (by rfl) (own_nil _ _) (by rfl) x_9.out.1 (fun c h => by cases h) (by have := HXN.out; simp; omega) (Nat.le_refl _) ?_; intro v4 w4 hown4 hb4 hg4; rw [List.nil_append] at hown4; clear hg4) | (at_builtin; refine wpList_appBig (by rfl) _ _ (by rfl) (w_d.alloc (.cells #[.int .i64 s1, .int .i64 n1, .int .i64 k1, .int .u32 p1_, .slice ya yn yc] 34)).heap.size _ v4 _ X m w4 (by rfl) hown4 (by rfl) (HS1.out.below hb4) HNIL.out (by have := HXN.out; omega) hb4.size ?_; intro v5 w5 hown5 hb5 hg5; replace hb5 := hb4.trans hb5; clear hg5 hb4 hown4))
  replace hbel := bnext hbel hb5
  clear hb5
  refine (decode_any v5 (X ++ m) w5 (Sl.of_own hown5) (by have := HXN.out; simp; omega)).mono ?_
  rintro e w_f ⟨z, rfl, hz2, hb⟩
  obtain ⟨za, zn, zc, hzz⟩ := hz2.shape
  subst hzz
  simp only [docV]
  obtain ⟨a5, c5, hv5⟩ := own_len hown5
  subst hv5
  replace hbel := bnext hbel hb
  clear hb hown5 hz2
  have HRE : Hid (rE (X ++ m) = if m = [] then 0 else 11) := by
    unfold Hid
    by_cases hm : m = []
    · rw [if_pos hm, hm, List.append_nil]
      simp [rE, HOK.out]
    · rw [if_neg hm]
      have hlt : 0 < m.length := List.length_pos_iff.2 hm
      have hb2 : dOk (X ++ m) = false := HCUT.out _ (by rw [List.take_append_of_le_length (by have := HXN.out; omega)]) (by simp; omega)
      simp [rE, hb2]
  generalize rS (X ++ m) = s2 at *
  generalize rN (X ++ m) = n2 at *
  generalize rK (X ++ m) = k2 at *
  generalize rP (X ++ m) = p2_ at *
  rw [HRE.out]
  by_cases hm : m = []
  · rw [if_pos hm]
    have hml0 : m.length = 0 := by rw [hm]; rfl
    rw [hml0]
    clear hm hml0 HRE
    go_wp2
    go_ret
    exact ⟨rfl, hbel.alloc hbel.size _⟩
  · rw [if_neg hm]
    have hlt : 0 < m.length := List.length_pos_iff.2 hm
    have hm0 : ((m.length : Int) == 0) = false := beq_eq_false_iff_ne.2 (by omega)
    have hm1 : (m.length == 0) = false := beq_eq_false_iff_ne.2 (by omega)
    have hm2 : ¬ m.length = 0 := by omega
    clear hm HRE
    generalize m.length = ml at *
    go_wp2
    go_ret
    exact ⟨rfl, hbel.alloc hbel.size _⟩

set_option maxRecDepth 100000 in
theorem lcut_lifted (os : Os) (started : os.Started) (H : Type) (enc : TypeId × Value → H) :
    ReturnsInHanded {} Try.checked os 11 .any (Rows.documentDetectsACutSpec.pre6 enc Try.prog Try.f11 Rows.documentDetectsACutRow.domain false) (Rows.documentDetectsACutSpec.post enc Try.prog Try.f11 false true false false) := by
  refine returnsInHanded_of_change_sized (C := Try.checked) own_knob started (by kernel_rfl) Try.func11
    (ChangeSpec.witness6 (enc := enc) (C := Try.checked) false ⟨#[], #[.agg #[.int .i64 0, .int .i64 0, .int .i64 0, .int .i64 0, .int .i64 0, .int .i64 0, .bool false, .int .i64 0, .int .i64 0, .int .i64 0, .int .i64 0, .int .i64 0, .int .i64 0, .int .i64 0, .int .i64 0, .int .i64 0, .int .i64 0, .int .i64 0, .int .i64 0, .int .i64 0, .int .i64 0], .int .i64 0, .slice none 0 0], []⟩ 8 (by kernel_rfl) (by kernel_rfl) (by kernel_rfl) (by kernel_rfl)) ?_
  intro W base args ds gs before hval0 hW hcnd hsz0 _
  have hval : ∀ (j : Nat) t v, Try.f11.params[j]? = some t → args[j]? = some v → Value.okWide Try.prog W .any base t v := hval0
  have hsz : (DataW.weightsEach Try.prog (Try.f11.params.toList ++ Rows.documentDetectsACutSpec.plain.varTypes Try.prog) (ds ++ gs)).all (· ≤ reachBytes) = true := hsz0
  have hW' := hW
  obtain ⟨p, q, hA0, hV, rfl, hfz, hnd⟩ := hW
  have hA : DataW.TrodAll enc Try.prog W 0 (fun _ => true) true Try.f11.params.toList args.toList ds p := hA0
  rw [Try.params11] at hA hval hsz
  obtain ⟨v0, vs0, d0, ds0, p0, q0, hargs, rfl, rfl, h0, tl0⟩ := trodAll_cons hA
  obtain ⟨v1, vs1, d1, ds1, p1, q1, rfl, rfl, rfl, h1, tl1⟩ := trodAll_cons tl0
  obtain ⟨v2, vs2, d2, ds2, p2, q2, rfl, rfl, rfl, h2, tl2⟩ := trodAll_cons tl1
  obtain ⟨rfl, rfl, rfl⟩ := trodAll_nil tl2
  obtain rfl : args = #[v0, v1, v2] := by cases args; simp_all
  obtain ⟨rfl, rfl⟩ := trodVars_none hV
  have k0 := h0
  have lt0 : ∀ x ∈ p0, x.block < W.heap.size := by obtain ⟨m, hm⟩ := k0; exact DataW.trod_lt m _ _ _ hm
  have k1 := h1
  have lt1 : ∀ x ∈ p1, x.block < W.heap.size := by obtain ⟨m, hm⟩ := k1; exact DataW.trod_lt m _ _ _ hm
  have k2 := h2
  have lt2 : ∀ x ∈ p2, x.block < W.heap.size := by obtain ⟨m, hm⟩ := k2; exact DataW.trod_lt m _ _ _ hm
  obtain ⟨z0, z1, z2, z3, z4, z5, z6, z7, z8, z9, z10, z11, z12, z13, z14, z15, z16, z17, z18, z19, z20, rfl, u0, u1, u2, u3, u4, u5, u7, u8, u9, u10, u11, u12, u13, u14, u15, u16, u17, u18, u19, u20⟩ := open_raw (hval 0 _ v0 rfl rfl) h0
  obtain ⟨b, rfl, rfl, rfl, w1⟩ := open_int Try.underlying3 (hval 1 3 v1 rfl rfl) h1
  obtain ⟨a, c, m, rfl, hz, hsl, hw⟩ := open_bytes2 (hval 2 _ v2 rfl rfl) h2
  have hml := hw (each_all hsz (j := 2) rfl rfl)
  clear hA0 hval0
  refine (lcut_walk z0 z1 z2 z3 z4 z5 z6 z7 z8 z9 z10 z11 z12 z13 z14 z15 z16 z17 z18 z19 z20 b a c m W u12 u18 u19 u20 hz hsl hml).mono fun e W' ⟨he, bel⟩ => ?_
  subst he
  exact ⟨_, rfl, _, _, _, [], _, [], hW', trodAll_mk1 (shut_bool Try.underlying4 _), (trodAll_cons_mk (Below.trod laid_out (by kernel_rfl) (of_decide_eq_true (by kernel_rfl)) k0 bel lt0) (trodAll_cons_mk (Below.trod laid_out (by kernel_rfl) (of_decide_eq_true (by kernel_rfl)) k1 bel lt1) (trodAll_cons_mk (Below.trod laid_out (by kernel_rfl) (of_decide_eq_true (by kernel_rfl)) k2 bel lt2) trodAll_mk0))), rfl, bel.frame _, fun h => by cases h⟩

theorem lcut_over : Rows.documentDetectsACutRow.holds Try.pinned (OpenSpec.ofChange Rows.documentDetectsACutSpec) :=
  OpenClaim.holds_of_wide 11 Try.f11 rfl rfl rfl rfl rfl rfl rfl ⟨rfl, rfl, rfl, rfl, rfl⟩ rfl rfl rfl rfl rfl (by kernel_rfl) Try.func11 (by kernel_rfl)
    (of_decide_eq_true (by kernel_rfl)) (by unfold Func.isWrapper; first | (rw [if_pos (by decide +kernel)]; kernel_rfl) | (rw [if_neg (by decide +kernel)]; exact ⟨rfl, rfl⟩))
    (fun os started H enc _ => lcut_lifted os started H enc)

/-- The statement. -/
theorem lcut_holds : Rows.DocumentDetectsACutSaid := lcut_over
#print axioms lcut_holds
end Go.Proofs.Ytkkjiihdmpngbaa
