/-
  DocumentDetectsAByte: replacing one byte of the encoding of a made document by another value is detected. No conditions.
-/
import Derived.Test.YtkkjiihdmpngbaaDi2
import Derived.Test.YtkkjiihdmpngbaaLfr
import Derived.SizedLaws
namespace Go.Proofs.Ytkkjiihdmpngbaa
open Go.ChangeShapes Go.WideShapes Go.ChangeAt Go.RowKit
set_option linter.unusedVariables false

theorem Sl.set {B : Nat} {w : World} {g c j : Nat} {X : List UInt8} (h : Sl B w (.slice (some ⟨g, 0, none⟩) X.length c) X) (hj : j < X.length) (u : UInt8) : Sl B (w.setCell ⟨g, j, none⟩ (.int .u8 (u.toNat : Int))) (.slice (some ⟨g, 0, none⟩) X.length c) (X.set j u) := by
  obtain ⟨a, c', he, hc, h⟩ := h
  injection he with h1 h2 h3
  subst h1 h3
  refine ⟨_, _, by rw [List.length_set], by rw [List.length_set]; omega, fun hl => ?_⟩
  rw [List.length_set] at hl
  obtain ⟨b', o', ha, hb, hcell⟩ := h hl
  injection ha with ha
  injection ha with h1 h2 _
  subst h1 h2
  refine ⟨g, 0, rfl, hb, fun i v hv => ?_⟩
  by_cases hij : j = i
  · subst hij
    rw [List.getElem?_set_self hj] at hv
    injection hv with hv
    subst hv
    have h4 := hcell j X[j] (List.getElem?_eq_getElem hj)
    rw [Nat.zero_add] at h4 ⊢
    exact World.cell?_setCell_same w _ _ h4
  · rw [List.getElem?_set_ne hij] at hv
    rw [World.cell?_setCell_other w _ _ _ (by intro e; injection e; omega)]
    exact hcell i v hv
theorem own_free {w : World} {base n g c m : Nat} {xs : List Value} {t : TypeId} (h : w.ownsRow base t 1 (.slice (some ⟨g, 0, none⟩) m c) n xs) : ∀ j, w.frozen? ⟨g, j, none⟩ = false := by
  intro j
  rcases h.2 with ⟨h0, _⟩ | ⟨g', cap, cur, hv, _, hh, _⟩
  · cases h0
  · injection hv with h1
    injection h1 with h1
    injection h1 with h1
    subst h1
    simp [World.frozen?, hh]
theorem xor_byte (x : UInt8) (d : Nat) (h1 : 1 ≤ d) (h2 : d ≤ 255) : ∃ u : UInt8, bits .xor .u8 (x.toNat : Int) (d : Int) = (u.toNat : Int) ∧ u ≠ x := by
  have hx := x.toNat_lt
  have hb := u8_xor_nat x.toNat d (by omega) (by omega)
  have hlt : x.toNat ^^^ d < 256 := by
    have := Nat.xor_lt_two_pow (n := 8) (x := x.toNat) (y := d) (by omega) (by omega)
    simpa using this
  refine ⟨UInt8.ofNat (x.toNat ^^^ d), ?_, fun he => ?_⟩
  · rw [hb, UInt8.toNat_ofNat', Nat.mod_eq_of_lt (by simpa using hlt)]
  · have h3 : (UInt8.ofNat (x.toNat ^^^ d)).toNat = x.toNat := by rw [he]
    have h4 : (UInt8.ofNat (x.toNat ^^^ d)).toNat = x.toNat ^^^ d := by rw [UInt8.toNat_ofNat', Nat.mod_eq_of_lt (by simpa using hlt)]
    rw [h4] at h3
    have h5 : d = 0 := by
      have := congrArg (x.toNat ^^^ ·) h3
      simpa [← Nat.xor_assoc] using this
    omega

set_option maxRecDepth 100000 in
set_option maxHeartbeats 4000000 in
theorem lbyte_walk (z0 z1 z2 z3 z4 z5 : Int) (z6 : Bool) (z7 z8 z9 z10 z11 z12 z13 z14 z15 z16 z17 z18 z19 z20 : Int) (at_ by_ : Int) (w : World) (r12 : -9223372036854775808 ≤ z12 ∧ z12 ≤ 9223372036854775807) (r18 : -9223372036854775808 ≤ z18 ∧ z18 ≤ 9223372036854775807) (r19 : -9223372036854775808 ≤ z19 ∧ z19 ≤ 9223372036854775807) (r20 : -9223372036854775808 ≤ z20 ∧ z20 ≤ 9223372036854775807) :
    Calls Try.prog 10 #[.agg #[.int .i64 z0, .int .i64 z1, .int .i64 z2, .int .i64 z3, .int .i64 z4, .int .i64 z5, .bool z6, .int .i64 z7, .int .i64 z8, .int .i64 z9, .int .i64 z10, .int .i64 z11, .int .i64 z12, .int .i64 z13, .int .i64 z14, .int .i64 z15, .int .i64 z16, .int .i64 z17, .int .i64 z18, .int .i64 z19, .int .i64 z20], .int .i64 at_, .int .i64 by_] w fun e w' => e = .returned (.bool true) ∧ Below w.heap.size w w' := by
  have hbox := BlkIs.new w 32 #[.int .i64 z0, .int .i64 z1, .int .i64 z2, .int .i64 z3, .int .i64 z4, .int .i64 z5, .bool z6, .int .i64 z7, .int .i64 z8, .int .i64 z9, .int .i64 z10, .int .i64 z11, .int .i64 z12, .int .i64 z13, .int .i64 z14, .int .i64 z15, .int .i64 z16, .int .i64 z17, .int .i64 z18, .int .i64 z19, .int .i64 z20]
  have hbel : Below w.heap.size w (w.alloc (.cells #[.int .i64 z0, .int .i64 z1, .int .i64 z2, .int .i64 z3, .int .i64 z4, .int .i64 z5, .bool z6, .int .i64 z7, .int .i64 z8, .int .i64 z9, .int .i64 z10, .int .i64 z11, .int .i64 z12, .int .i64 z13, .int .i64 z14, .int .i64 z15, .int .i64 z16, .int .i64 z17, .int .i64 z18, .int .i64 z19, .int .i64 z20] 32)) := (Below.refl _ _).alloc (Nat.le_refl _) _
  go_enter Try.func10, Try.ntmps10
  go_wp2_with (refine wpList_load_row (by rfl) 32 (.tmp 3) (by rfl) w.heap.size (by rfl) _ _ _ _ hbox Try.underlying32 rfl info_raw ?_)
  refine (dmake_any z0 z1 z2 z3 z4 z5 z6 z7 z8 z9 z10 z11 z12 z13 z14 z15 z16 z17 z18 z19 z20 _ r12 r18 r19 r20).mono ?_
  rintro e w_m ⟨s, n, k, p, v, l, rfl, hdoc, hp0, hp1, hv, hb⟩
  clear hbox
  replace hbel := bnext hbel hb
  clear hb
  obtain ⟨va, vn, vc, hvv⟩ := hv.shape
  subst hvv
  simp only [docV]
  have hlen := bodyB_len (docB_parts hdoc).2.2.2
  have HD := Lib.hid hdoc
  have HE := Lib.hid (enc_ok hdoc)
  have HR := Lib.hid (dec_ok hdoc hp0 hp1)
  have HXL := Lib.hid (encA_len s n k p l)
  clear hdoc
  have q_1 := Lib.hid hv
  clear hv
  have HSUM : Hid (dSum (encA s n k p l) = (crcL (dFront (encA s n k p l)) : Int)) := by unfold Hid; rw [encA_sum, encA_front]
  have hbm := hbel.size
  go_wp2_with fail
  refine (encode_any s n k p _ l _ q_1.out.1 q_1.out.2 (by omega) hp0 hp1).mono ?_
  rintro e w_p1 ⟨v_p1, rfl, ho_p1, hb⟩
  rw [HE.out.1]
  rw [HE.out.2] at ho_p1
  obtain ⟨gx, cx, hgx, hgb, hgc, hgl⟩ := own_some ho_p1 (by rw [HXL.out]; omega)
  subst hgx
  replace hbel := bnext hbel hb
  have q_2 := Lib.hid (q_1.out.next hb)
  clear q_1
  clear hb
  have HFR0 := Lib.hid (own_free ho_p1)
  generalize encA s n k p l = X at *
  clear HR
  have hxl := HXL.out
  have x_3 := Lib.hid (Part1.of ho_p1)
  clear ho_p1
  obtain ⟨xn, hxn⟩ : ∃ xn, xn = X.length := ⟨_, rfl⟩
  rw [← hxn] at hxl hgc ⊢
  rw [← hxn] at x_3
  have HXN := Lib.hid hxn
  have hxlo : 22 ≤ xn := by omega
  have hxhi : xn ≤ 58 := by omega
  clear hxn hxl HXL
  have hx0 : ((xn : Int) == 0) = false := beq_eq_false_iff_ne.2 (by omega)
  have hx1 : (0 : Int) < (xn : Int) := by omega
  have hgg : w.heap.size ≤ gx := by omega
  clear hgb
  go_wp2_with fail
  refine (awake_any _).mono ?_
  rintro e w_a ⟨rfl, hb⟩
  have hgl2 : gx < w_a.heap.size := Nat.lt_of_lt_of_le hgl hb.size
  have HFR1 : Hid (∀ j, w_a.frozen? ⟨gx, j, none⟩ = false) := fun j => (hb.frozen (p := ⟨gx, j, none⟩) hgl).trans (HFR0.out j)
  clear hgl HFR0
  replace hbel := bnext hbel hb
  have q_4 := Lib.hid (q_2.out.next hb)
  clear q_2
  have x_5 := Lib.hid (x_3.out.next hb)
  clear x_3
  clear hb
  go_wp2_with fail
  refine wp_region_rg [] [] [4, 8, 13] [0, 1, 2, 3, 7] [4, 5, 6, 8, 9, 10, 11] [12, 13] #[true, true, true, true, true, true, true, true, true, true, true, true, false, false] #[true, true, true, true, false, false, false, true, false, false, false, false, false, false] (by kernel_rfl) (by kernel_rfl) rfl (by decide) (by decide) (by decide) (by kernel_rfl) (by kernel_rfl) (by kernel_rfl) (by kernel_rfl) (by kernel_rfl) (by kernel_rfl) (by kernel_rfl) (fun _ _ _ _ _ h => h) (fun _ _ _ _ _ h => h) (by simp) ?_
  simp only [picked, marked, List.getElem?_cons_zero, List.getElem?_cons_succ, List.contains_cons, List.contains_nil, Nat.reduceBEq, Bool.or_false, Bool.or_true, BEq.rfl]
  replace hbel := hbel.drew
  have QX : Hid (Part1 w_a.drew (.slice (some ⟨gx, 0, none⟩) xn cx) X) := x_5
  have hgl3 : gx < w_a.drew.heap.size := hgl2
  have HFR2 : Hid (∀ j, w_a.drew.frozen? ⟨gx, j, none⟩ = false) := HFR1
  clear x_5 hgl2 HFR1
  generalize w_a.drew = W0 at *
  repeat (refine pre_quiet ?_; go_big_quiet_step (fail); refine wpQuiet_nil ?_)
  refine pre_nil ⟨?_, ?_⟩
  · intro x hx
    simp at hx
  refine rs_loud rfl ?_
  intro W1 hW1 K hK
  replace hbel := bnext hbel hW1
  have QX1 := Lib.hid (QX.out.next hW1)
  have hgl4 : gx < W1.heap.size := Nat.lt_of_lt_of_le hgl3 hW1.size
  have HFR3 : Hid (∀ j, W1.frozen? ⟨gx, j, none⟩ = false) := fun j => (hW1.frozen (p := ⟨gx, j, none⟩) hgl3).trans (HFR2.out j)
  clear hW1 QX hgl3 HFR2
  go_simp
  go_at_call 20
  refine (mod2_any at_ (xn : Int) _ (by omega) (by omega)).mono ?_
  rintro e w' ⟨rfl, rfl⟩
  refine hK _ _ (KeptBut.refl _ _) ?_
  clear hK K
  obtain ⟨p1, p2⟩ := emod_bd at_ (xn : Int) (by omega)
  obtain ⟨j, hj⟩ := Int.eq_ofNat_of_zero_le p1
  rw [hj] at p1 p2 ⊢
  clear hj
  have hjl : j < X.length := by have := HXN.out; omega
  have hcj : W1.cell? ⟨gx, j, none⟩ = some (.int .u8 (X[j].toNat : Int)) := by
    obtain ⟨aa, cc, he, _, hcc⟩ := QX1.out.1
    obtain ⟨b, o, ha, _, hcell⟩ := hcc (by omega)
    injection he with he1
    rw [ha] at he1
    injection he1 with he1
    injection he1 with he2 he3
    subst he2 he3
    have := hcell j X[j] (List.getElem?_eq_getElem hjl)
    rw [Nat.zero_add] at this
    exact this
  repeat (refine rs_quiet ?_; go_big_quiet_step (fail); refine wpQuiet_nil ?_)
  refine rs_loud rfl ?_
  intro W2 hW2 K hK
  replace hbel := bnext hbel hW2
  have QX2 := Lib.hid (QX1.out.next hW2)
  have hgl5 : gx < W2.heap.size := Nat.lt_of_lt_of_le hgl4 hW2.size
  have hcj2 : W2.cell? ⟨gx, j, none⟩ = some (.int .u8 (X[j].toNat : Int)) := (hW2.cell (p := ⟨gx, j, none⟩) hgl4).trans hcj
  have HFR4 : Hid (∀ j, W2.frozen? ⟨gx, j, none⟩ = false) := fun j => (hW2.frozen (p := ⟨gx, j, none⟩) hgl4).trans (HFR3.out j)
  clear hW2 QX1 hcj hgl4 HFR3
  go_simp
  go_at_call 20
  refine (mod2_any by_ 255 _ (by decide) (by decide)).mono ?_
  rintro e w' ⟨rfl, rfl⟩
  refine hK _ _ (KeptBut.refl _ _) ?_
  clear hK K
  obtain ⟨b1, b2⟩ := emod_bd by_ 255 (by decide)
  obtain ⟨d, hd⟩ := Int.eq_ofNat_of_zero_le b1
  rw [hd] at b1 b2 ⊢
  clear hd
  obtain ⟨u, hu, hne⟩ := xor_byte X[j] (1 + d) (by omega) (by omega)
  have hu2 : bits .xor .u8 (X[j].toNat : Int) (1 + (d : Int)) = (u.toNat : Int) := by rw [← hu]; congr 1
  have HNE := Lib.hid hne
  clear hu hne
  repeat (refine rs_quiet ?_; go_big_quiet_step (fail); refine wpQuiet_nil ?_)
  refine rs_nil ?_
  intro W3 hW3 sx hs1 hs2 hM
  replace hbel := bnext hbel hW3
  have QX3 := Lib.hid (QX2.out.next hW3)
  have hgl6 : gx < W3.heap.size := Nat.lt_of_lt_of_le hgl5 hW3.size
  have hcj3 : W3.cell? ⟨gx, j, none⟩ = some (.int .u8 (X[j].toNat : Int)) := (hW3.cell (p := ⟨gx, j, none⟩) hgl5).trans hcj2
  have hf3 := (hW3.frozen (p := ⟨gx, j, none⟩) hgl5).trans (HFR4.out j)
  clear hW3 QX2 hcj2 hgl5 hM hs2 HFR4
  obtain rfl : sx = [] := by simpa using hs1
  clear hs1
  simp only [msets]
  refine ⟨[gx], ?_⟩
  iterate 1 (refine ms_quiet ?_; go_big_quiet_step (fail); refine wpQuiet_nil ?_)
  refine ms_loud rfl ?_
  intro K hK
  go_simp
  refine hK _ _ (KeptBut.of_grown (grown_set (g := gx) (o := j) _) (by simp)) ?_
  clear hK K
  have sX : Sl W3.heap.size (W3.setCell ⟨gx, j, none⟩ (.int .u8 (u.toNat : Int))) (.slice (some ⟨gx, 0, none⟩) xn cx) (X.set j u) := by
    have h := QX3.out.1
    rw [HXN.out] at h ⊢
    exact h.set hjl u
  have hbad : dOk (X.set j u) = false := doc_byte X j hjl u HNE.out (by have := HXN.out; omega) HSUM.out
  have HBAD : Hid (rE (X.set j u) = 11 ∧ rS (X.set j u) = 0 ∧ rN (X.set j u) = 0 ∧ rK (X.set j u) = 0 ∧ rP (X.set j u) = 0 ∧ rBody (X.set j u) = []) := by simp [Hid, rE, rS, rN, rK, rP, rBody, hbad]
  clear hbad QX3 hcj3 hf3 hu2
  have hws : W3.heap.size ≤ (W3.setCell ⟨gx, j, none⟩ (.int .u8 (u.toNat : Int))).heap.size := (grown_set (w := W3) (g := gx) (o := j) (.int .u8 (u.toNat : Int))).size
  have SX := Lib.hid (sX.mono hws)
  clear sX hws
  replace hbel := hbel.setCell (p := ⟨gx, j, none⟩) hgg (.int .u8 (u.toNat : Int))
  generalize W3.setCell ⟨gx, j, none⟩ (.int .u8 (u.toNat : Int)) = W4 at *
  have hxl2 : (X.set j u).length ≤ 58 := by have := HXN.out; simp; omega
  refine ms_nil ?_
  go_wp2_with fail
  refine (decode_any _ (X.set j u) _ SX.out (by omega)).mono ?_
  rintro e w_d ⟨y, rfl, hy, hb⟩
  obtain ⟨e0, e1, e2, e3, e4, e5⟩ := HBAD.out
  rw [e0, e1, e2, e3, e4]
  rw [e5] at hy
  clear e0 e1 e2 e3 e4 e5 HBAD SX
  obtain ⟨ya, yn, yc, hyy⟩ := hy.shape
  subst hyy
  simp only [docV]
  replace hbel := bnext hbel hb
  clear hb
  have hA : Below w_d.heap.size w_d (w_d.alloc (.cells #[.int .i64 0, .int .i64 0, .int .i64 0, .int .u32 0, .slice ya yn yc] 34)) := (Below.refl _ _).alloc (Nat.le_refl _) _
  have QY := Lib.hid (hy.next hA)
  replace hbel := bnext hbel hA
  clear hA hy
  go_wp2_with fail
  refine (same_eq 0 0 0 0 _ _ [] _ QY.out.1 ⟨none, 0, rfl, Nat.le_refl _, fun h => by simp at h⟩).mono ?_
  rintro e w_s ⟨rfl, hb⟩
  replace hbel := bnext hbel hb
  go_wp2
  go_ret
  exact ⟨rfl, hbel⟩

set_option maxRecDepth 100000 in
theorem lbyte_lifted (os : Os) (started : os.Started) (H : Type) (enc : TypeId × Value → H) :
    ReturnsInHanded {} Try.checked os 10 .any (Rows.documentDetectsAByteSpec.pre6 enc Try.prog Try.f10 Rows.documentDetectsAByteRow.domain false) (Rows.documentDetectsAByteSpec.post enc Try.prog Try.f10 false true false false) := by
  refine returnsInHanded_of_change_sized (C := Try.checked) own_knob started (by kernel_rfl) Try.func10
    (ChangeSpec.witness6 (enc := enc) (C := Try.checked) false ⟨#[], #[.agg #[.int .i64 0, .int .i64 0, .int .i64 0, .int .i64 0, .int .i64 0, .int .i64 0, .bool false, .int .i64 0, .int .i64 0, .int .i64 0, .int .i64 0, .int .i64 0, .int .i64 0, .int .i64 0, .int .i64 0, .int .i64 0, .int .i64 0, .int .i64 0, .int .i64 0, .int .i64 0, .int .i64 0], .int .i64 0, .int .i64 0], []⟩ 8 (by kernel_rfl) (by kernel_rfl) (by kernel_rfl) (by kernel_rfl)) ?_
  intro W base args ds gs before hval0 hW hcnd hsz0 _
  have hval : ∀ (j : Nat) t v, Try.f10.params[j]? = some t → args[j]? = some v → Value.okWide Try.prog W .any base t v := hval0
  have hsz : (DataW.weightsEach Try.prog (Try.f10.params.toList ++ Rows.documentDetectsAByteSpec.plain.varTypes Try.prog) (ds ++ gs)).all (· ≤ reachBytes) = true := hsz0
  have hW' := hW
  obtain ⟨p, q, hA0, hV, rfl, hfz, hnd⟩ := hW
  have hA : DataW.TrodAll enc Try.prog W 0 (fun _ => true) true Try.f10.params.toList args.toList ds p := hA0
  rw [Try.params10] at hA hval hsz
  obtain ⟨v0, vs0, d0, ds0, p0, q0, hargs, rfl, rfl, h0, tl0⟩ := trodAll_cons hA
  obtain ⟨v1, vs1, d1, ds1, p1, q1, rfl, rfl, rfl, h1, tl1⟩ := trodAll_cons tl0
  obtain ⟨v2, vs2, d2, ds2, p2, q2, rfl, rfl, rfl, h2, tl2⟩ := trodAll_cons tl1
  obtain ⟨rfl, rfl, rfl⟩ := trodAll_nil tl2
  obtain rfl : args = #[v0, v1, v2] := by cases args; simp_all
  obtain ⟨rfl, rfl⟩ := trodVars_none hV
  have k0 := h0
  have lt0 : ∀ x ∈ p0, x.block < W.heap.size := by obtain ⟨m, hm⟩ := k0; exact DataW.trod_lt m _ _ _ hm
  have k1 := h1
  have lt1 : ∀ x ∈ p1, x.block < W.heap.size := by obtain ⟨m, hm⟩ := k1; exact DataW.trod_lt m _ _ _ hm
  have k2 := h2
  have lt2 : ∀ x ∈ p2, x.block < W.heap.size := by obtain ⟨m, hm⟩ := k2; exact DataW.trod_lt m _ _ _ hm
  obtain ⟨z0, z1, z2, z3, z4, z5, z6, z7, z8, z9, z10, z11, z12, z13, z14, z15, z16, z17, z18, z19, z20, rfl, u0, u1, u2, u3, u4, u5, u7, u8, u9, u10, u11, u12, u13, u14, u15, u16, u17, u18, u19, u20⟩ := open_raw (hval 0 _ v0 rfl rfl) h0
  obtain ⟨b, rfl, rfl, rfl, w1⟩ := open_int Try.underlying3 (hval 1 3 v1 rfl rfl) h1
  obtain ⟨d, rfl, rfl, rfl, w2⟩ := open_int Try.underlying3 (hval 2 3 v2 rfl rfl) h2
  clear hA0 hval0
  refine (lbyte_walk z0 z1 z2 z3 z4 z5 z6 z7 z8 z9 z10 z11 z12 z13 z14 z15 z16 z17 z18 z19 z20 b d W u12 u18 u19 u20).mono fun e W' ⟨he, bel⟩ => ?_
  subst he
  exact ⟨_, rfl, _, _, _, [], _, [], hW', trodAll_mk1 (shut_bool Try.underlying4 _), (trodAll_cons_mk (Below.trod laid_out (by kernel_rfl) (of_decide_eq_true (by kernel_rfl)) k0 bel lt0) (trodAll_cons_mk (Below.trod laid_out (by kernel_rfl) (of_decide_eq_true (by kernel_rfl)) k1 bel lt1) (trodAll_cons_mk (Below.trod laid_out (by kernel_rfl) (of_decide_eq_true (by kernel_rfl)) k2 bel lt2) trodAll_mk0))), rfl, bel.frame _, fun h => by cases h⟩

theorem lbyte_over : Rows.documentDetectsAByteRow.holds Try.pinned (OpenSpec.ofChange Rows.documentDetectsAByteSpec) :=
  OpenClaim.holds_of_wide 10 Try.f10 rfl rfl rfl rfl rfl rfl rfl ⟨rfl, rfl, rfl, rfl, rfl⟩ rfl rfl rfl rfl rfl (by kernel_rfl) Try.func10 (by kernel_rfl)
    (of_decide_eq_true (by kernel_rfl)) (by unfold Func.isWrapper; first | (rw [if_pos (by decide +kernel)]; kernel_rfl) | (rw [if_neg (by decide +kernel)]; exact ⟨rfl, rfl⟩))
    (fun os started H enc _ => lbyte_lifted os started H enc)

/-- The statement. -/
theorem lbyte_holds : Rows.DocumentDetectsAByteSaid := lbyte_over
#print axioms lbyte_holds
end Go.Proofs.Ytkkjiihdmpngbaa
