/-
  DocumentNeedsEachField: one field out of range makes a made document invalid. No conditions.
-/
import Derived.Test.YtkkjiihdmpngbaaDi2
import Derived.Test.YtkkjiihdmpngbaaLfr
import Derived.SizedLaws
namespace Go.Proofs.Ytkkjiihdmpngbaa
open Go.ChangeShapes Go.WideShapes Go.ChangeAt Go.RowKit
set_option linter.unusedVariables false

theorem part_some {w : World} {v : Value} {l : List UInt8} (h : Part1 w v l) (hl : 0 < l.length) : ∃ b o n c, v = .slice (some ⟨b, o, none⟩) n c ∧ n = l.length ∧ l.length ≤ c := by
  obtain ⟨⟨a, c, hv, hc, hx⟩, _⟩ := h
  obtain ⟨b, o, ha, _, _⟩ := hx hl
  subst ha
  exact ⟨b, o, l.length, c, hv, rfl, hc⟩
theorem doc_set0 {wr : World} {g : Nat} {t : TypeId} {a b c d e : Value} (h : BlkIs wr g t #[a, b, c, d, e]) (u : Value) : BlkIs (wr.setCell ⟨g, 0, none⟩ u) g t #[u, b, c, d, e] := h.put 0 u
theorem doc_set1 {wr : World} {g : Nat} {t : TypeId} {a b c d e : Value} (h : BlkIs wr g t #[a, b, c, d, e]) (u : Value) : BlkIs (wr.setCell ⟨g, 1, none⟩ u) g t #[a, u, c, d, e] := h.put 1 u
theorem doc_set2 {wr : World} {g : Nat} {t : TypeId} {a b c d e : Value} (h : BlkIs wr g t #[a, b, c, d, e]) (u : Value) : BlkIs (wr.setCell ⟨g, 2, none⟩ u) g t #[a, b, u, d, e] := h.put 2 u
theorem body_other {k s : Int} {l m : List UInt8} (h : bodyB k s l = true) (hf : k = 1 → fcOk m = false) (hl : m.length ≠ l.length) : bodyB k s m = false := by
  unfold bodyB at h ⊢
  by_cases h1 : k = 1
  · rw [if_pos h1, hf h1]; rfl
  rw [if_neg h1] at h ⊢
  by_cases h2 : k = 2
  · rw [if_pos h2] at h ⊢; simp only [Bool.and_eq_true] at h; rw [claim_short (by have := claim_len h.1; omega)]; rfl
  rw [if_neg h2] at h ⊢
  by_cases h3 : k = 3
  · rw [if_pos h3] at h ⊢; exact request_short (by have := request_len h; omega)
  rw [if_neg h3] at h ⊢
  by_cases h4 : k = 4
  · rw [if_pos h4] at h ⊢; simp only [Bool.and_eq_true] at h; rw [remittance_short (by have := remittance_len h.1; omega)]; rfl
  rw [if_neg h4] at h ⊢
  by_cases h5 : k = 5
  · rw [if_pos h5] at h ⊢; exact notice_short (by have := notice_len h; omega)
  rw [if_neg h5]
theorem body_fc {s : Int} {l : List UInt8} (h : bodyB 1 s l = true) : fcOk l = true := by
  rw [body_fact] at h
  simp only [Bool.and_eq_true] at h
  exact h.1
theorem body_more {k s : Int} {l : List UInt8} (h : bodyB k s l = true) (c : UInt8) : bodyB k s (l ++ [c]) = false := by
  refine body_other h (fun hk => ?_) (by simp)
  subst hk
  obtain ⟨h1, h2⟩ := fc_inv (body_fc h)
  rw [h2]
  exact fc_more h1 c
theorem body_cut {k s : Int} {l : List UInt8} (h : bodyB k s l = true) : bodyB k s (l.take (l.length - 1)) = false := by
  have hlen := bodyB_len h
  refine body_other h (fun hk => ?_) (by simp; omega)
  subst hk
  obtain ⟨h1, h2⟩ := fc_inv (body_fc h)
  rw [h2]
  exact fc_cut h1
theorem doc_body {s n k p : Int} {l : List UInt8} (h : bodyB k s l = false) : docB s n k p l = false := by rw [docB_eq, h]; simp
theorem enc_bad {s n k p : Int} {l : List UInt8} (h : docB s n k p l = false) : encE s n k p l = 1 ∧ encO s n k p l = [] := by simp [encE, encO, h]

set_option maxRecDepth 100000 in
set_option maxHeartbeats 4000000 in
theorem lneed_walk (z0 z1 z2 z3 z4 z5 : Int) (z6 : Bool) (z7 z8 z9 z10 z11 z12 z13 z14 z15 z16 z17 z18 z19 z20 : Int) (what by_ : Int) (w : World) (r12 : -9223372036854775808 ≤ z12 ∧ z12 ≤ 9223372036854775807) (r18 : -9223372036854775808 ≤ z18 ∧ z18 ≤ 9223372036854775807) (r19 : -9223372036854775808 ≤ z19 ∧ z19 ≤ 9223372036854775807) (r20 : -9223372036854775808 ≤ z20 ∧ z20 ≤ 9223372036854775807) :
    Calls Try.prog 7 #[.agg #[.int .i64 z0, .int .i64 z1, .int .i64 z2, .int .i64 z3, .int .i64 z4, .int .i64 z5, .bool z6, .int .i64 z7, .int .i64 z8, .int .i64 z9, .int .i64 z10, .int .i64 z11, .int .i64 z12, .int .i64 z13, .int .i64 z14, .int .i64 z15, .int .i64 z16, .int .i64 z17, .int .i64 z18, .int .i64 z19, .int .i64 z20], .int .i64 what, .int .i64 by_] w fun e w' => e = .returned (.bool true) ∧ Below w.heap.size w w' := by
  have hbox := BlkIs.new w 32 #[.int .i64 z0, .int .i64 z1, .int .i64 z2, .int .i64 z3, .int .i64 z4, .int .i64 z5, .bool z6, .int .i64 z7, .int .i64 z8, .int .i64 z9, .int .i64 z10, .int .i64 z11, .int .i64 z12, .int .i64 z13, .int .i64 z14, .int .i64 z15, .int .i64 z16, .int .i64 z17, .int .i64 z18, .int .i64 z19, .int .i64 z20]
  have hbel : Below w.heap.size w (w.alloc (.cells #[.int .i64 z0, .int .i64 z1, .int .i64 z2, .int .i64 z3, .int .i64 z4, .int .i64 z5, .bool z6, .int .i64 z7, .int .i64 z8, .int .i64 z9, .int .i64 z10, .int .i64 z11, .int .i64 z12, .int .i64 z13, .int .i64 z14, .int .i64 z15, .int .i64 z16, .int .i64 z17, .int .i64 z18, .int .i64 z19, .int .i64 z20] 32)) := (Below.refl _ _).alloc (Nat.le_refl _) _
  go_enter Try.func7, Try.ntmps7
  go_wp2_with (refine wpList_load_row (by rfl) 32 (.tmp 3) (by rfl) w.heap.size (by rfl) _ _ _ _ hbox Try.underlying32 rfl info_raw ?_)
  refine (dmake_any z0 z1 z2 z3 z4 z5 z6 z7 z8 z9 z10 z11 z12 z13 z14 z15 z16 z17 z18 z19 z20 _ r12 r18 r19 r20).mono ?_
  rintro e w_m ⟨s, n, k, p, v, l, rfl, hdoc, hp0, hp1, hv, hb⟩
  clear hbox
  replace hbel := bnext hbel hb
  clear hb
  have hlen := bodyB_len (docB_parts hdoc).2.2.2
  obtain ⟨b, o, vn, vc, hvv, hvn, hvc⟩ := part_some hv (by omega)
  subst hvv
  simp only [docV]
  have HVN := Lib.hid hvn
  have i1 : (7 : Int) ≤ (vn : Int) := by omega
  have i2 : (vn : Int) ≤ (vc : Int) := by omega
  have i3 : (vn : Int) ≤ 43 := by omega
  clear hvn hvc
  have HD := Lib.hid hdoc
  have HE := Lib.hid (enc_ok hdoc)
  have HR := Lib.hid (dec_ok hdoc hp0 hp1)
  have HXL := Lib.hid (encA_len s n k p l)
  clear hdoc
  have q_1 := Lib.hid hv
  clear hv
  have hd := BlkIs.new w_m 34 #[.int .i64 s, .int .i64 n, .int .i64 k, .int .u32 p, .slice (some ⟨b, o, none⟩) vn vc]
  have hbm : Below w_m.heap.size w_m (w_m.alloc (.cells #[.int .i64 s, .int .i64 n, .int .i64 k, .int .u32 p, .slice (some ⟨b, o, none⟩) vn vc] 34)) := (Below.refl _ _).alloc (Nat.le_refl _) _
  clear HE HR HXL
  have hcd := hd.cell
  go_wp2_with fail
  clear hcd
  refine (dvalid_any s n k p _ l _ ((q_1.out.1.below hbm).mono hbm.size) (by omega)).mono ?_
  rintro e w_1 ⟨rfl, hb⟩
  rw [HD.out]
  replace hd := hd.below hb hd.lt
  replace hbm := hbm.trans (hb.mono hbm.size)
  clear hb
  go_wp2_with fail
  refine (awake_any _).mono ?_
  rintro e w_2 ⟨rfl, hb⟩
  replace hd := hd.below hb hd.lt
  replace hbm := hbm.trans (hb.mono hbm.size)
  clear hb
  go_wp2_with fail
  refine (mod2_any by_ 1000 _ (by decide) (by decide)).mono ?_
  rintro e w' ⟨rfl, rfl⟩
  obtain ⟨y1, y2⟩ := emod_bd by_ 1000 (by decide)
  generalize by_ % 1000 = y at *
  go_wp2_with fail
  refine (mod2_any what 8 _ (by decide) (by decide)).mono ?_
  rintro e w' ⟨rfl, rfl⟩
  obtain ⟨q1, q2⟩ := emod_bd what 8 (by decide)
  generalize what % 8 = q at *
  obtain ⟨⟨ds1, ds2⟩, ⟨dn1, dn2⟩, dpn, dbody⟩ := docB_parts HD.out
  have HBODY := Lib.hid dbody
  clear dbody dpn
  have hcd := hd.cell
  have hfd := hd.frozen
  by_cases h0 : q = 0
  · subst h0
    have hd0 := hd
    have hbm0 := hbm
    clear hd hbm
    have hd1 := doc_set0 hd0 (.int .i64 (5 + (1 + y)))
    have hbm1 := hbm0.setCell (p := ⟨w_m.heap.size, 0, none⟩) (Nat.le_refl _) (.int .i64 (5 + (1 + y)))
    have hcd1 := hd1.cell
    have hfd1 := hd1.frozen
    have hd := hd1
    have hbm := hbm1
    have hbad : docB (5 + (1 + y)) (n) (k) (p) (l) = false := by rw [docB_eq]; simp [btw]; omega
    have HBAD := Lib.hid hbad
    have HENC := Lib.hid (enc_bad hbad)
    clear hbad
    go_wp2_with fail
    clear hcd hfd
    try clear hcd1 hfd1
    try clear hcd2 hfd2
    refine (encode_any (5 + (1 + y)) (n) (k) (p) _ (l) _ ((q_1.out.1.below hbm).mono hbm.size) q_1.out.2 (by first | omega | (simp; omega)) (by omega) (by omega)).mono ?_
    rintro e w_e ⟨x, rfl, hox, hb⟩
    rw [HENC.out.1]
    rw [HENC.out.2] at hox
    obtain ⟨ax, cx, hvx⟩ := own_len hox
    subst hvx
    clear hox
    replace hd := hd.below hb hd.lt
    replace hbm := hbm.trans (hb.mono hbm.size)
    clear hb
    have hcd := hd.cell
    go_wp2_with fail
    clear hcd
    refine (dvalid_any (5 + (1 + y)) (n) (k) (p) _ (l) _ ((q_1.out.1.below hbm).mono hbm.size) (by first | omega | (simp; omega))).mono ?_
    rintro e w_f ⟨rfl, hb⟩
    rw [HBAD.out]
    replace hd := hd.below hb hd.lt
    replace hbm := hbm.trans (hb.mono hbm.size)
    clear hb
    go_wp2
    go_ret
    exact ⟨rfl, bnext hbel hbm⟩
  by_cases h1 : q = 1
  · subst h1
    have hd0 := hd
    have hbm0 := hbm
    clear hd hbm
    have hd1 := doc_set0 hd0 (.int .i64 (-(1 + y)))
    have hbm1 := hbm0.setCell (p := ⟨w_m.heap.size, 0, none⟩) (Nat.le_refl _) (.int .i64 (-(1 + y)))
    have hcd1 := hd1.cell
    have hfd1 := hd1.frozen
    have hd := hd1
    have hbm := hbm1
    have hbad : docB (-(1 + y)) (n) (k) (p) (l) = false := by rw [docB_eq]; simp [btw]; omega
    have HBAD := Lib.hid hbad
    have HENC := Lib.hid (enc_bad hbad)
    clear hbad
    go_wp2_with fail
    clear hcd hfd
    try clear hcd1 hfd1
    try clear hcd2 hfd2
    refine (encode_any (-(1 + y)) (n) (k) (p) _ (l) _ ((q_1.out.1.below hbm).mono hbm.size) q_1.out.2 (by first | omega | (simp; omega)) (by omega) (by omega)).mono ?_
    rintro e w_e ⟨x, rfl, hox, hb⟩
    rw [HENC.out.1]
    rw [HENC.out.2] at hox
    obtain ⟨ax, cx, hvx⟩ := own_len hox
    subst hvx
    clear hox
    replace hd := hd.below hb hd.lt
    replace hbm := hbm.trans (hb.mono hbm.size)
    clear hb
    have hcd := hd.cell
    go_wp2_with fail
    clear hcd
    refine (dvalid_any (-(1 + y)) (n) (k) (p) _ (l) _ ((q_1.out.1.below hbm).mono hbm.size) (by first | omega | (simp; omega))).mono ?_
    rintro e w_f ⟨rfl, hb⟩
    rw [HBAD.out]
    replace hd := hd.below hb hd.lt
    replace hbm := hbm.trans (hb.mono hbm.size)
    clear hb
    go_wp2
    go_ret
    exact ⟨rfl, bnext hbel hbm⟩
  by_cases h2 : q = 2
  · subst h2
    have hd0 := hd
    have hbm0 := hbm
    clear hd hbm
    have hd1 := doc_set1 hd0 (.int .i64 (1 - (1 + y)))
    have hbm1 := hbm0.setCell (p := ⟨w_m.heap.size, 1, none⟩) (Nat.le_refl _) (.int .i64 (1 - (1 + y)))
    have hcd1 := hd1.cell
    have hfd1 := hd1.frozen
    have hd := hd1
    have hbm := hbm1
    have hbad : docB (s) (1 - (1 + y)) (k) (p) (l) = false := by rw [docB_eq]; simp [btw]; omega
    have HBAD := Lib.hid hbad
    have HENC := Lib.hid (enc_bad hbad)
    clear hbad
    go_wp2_with fail
    clear hcd hfd
    try clear hcd1 hfd1
    try clear hcd2 hfd2
    refine (encode_any (s) (1 - (1 + y)) (k) (p) _ (l) _ ((q_1.out.1.below hbm).mono hbm.size) q_1.out.2 (by first | omega | (simp; omega)) (by omega) (by omega)).mono ?_
    rintro e w_e ⟨x, rfl, hox, hb⟩
    rw [HENC.out.1]
    rw [HENC.out.2] at hox
    obtain ⟨ax, cx, hvx⟩ := own_len hox
    subst hvx
    clear hox
    replace hd := hd.below hb hd.lt
    replace hbm := hbm.trans (hb.mono hbm.size)
    clear hb
    have hcd := hd.cell
    go_wp2_with fail
    clear hcd
    refine (dvalid_any (s) (1 - (1 + y)) (k) (p) _ (l) _ ((q_1.out.1.below hbm).mono hbm.size) (by first | omega | (simp; omega))).mono ?_
    rintro e w_f ⟨rfl, hb⟩
    rw [HBAD.out]
    replace hd := hd.below hb hd.lt
    replace hbm := hbm.trans (hb.mono hbm.size)
    clear hb
    go_wp2
    go_ret
    exact ⟨rfl, bnext hbel hbm⟩
  by_cases h3 : q = 3
  · subst h3
    have hd0 := hd
    have hbm0 := hbm
    clear hd hbm
    have hd1 := doc_set1 hd0 (.int .i64 (999 + (1 + y)))
    have hbm1 := hbm0.setCell (p := ⟨w_m.heap.size, 1, none⟩) (Nat.le_refl _) (.int .i64 (999 + (1 + y)))
    have hcd1 := hd1.cell
    have hfd1 := hd1.frozen
    have hd := hd1
    have hbm := hbm1
    have hbad : docB (s) (999 + (1 + y)) (k) (p) (l) = false := by rw [docB_eq]; simp [btw]; omega
    have HBAD := Lib.hid hbad
    have HENC := Lib.hid (enc_bad hbad)
    clear hbad
    go_wp2_with fail
    clear hcd hfd
    try clear hcd1 hfd1
    try clear hcd2 hfd2
    refine (encode_any (s) (999 + (1 + y)) (k) (p) _ (l) _ ((q_1.out.1.below hbm).mono hbm.size) q_1.out.2 (by first | omega | (simp; omega)) (by omega) (by omega)).mono ?_
    rintro e w_e ⟨x, rfl, hox, hb⟩
    rw [HENC.out.1]
    rw [HENC.out.2] at hox
    obtain ⟨ax, cx, hvx⟩ := own_len hox
    subst hvx
    clear hox
    replace hd := hd.below hb hd.lt
    replace hbm := hbm.trans (hb.mono hbm.size)
    clear hb
    have hcd := hd.cell
    go_wp2_with fail
    clear hcd
    refine (dvalid_any (s) (999 + (1 + y)) (k) (p) _ (l) _ ((q_1.out.1.below hbm).mono hbm.size) (by first | omega | (simp; omega))).mono ?_
    rintro e w_f ⟨rfl, hb⟩
    rw [HBAD.out]
    replace hd := hd.below hb hd.lt
    replace hbm := hbm.trans (hb.mono hbm.size)
    clear hb
    go_wp2
    go_ret
    exact ⟨rfl, bnext hbel hbm⟩
  by_cases h4 : q = 4
  · subst h4
    have hd0 := hd
    have hbm0 := hbm
    clear hd hbm
    have hd1 := doc_set2 hd0 (.int .i64 (5 + (1 + y)))
    have hbm1 := hbm0.setCell (p := ⟨w_m.heap.size, 2, none⟩) (Nat.le_refl _) (.int .i64 (5 + (1 + y)))
    have hcd1 := hd1.cell
    have hfd1 := hd1.frozen
    have hd := hd1
    have hbm := hbm1
    have hbad : docB (s) (n) (5 + (1 + y)) (p) (l) = false := doc_body (body_none _ _ _ (by omega) (by omega) (by omega) (by omega) (by omega))
    have HBAD := Lib.hid hbad
    have HENC := Lib.hid (enc_bad hbad)
    clear hbad
    go_wp2_with fail
    clear hcd hfd
    try clear hcd1 hfd1
    try clear hcd2 hfd2
    refine (encode_any (s) (n) (5 + (1 + y)) (p) _ (l) _ ((q_1.out.1.below hbm).mono hbm.size) q_1.out.2 (by first | omega | (simp; omega)) (by omega) (by omega)).mono ?_
    rintro e w_e ⟨x, rfl, hox, hb⟩
    rw [HENC.out.1]
    rw [HENC.out.2] at hox
    obtain ⟨ax, cx, hvx⟩ := own_len hox
    subst hvx
    clear hox
    replace hd := hd.below hb hd.lt
    replace hbm := hbm.trans (hb.mono hbm.size)
    clear hb
    have hcd := hd.cell
    go_wp2_with fail
    clear hcd
    refine (dvalid_any (s) (n) (5 + (1 + y)) (p) _ (l) _ ((q_1.out.1.below hbm).mono hbm.size) (by first | omega | (simp; omega))).mono ?_
    rintro e w_f ⟨rfl, hb⟩
    rw [HBAD.out]
    replace hd := hd.below hb hd.lt
    replace hbm := hbm.trans (hb.mono hbm.size)
    clear hb
    go_wp2
    go_ret
    exact ⟨rfl, bnext hbel hbm⟩
  by_cases h5 : q = 5
  · subst h5
    have hd0 := hd
    have hbm0 := hbm
    clear hd hbm
    have hd1 := doc_set1 hd0 (.int .i64 1)
    have hbm1 := hbm0.setCell (p := ⟨w_m.heap.size, 1, none⟩) (Nat.le_refl _) (.int .i64 1)
    have hcd1 := hd1.cell
    have hfd1 := hd1.frozen
    have hd2 := doc_set3 hd1 (.int .u32 (1 + y))
    have hbm2 := hbm1.setCell (p := ⟨w_m.heap.size, 3, none⟩) (Nat.le_refl _) (.int .u32 (1 + y))
    have hcd2 := hd2.cell
    have hfd2 := hd2.frozen
    have hd := hd2
    have hbm := hbm2
    have hbad : docB (s) (1) (k) (1 + y) (l) = false := by rw [docB_eq]; simp [btw]; omega
    have HBAD := Lib.hid hbad
    have HENC := Lib.hid (enc_bad hbad)
    clear hbad
    go_wp2_with fail
    clear hcd hfd
    try clear hcd1 hfd1
    try clear hcd2 hfd2
    refine (encode_any (s) (1) (k) (1 + y) _ (l) _ ((q_1.out.1.below hbm).mono hbm.size) q_1.out.2 (by first | omega | (simp; omega)) (by omega) (by omega)).mono ?_
    rintro e w_e ⟨x, rfl, hox, hb⟩
    rw [HENC.out.1]
    rw [HENC.out.2] at hox
    obtain ⟨ax, cx, hvx⟩ := own_len hox
    subst hvx
    clear hox
    replace hd := hd.below hb hd.lt
    replace hbm := hbm.trans (hb.mono hbm.size)
    clear hb
    have hcd := hd.cell
    go_wp2_with fail
    clear hcd
    refine (dvalid_any (s) (1) (k) (1 + y) _ (l) _ ((q_1.out.1.below hbm).mono hbm.size) (by first | omega | (simp; omega))).mono ?_
    rintro e w_f ⟨rfl, hb⟩
    rw [HBAD.out]
    replace hd := hd.below hb hd.lt
    replace hbm := hbm.trans (hb.mono hbm.size)
    clear hb
    go_wp2
    go_ret
    exact ⟨rfl, bnext hbel hbm⟩
  by_cases h6 : q = 6
  · subst h6
    have SL0 := Lib.hid ((q_1.out.1.below hbm).mono hbm.size)
    go_wp2_with (first | (at_builtin; refine wpList_appBig (by rfl) _ _ (by rfl) w_2.heap.size _ (.slice none 0 0) _ [] l _ (by rfl) (own_nil _ _) (by rfl) SL0.out q_1.out.2 (by simp; omega) (Nat.le_refl _) ?_; intro v4 w4 hown4 hb4 hg4; rw [List.nil_append] at hown4; clear hg4) | (at_builtin; refine wpList_appBig (by rfl) _ _ (by rfl) w_2.heap.size _ v4 _ l [0] _ (by rfl) (own_below hown4 ((Below.refl _ _).alloc (Nat.le_refl _) _)) (by rfl) (Sl.of_blk (l := [0]) (BlkIs.new w4 5 #[.int .u8 0]) rfl) (fun c h => by cases h) (by simp; omega) (by have := hb4.size; simp; omega) ?_; intro v5 w5 hown5 hb5 hg5; clear hg5; replace hb5 := hb4.trans (((Below.refl _ _).alloc hb4.size _).trans hb5); clear hb4 hown4; obtain ⟨n5, hn5⟩ : ∃ n5, n5 = (l ++ [(0 : UInt8)]).length := ⟨_, rfl⟩; rw [← hn5] at hown5; have HN5 := Lib.hid hn5; clear hn5; obtain ⟨a5, c5, hv5⟩ := own_len hown5; subst hv5; have hd5 := hd.below hb5 hd.lt; have hap5 := hd5.apart hown5 (by decide); have hd6 := doc_set4 hd5 (.slice a5 n5 c5); have hcd5 := hd5.cell; have hfd5 := hd5.frozen; have hcd6 := hd6.cell))
    clear hcd hfd hcd5 hfd5 hcd6
    have hg5 := grown_set (w := w5) (g := w_m.heap.size) (o := 4) (.slice a5 n5 c5)
    have ho6 := own_grown hown5 hg5 hap5
    have hbm6 := (hbm.trans (hb5.mono hbm.size)).setCell (p := ⟨w_m.heap.size, 4, none⟩) (Nat.le_refl _) (.slice a5 n5 c5)
    have Q6 : Hid (Part1 (w5.setCell ⟨w_m.heap.size, 4, none⟩ (.slice a5 n5 c5)) (.slice a5 n5 c5) (l ++ [0])) := by
      rw [HN5.out] at ho6 ⊢
      exact Part1.of ho6
    clear hd hbm ho6 hown5 hap5 hg5 hb5 hd5
    have hd := hd6
    have hbm := hbm6
    clear hd6 hbm6
    generalize w5.setCell ⟨w_m.heap.size, 4, none⟩ (.slice a5 n5 c5) = W6 at *
    have hbad : docB s n k p (l ++ [0]) = false := doc_body (body_more HBODY.out 0)
    have HBAD := Lib.hid hbad
    have HENC := Lib.hid (enc_bad hbad)
    clear hbad
    refine (encode_any s n k p _ (l ++ [0]) _ Q6.out.1 Q6.out.2 (by simp; omega) (by omega) (by omega)).mono ?_
    rintro e w_e ⟨x, rfl, hox, hb⟩
    rw [HENC.out.1]
    rw [HENC.out.2] at hox
    obtain ⟨ax, cx, hvx⟩ := own_len hox
    subst hvx
    clear hox
    have Q7 := Lib.hid (Q6.out.next hb)
    replace hd := hd.below hb hd.lt
    replace hbm := hbm.trans (hb.mono hbm.size)
    clear hb
    have hcd := hd.cell
    go_wp2_with fail
    clear hcd
    refine (dvalid_any s n k p _ (l ++ [0]) _ Q7.out.1 (by simp; omega)).mono ?_
    rintro e w_f ⟨rfl, hb⟩
    rw [HBAD.out]
    replace hd := hd.below hb hd.lt
    replace hbm := hbm.trans (hb.mono hbm.size)
    clear hb
    go_wp2
    go_ret
    exact ⟨rfl, bnext hbel hbm⟩
  obtain rfl : q = 7 := by omega
  have SL7 : Hid (∀ W, Below w_m.heap.size w_m W → Sl W.heap.size W (.slice (some ⟨b, o, none⟩) (vn - 1) vc) (l.take (l.length - 1))) := by
    intro W hW
    have h := q_1.out.1
    have e : vn - 1 = l.length - 1 := by have := HVN.out; omega
    rw [HVN.out] at h
    rw [e]
    exact ((h.take (by omega)).below hW).mono hW.size
  have hd1 := doc_set4 hd (.slice (some ⟨b, o, none⟩) (vn - 1) vc)
  have hbm1 := hbm.setCell (p := ⟨w_m.heap.size, 4, none⟩) (Nat.le_refl _) (.slice (some ⟨b, o, none⟩) (vn - 1) vc)
  have hcd1 := hd1.cell
  have hfd1 := hd1.frozen
  have hd0 := hd
  have hbm0 := hbm
  clear hd hbm
  have hd := hd1
  have hbm := hbm1
  have hbad : docB (s) (n) (k) (p) (l.take (l.length - 1)) = false := doc_body (body_cut HBODY.out)
  have HBAD := Lib.hid hbad
  have HENC := Lib.hid (enc_bad hbad)
  clear hbad
  go_wp2_with fail
  clear hcd hfd
  try clear hcd1 hfd1
  try clear hcd2 hfd2
  refine (encode_any (s) (n) (k) (p) _ (l.take (l.length - 1)) _ (SL7.out _ hbm) (fun c h => by cases h) (by first | omega | (simp; omega)) (by omega) (by omega)).mono ?_
  rintro e w_e ⟨x, rfl, hox, hb⟩
  rw [HENC.out.1]
  rw [HENC.out.2] at hox
  obtain ⟨ax, cx, hvx⟩ := own_len hox
  subst hvx
  clear hox
  replace hd := hd.below hb hd.lt
  replace hbm := hbm.trans (hb.mono hbm.size)
  clear hb
  have hcd := hd.cell
  go_wp2_with fail
  clear hcd
  refine (dvalid_any (s) (n) (k) (p) _ (l.take (l.length - 1)) _ (SL7.out _ hbm) (by first | omega | (simp; omega))).mono ?_
  rintro e w_f ⟨rfl, hb⟩
  rw [HBAD.out]
  replace hd := hd.below hb hd.lt
  replace hbm := hbm.trans (hb.mono hbm.size)
  clear hb
  go_wp2
  go_ret
  exact ⟨rfl, bnext hbel hbm⟩

set_option maxRecDepth 100000 in
theorem lneed_lifted (os : Os) (started : os.Started) (H : Type) (enc : TypeId × Value → H) :
    ReturnsInHanded {} Try.checked os 7 .any (Rows.documentNeedsEachFieldSpec.pre6 enc Try.prog Try.f7 Rows.documentNeedsEachFieldRow.domain false) (Rows.documentNeedsEachFieldSpec.post enc Try.prog Try.f7 false true false false) := by
  refine returnsInHanded_of_change_sized (C := Try.checked) own_knob started (by kernel_rfl) Try.func7
    (ChangeSpec.witness6 (enc := enc) (C := Try.checked) false ⟨#[], #[.agg #[.int .i64 0, .int .i64 0, .int .i64 0, .int .i64 0, .int .i64 0, .int .i64 0, .bool false, .int .i64 0, .int .i64 0, .int .i64 0, .int .i64 0, .int .i64 0, .int .i64 0, .int .i64 0, .int .i64 0, .int .i64 0, .int .i64 0, .int .i64 0, .int .i64 0, .int .i64 0, .int .i64 0], .int .i64 0, .int .i64 0], []⟩ 8 (by kernel_rfl) (by kernel_rfl) (by kernel_rfl) (by kernel_rfl)) ?_
  intro W base args ds gs before hval0 hW hcnd hsz0 _
  have hval : ∀ (j : Nat) t v, Try.f7.params[j]? = some t → args[j]? = some v → Value.okWide Try.prog W .any base t v := hval0
  have hsz : (DataW.weightsEach Try.prog (Try.f7.params.toList ++ Rows.documentNeedsEachFieldSpec.plain.varTypes Try.prog) (ds ++ gs)).all (· ≤ reachBytes) = true := hsz0
  have hW' := hW
  obtain ⟨p, q, hA0, hV, rfl, hfz, hnd⟩ := hW
  have hA : DataW.TrodAll enc Try.prog W 0 (fun _ => true) true Try.f7.params.toList args.toList ds p := hA0
  rw [Try.params7] at hA hval hsz
  obtain ⟨v0, vs0, d0, ds0, p0, q0, hargs, rfl, rfl, h0, tl0⟩ := trodAll_cons hA
  obtain ⟨v1, vs1, d1, ds1, p1, q1, rfl, rfl, rfl, h1, tl1⟩ := trodAll_cons tl0
  obtain ⟨v2, vs2, d2, ds2, p2, q2, rfl, rfl, rfl, h2, tl2⟩ := trodAll_cons tl1
  obtain ⟨rfl, rfl, rfl⟩ := trodAll_nil tl2
  obtain rfl : args = #[v0, v1, v2] := by cases args; simp_all
  obtain ⟨rfl, rfl⟩ := trodVars_none hV
  have k0 := h0
  have lt0 : ∀ x ∈ p0, x.block < W.heap.size := by obtain ⟨m, hm⟩ := k0; exact DataW.trod_lt m _ _ _ hm
  have k1 := h1
  have lt1 : ∀ x ∈ p1, x.block < W.heap.size := by obtain ⟨m, hm⟩ := k1; exact DataW.trod_lt m _ _ _ hm
  have k2 := h2
  have lt2 : ∀ x ∈ p2, x.block < W.heap.size := by obtain ⟨m, hm⟩ := k2; exact DataW.trod_lt m _ _ _ hm
  obtain ⟨z0, z1, z2, z3, z4, z5, z6, z7, z8, z9, z10, z11, z12, z13, z14, z15, z16, z17, z18, z19, z20, rfl, u0, u1, u2, u3, u4, u5, u7, u8, u9, u10, u11, u12, u13, u14, u15, u16, u17, u18, u19, u20⟩ := open_raw (hval 0 _ v0 rfl rfl) h0
  obtain ⟨b, rfl, rfl, rfl, w1⟩ := open_int Try.underlying3 (hval 1 3 v1 rfl rfl) h1
  obtain ⟨d, rfl, rfl, rfl, w2⟩ := open_int Try.underlying3 (hval 2 3 v2 rfl rfl) h2
  clear hA0 hval0
  refine (lneed_walk z0 z1 z2 z3 z4 z5 z6 z7 z8 z9 z10 z11 z12 z13 z14 z15 z16 z17 z18 z19 z20 b d W u12 u18 u19 u20).mono fun e W' ⟨he, bel⟩ => ?_
  subst he
  exact ⟨_, rfl, _, _, _, [], _, [], hW', trodAll_mk1 (shut_bool Try.underlying4 _), (trodAll_cons_mk (Below.trod laid_out (by kernel_rfl) (of_decide_eq_true (by kernel_rfl)) k0 bel lt0) (trodAll_cons_mk (Below.trod laid_out (by kernel_rfl) (of_decide_eq_true (by kernel_rfl)) k1 bel lt1) (trodAll_cons_mk (Below.trod laid_out (by kernel_rfl) (of_decide_eq_true (by kernel_rfl)) k2 bel lt2) trodAll_mk0))), rfl, bel.frame _, fun h => by cases h⟩

theorem lneed_over : Rows.documentNeedsEachFieldRow.holds Try.pinned (OpenSpec.ofChange Rows.documentNeedsEachFieldSpec) :=
  OpenClaim.holds_of_wide 7 Try.f7 rfl rfl rfl rfl rfl rfl rfl ⟨rfl, rfl, rfl, rfl, rfl⟩ rfl rfl rfl rfl rfl (by kernel_rfl) Try.func7 (by kernel_rfl)
    (of_decide_eq_true (by kernel_rfl)) (by unfold Func.isWrapper; first | (rw [if_pos (by decide +kernel)]; kernel_rfl) | (rw [if_neg (by decide +kernel)]; exact ⟨rfl, rfl⟩))
    (fun os started H enc _ => lneed_lifted os started H enc)

/-- The statement. -/
theorem lneed_holds : Rows.DocumentNeedsEachFieldSaid := lneed_over
#print axioms lneed_holds
end Go.Proofs.Ytkkjiihdmpngbaa
