/-
  The contract of the laws' Body: a body of a kind for a sender.
-/
import Derived.Test.YtkkjiihdmpngbaaDh2
import Derived.Test.YtkkjiihdmpngbaaFd1
import Derived.Outline
namespace Go.Proofs.Ytkkjiihdmpngbaa
open Go.RowKit
set_option linter.unusedVariables false

theorem valid_iss {f : Fct} (h : validB f = true) (s : Int) (h0 : 0 ≤ s) (h1 : s ≤ 5) : validB ⟨s, f.num, f.ver, f.gone, f.per, f.kind, f.st, f.fr, f.til, f.seat, f.share, f.cur, f.amt, f.ref⟩ = true := by
  have hb : btw s 0 5 = true := by simp [btw, h0, h1]
  unfold validB at h ⊢
  simp only [Bool.and_eq_true] at h ⊢
  simp only [validTail] at h ⊢
  simp_all
def BodyPost (k s : Int) (w : World) (e : Ending) (w' : World) : Prop :=
  ∃ v l, e = .returned v ∧ w'.ownsRow w.heap.size 5 1 v l.length (bytesV l) ∧ bodyB k s l = true ∧ Below w.heap.size w w'
theorem body_of_fact {f : Fct} (h : validB f = true) : bodyB 1 f.iss (factL f) = true := by
  obtain ⟨h1, h2⟩ := fc_back h
  rw [body_fact, h1, h2]
  simp
theorem body_of_claim {x0 x1 x2 x3 x4 x5 : Int} (h : claimB x0 x1 x2 x3 x4 x5 = true) : bodyB 2 x0 (claimL x0 x1 x2 x3 x4 x5) = true := by
  obtain ⟨h1, h2, _⟩ := claim_back h
  rw [body_claim, h1, h2]
  simp
theorem body_of_request {x0 x1 x2 : Int} (s : Int) (h : requestB x0 x1 x2 = true) : bodyB 3 s (requestL x0 x1 x2) = true := (request_back h).1
theorem body_of_remittance {x0 x1 x2 x3 x4 x5 s : Int} (h : remittanceB x0 x1 x2 x3 x4 x5 = true) (hne : x0 ≠ s) : bodyB 4 s (remittanceL x0 x1 x2 x3 x4 x5) = true := by
  obtain ⟨h1, h2, _⟩ := remittance_back h
  rw [body_remittance, h1, h2]
  simp [hne]
theorem body_of_notice {x0 x1 x2 x3 : Int} (s : Int) (h : noticeB x0 x1 x2 x3 = true) : bodyB 5 s (noticeL x0 x1 x2 x3) = true := (notice_back h).1

set_option maxRecDepth 100000 in
set_option maxHeartbeats 4000000 in
theorem lbody_any (z0 z1 z2 z3 z4 z5 : Int) (z6 : Bool) (z7 z8 z9 z10 z11 z12 z13 z14 z15 z16 z17 z18 z19 z20 : Int) (k s : Int) (w : World) (hk1 : 1 ≤ k) (hk5 : k ≤ 5) (hs0 : 0 ≤ s) (hs5 : s ≤ 5)
    (r12 : -9223372036854775808 ≤ z12 ∧ z12 ≤ 9223372036854775807) (r18 : -9223372036854775808 ≤ z18 ∧ z18 ≤ 9223372036854775807) (r19 : -9223372036854775808 ≤ z19 ∧ z19 ≤ 9223372036854775807) (r20 : -9223372036854775808 ≤ z20 ∧ z20 ≤ 9223372036854775807) :
    Calls Try.prog 36 #[.agg #[.int .i64 z0, .int .i64 z1, .int .i64 z2, .int .i64 z3, .int .i64 z4, .int .i64 z5, .bool z6, .int .i64 z7, .int .i64 z8, .int .i64 z9, .int .i64 z10, .int .i64 z11, .int .i64 z12, .int .i64 z13, .int .i64 z14, .int .i64 z15, .int .i64 z16, .int .i64 z17, .int .i64 z18, .int .i64 z19, .int .i64 z20], .int .i64 k, .int .i64 s] w (BodyPost k s w) := by
  have hbox := BlkIs.new w 32 #[.int .i64 z0, .int .i64 z1, .int .i64 z2, .int .i64 z3, .int .i64 z4, .int .i64 z5, .bool z6, .int .i64 z7, .int .i64 z8, .int .i64 z9, .int .i64 z10, .int .i64 z11, .int .i64 z12, .int .i64 z13, .int .i64 z14, .int .i64 z15, .int .i64 z16, .int .i64 z17, .int .i64 z18, .int .i64 z19, .int .i64 z20]
  have hbel : Below w.heap.size w (w.alloc (.cells #[.int .i64 z0, .int .i64 z1, .int .i64 z2, .int .i64 z3, .int .i64 z4, .int .i64 z5, .bool z6, .int .i64 z7, .int .i64 z8, .int .i64 z9, .int .i64 z10, .int .i64 z11, .int .i64 z12, .int .i64 z13, .int .i64 z14, .int .i64 z15, .int .i64 z16, .int .i64 z17, .int .i64 z18, .int .i64 z19, .int .i64 z20] 32)) := (Below.refl _ _).alloc (Nat.le_refl _) _
  obtain ⟨pq1, pq2⟩ := emod_bd z16 99 (by decide)
  obtain ⟨mq1, mq2⟩ := emod_bd z17 2400 (by decide)
  go_enter Try.func36, Try.ntmps36
  go_wp2_with fail
  refine wp_region_ms [] [2, 6] [0, 1, 4, 5, 2, 3, 6, 7, 8] (by kernel_rfl) (by kernel_rfl) rfl (by decide) (by kernel_rfl) (fun _ _ _ _ _ h => h) ?_
  simp only [marked, List.getElem?_cons_zero, List.getElem?_cons_succ, List.contains_cons, List.contains_nil, Nat.reduceBEq, Bool.or_false, Bool.or_true, BEq.rfl]
  replace hbox := hbox.drew
  replace hbel := hbel.drew
  generalize (w.alloc (.cells #[.int .i64 z0, .int .i64 z1, .int .i64 z2, .int .i64 z3, .int .i64 z4, .int .i64 z5, .bool z6, .int .i64 z7, .int .i64 z8, .int .i64 z9, .int .i64 z10, .int .i64 z11, .int .i64 z12, .int .i64 z13, .int .i64 z14, .int .i64 z15, .int .i64 z16, .int .i64 z17, .int .i64 z18, .int .i64 z19, .int .i64 z20] 32)).drew = W at *
  have hcb := hbox.cell
  have lb := hbox.lt
  iterate 4 (refine ms_quiet ?_; go_big_quiet_step (fail); refine wpQuiet_nil ?_)
  refine ms_loud rfl ?_
  intro K hK
  go_simp
  go_at_call 20
  refine (mod2_any z16 99 _ (by decide) (by decide)).mono ?_
  rintro e w' ⟨rfl, rfl⟩
  refine hK _ _ (KeptBut.refl _ _) ?_
  clear hK K
  generalize z16 % 99 = pp at *
  iterate 1 (refine ms_quiet ?_; go_big_quiet_step (fail); refine wpQuiet_nil ?_)
  refine ms_loud rfl ?_
  intro K hK
  go_simp
  go_at_call 20
  refine (mod2_any z17 2400 _ (by decide) (by decide)).mono ?_
  rintro e w' ⟨rfl, rfl⟩
  refine hK _ _ (KeptBut.refl _ _) ?_
  clear hK K
  generalize z17 % 2400 = mm at *
  iterate 2 (refine ms_quiet ?_; go_big_quiet_step (fail); refine wpQuiet_nil ?_)
  refine ms_nil ?_
  by_cases h1 : k = 1
  · subst h1
    go_wp2_with fail
    refine (make_any z3 z4 z5 z6 z7 z8 z9 z10 z11 z12 z13 z14 z15 _ r12.1 r12.2).mono ?_
    rintro e w1 ⟨⟨g0, g1, g2, g3, g4, g5, g6, g7, g8, g9, g10, g11, g12, g13⟩, rfl, hv, hb1⟩
    simp only [fcells]
    replace hbel := bnext hbel hb1
    clear hb1 hcb lb hbox
    have hv2 := valid_iss hv s hs0 hs5
    have HV := Lib.hid hv2
    have HO : Hid (factO ⟨s, g1, g2, g3, g4, g5, g6, g7, g8, g9, g10, g11, g12, g13⟩ = factL ⟨s, g1, g2, g3, g4, g5, g6, g7, g8, g9, g10, g11, g12, g13⟩) := factO_valid hv2
    clear hv hv2
    go_wp2_with fail
    replace hbel := hbel.alloc hbel.size (.cells #[.int .i64 s, .int .i64 g1, .int .i64 g2, .bool g3, .int .i64 g4, .int .i64 g5, .int .i64 g6, .int .i64 g7, .int .i64 g8, .int .i64 g9, .int .i64 g10, .int .i64 g11, .int .i64 g12, .int .i64 g13] 76)
    refine (roffact_any ⟨s, g1, g2, g3, g4, g5, g6, g7, g8, g9, g10, g11, g12, g13⟩ _).mono ?_
    rintro e w2 ⟨v, rfl, hown, hb2⟩
    rw [HV.out]
    rw [HO.out] at hown
    obtain ⟨va, vc, hvv⟩ := own_len hown
    subst hvv
    go_wp2
    go_ret
    exact ⟨_, _, rfl, own_mono hown hbel.size, body_of_fact HV.out, bnext hbel hb2⟩
  by_cases h2 : k = 2
  · subst h2
    go_wp2_with fail
    refine wp_region_ms [] [3, 8, 12, 15, 17] [0, 1, 2, 5, 6, 7, 10, 11, 13, 14, 3, 4, 8, 9, 12, 15, 16, 17, 18, 19, 20, 21] (by kernel_rfl) (by kernel_rfl) rfl (by decide) (by kernel_rfl) (fun _ _ _ _ _ h => h) ?_
    simp only [marked, List.getElem?_cons_zero, List.getElem?_cons_succ, List.contains_cons, List.contains_nil, Nat.reduceBEq, Bool.or_false, Bool.or_true, BEq.rfl]
    replace hbox := hbox.drew
    replace hbel := hbel.drew
    clear hcb lb
    generalize W.drew = W2 at *
    have hcb := hbox.cell
    have lb := hbox.lt
    iterate 10 (refine ms_quiet ?_; go_big_quiet_step (fail); refine wpQuiet_nil ?_)
    refine ms_loud rfl ?_
    intro K hK
    go_simp
    go_at_call 20
    refine (mod2_any z18 999 _ (by decide) (by decide)).mono ?_
    rintro e w' ⟨rfl, rfl⟩
    refine hK _ _ (KeptBut.refl _ _) ?_
    clear hK K
    obtain ⟨y11, y12⟩ := emod_bd (z18) 999 (by decide)
    generalize (z18) % 999 = y1 at *
    iterate 1 (refine ms_quiet ?_; go_big_quiet_step (fail); refine wpQuiet_nil ?_)
    refine ms_loud rfl ?_
    intro K hK
    go_simp
    go_at_call 20
    refine (mod2_any z19 5 _ (by decide) (by decide)).mono ?_
    rintro e w' ⟨rfl, rfl⟩
    refine hK _ _ (KeptBut.refl _ _) ?_
    clear hK K
    obtain ⟨y21, y22⟩ := emod_bd (z19) 5 (by decide)
    generalize (z19) % 5 = y2 at *
    iterate 1 (refine ms_quiet ?_; go_big_quiet_step (fail); refine wpQuiet_nil ?_)
    refine ms_loud rfl ?_
    intro K hK
    go_simp
    go_at_call 20
    refine (mod2_any z20 100 _ (by decide) (by decide)).mono ?_
    rintro e w' ⟨rfl, rfl⟩
    refine hK _ _ (KeptBut.refl _ _) ?_
    clear hK K
    obtain ⟨y31, y32⟩ := emod_bd (z20) 100 (by decide)
    generalize (z20) % 100 = y3 at *
    refine ms_loud rfl ?_
    intro K hK
    go_simp
    go_at_call 20
    refine (mod2_any z17 73049 _ (by decide) (by decide)).mono ?_
    rintro e w' ⟨rfl, rfl⟩
    refine hK _ _ (KeptBut.refl _ _) ?_
    clear hK K
    obtain ⟨y41, y42⟩ := emod_bd (z17) 73049 (by decide)
    generalize (z17) % 73049 = y4 at *
    iterate 1 (refine ms_quiet ?_; go_big_quiet_step (fail); refine wpQuiet_nil ?_)
    have hB : claimB s (1 + y1) (1 + pp) (1 + y2) y3 y4 = true := by
      simp only [claimB, btw, Bool.and_eq_true, decide_eq_true_eq]
      omega
    have HB := Lib.hid hB
    have HO : Hid (claimO s (1 + y1) (1 + pp) (1 + y2) y3 y4 = claimL s (1 + y1) (1 + pp) (1 + y2) y3 y4) := by simp [Hid, claimO, hB]
    clear hB hcb lb
    refine ms_loud rfl ?_
    intro K hK
    go_simp
    go_at_call 38
    refine (rofClaim_any s (1 + y1) (1 + pp) (1 + y2) y3 y4 _).mono ?_
    rintro e w2 ⟨v, rfl, hown, hb2⟩
    rw [HB.out]
    rw [HO.out] at hown
    refine hK _ _ (KeptBut.of_below hb2) ?_
    clear hK K
    obtain ⟨va, vc, hvv⟩ := own_len hown
    subst hvv
    iterate 4 (refine ms_quiet ?_; go_big_quiet_step (fail); refine wpQuiet_nil ?_)
    refine ms_nil ?_
    go_wp2
    go_ret
    exact ⟨_, _, rfl, own_mono hown hbel.size, body_of_claim HB.out, bnext hbel hb2⟩
  by_cases h3 : k = 3
  · subst h3
    go_wp2_with fail
    refine (amount_any z18 _ r18.1 r18.2).mono ?_
    rintro e w' ⟨y1, rfl, y11, y12, rfl⟩
    have hB : requestB (1 + pp) mm y1 = true := by
      simp only [requestB, btw, Bool.and_eq_true, decide_eq_true_eq]
      omega
    have HB := Lib.hid hB
    have HO : Hid (requestO (1 + pp) mm y1 = requestL (1 + pp) mm y1) := by simp [Hid, requestO, hB]
    clear hB hcb lb
    go_wp2_with fail
    refine (rofRequest_any (1 + pp) mm y1 _).mono ?_
    rintro e w2 ⟨v, rfl, hown, hb2⟩
    rw [HB.out]
    rw [HO.out] at hown
    obtain ⟨va, vc, hvv⟩ := own_len hown
    subst hvv
    go_wp2
    go_ret
    exact ⟨_, _, rfl, own_mono hown hbel.size, body_of_request s HB.out, bnext hbel hb2⟩
  by_cases h4 : k = 4
  · subst h4
    go_wp2_with fail
    refine wp_region_ms [] [4, 6, 11, 15, 19, 22] [0, 1, 2, 3, 7, 8, 9, 10, 13, 14, 17, 18, 4, 5, 6, 11, 12, 15, 16, 19, 20, 21, 22, 23, 24, 25, 26] (by kernel_rfl) (by kernel_rfl) rfl (by decide) (by kernel_rfl) (fun _ _ _ _ _ h => h) ?_
    simp only [marked, List.getElem?_cons_zero, List.getElem?_cons_succ, List.contains_cons, List.contains_nil, Nat.reduceBEq, Bool.or_false, Bool.or_true, BEq.rfl]
    replace hbox := hbox.drew
    replace hbel := hbel.drew
    clear hcb lb
    generalize W.drew = W2 at *
    have hcb := hbox.cell
    have lb := hbox.lt
    iterate 12 (refine ms_quiet ?_; go_big_quiet_step (fail); refine wpQuiet_nil ?_)
    refine ms_loud rfl ?_
    intro K hK
    go_simp
    go_at_call 20
    refine (mod2_any z20 5 _ (by decide) (by decide)).mono ?_
    rintro e w' ⟨rfl, rfl⟩
    refine hK _ _ (KeptBut.refl _ _) ?_
    clear hK K
    obtain ⟨y11, y12⟩ := emod_bd (z20) 5 (by decide)
    generalize (z20) % 5 = y1 at *
    iterate 1 (refine ms_quiet ?_; go_big_quiet_step (fail); refine wpQuiet_nil ?_)
    have hne : (s + 1 + y1) % 6 ≠ s := by omega
    have HNE := Lib.hid hne
    clear hne
    refine ms_loud rfl ?_
    intro K hK
    go_simp
    go_at_call 20
    refine (mod2_any (s + 1 + y1) 6 _ (by decide) (by decide)).mono ?_
    rintro e w' ⟨rfl, rfl⟩
    refine hK _ _ (KeptBut.refl _ _) ?_
    clear hK K
    obtain ⟨tt1, tt2⟩ := emod_bd (s + 1 + y1) 6 (by decide)
    generalize (s + 1 + y1) % 6 = tt at *
    refine ms_loud rfl ?_
    intro K hK
    go_simp
    go_at_call 20
    refine (mod2_any z20 999 _ (by decide) (by decide)).mono ?_
    rintro e w' ⟨rfl, rfl⟩
    refine hK _ _ (KeptBut.refl _ _) ?_
    clear hK K
    obtain ⟨y21, y22⟩ := emod_bd (z20) 999 (by decide)
    generalize (z20) % 999 = y2 at *
    iterate 1 (refine ms_quiet ?_; go_big_quiet_step (fail); refine wpQuiet_nil ?_)
    refine ms_loud rfl ?_
    intro K hK
    go_simp
    go_at_call 47
    refine (amount_any z18 _ r18.1 r18.2).mono ?_
    rintro e w' ⟨y3, rfl, y31, y32, rfl⟩
    refine hK _ _ (KeptBut.refl _ _) ?_
    clear hK K
    iterate 1 (refine ms_quiet ?_; go_big_quiet_step (fail); refine wpQuiet_nil ?_)
    refine ms_loud rfl ?_
    intro K hK
    go_simp
    go_at_call 47
    refine (amount_any z19 _ r19.1 r19.2).mono ?_
    rintro e w' ⟨y4, rfl, y41, y42, rfl⟩
    refine hK _ _ (KeptBut.refl _ _) ?_
    clear hK K
    iterate 2 (refine ms_quiet ?_; go_big_quiet_step (fail); refine wpQuiet_nil ?_)
    refine ms_loud rfl ?_
    intro K hK
    go_simp
    go_at_call 44
    have m3 : 1 ≤ (if 1 < y3 then y3 else 1) ∧ (if 1 < y3 then y3 else 1) ≤ 1000000000000 := by split <;> omega
    have m4 : 1 ≤ (if 1 < y4 then y4 else 1) ∧ (if 1 < y4 then y4 else 1) ≤ 1000000000000 := by split <;> omega
    generalize (if 1 < y3 then y3 else 1) = x3 at *
    generalize (if 1 < y4 then y4 else 1) = x4 at *
    have hB : remittanceB tt (1 + pp) mm (1 + y2) x3 x4 = true := by
      simp only [remittanceB, btw, Bool.and_eq_true, decide_eq_true_eq]
      omega
    have HB := Lib.hid hB
    have HO : Hid (remittanceO tt (1 + pp) mm (1 + y2) x3 x4 = remittanceL tt (1 + pp) mm (1 + y2) x3 x4) := by simp [Hid, remittanceO, hB]
    clear hB hcb lb
    refine (rofRemittance_any tt (1 + pp) mm (1 + y2) x3 x4 _).mono ?_
    rintro e w2 ⟨v, rfl, hown, hb2⟩
    rw [HB.out]
    rw [HO.out] at hown
    refine hK _ _ (KeptBut.of_below hb2) ?_
    clear hK K
    obtain ⟨va, vc, hvv⟩ := own_len hown
    subst hvv
    iterate 4 (refine ms_quiet ?_; go_big_quiet_step (fail); refine wpQuiet_nil ?_)
    refine ms_nil ?_
    go_wp2
    go_ret
    exact ⟨_, _, rfl, own_mono hown hbel.size, body_of_remittance HB.out HNE.out, bnext hbel hb2⟩
  obtain rfl : k = 5 := by omega
  · go_wp2_with fail
    refine wp_region_ms [] [4, 7, 10, 13] [0, 1, 2, 3, 5, 6, 8, 9, 4, 7, 10, 11, 12, 13, 14, 15, 16, 17] (by kernel_rfl) (by kernel_rfl) rfl (by decide) (by kernel_rfl) (fun _ _ _ _ _ h => h) ?_
    simp only [marked, List.getElem?_cons_zero, List.getElem?_cons_succ, List.contains_cons, List.contains_nil, Nat.reduceBEq, Bool.or_false, Bool.or_true, BEq.rfl]
    replace hbox := hbox.drew
    replace hbel := hbel.drew
    clear hcb lb
    generalize W.drew = W2 at *
    have hcb := hbox.cell
    have lb := hbox.lt
    iterate 8 (refine ms_quiet ?_; go_big_quiet_step (fail); refine wpQuiet_nil ?_)
    refine ms_loud rfl ?_
    intro K hK
    go_simp
    go_at_call 47
    refine (amount_any z18 _ r18.1 r18.2).mono ?_
    rintro e w' ⟨y1, rfl, y11, y12, rfl⟩
    refine hK _ _ (KeptBut.refl _ _) ?_
    clear hK K
    refine ms_loud rfl ?_
    intro K hK
    go_simp
    go_at_call 47
    refine (amount_any z19 _ r19.1 r19.2).mono ?_
    rintro e w' ⟨y2, rfl, y21, y22, rfl⟩
    refine hK _ _ (KeptBut.refl _ _) ?_
    clear hK K
    refine ms_loud rfl ?_
    intro K hK
    go_simp
    go_at_call 47
    refine (amount_any z20 _ r20.1 r20.2).mono ?_
    rintro e w' ⟨y3, rfl, y31, y32, rfl⟩
    refine hK _ _ (KeptBut.refl _ _) ?_
    clear hK K
    iterate 2 (refine ms_quiet ?_; go_big_quiet_step (fail); refine wpQuiet_nil ?_)
    have hB : noticeB (1 + pp) mm y1 (y2 - y3) = true := by
      simp only [noticeB, btw, Bool.and_eq_true, decide_eq_true_eq]
      omega
    have HB := Lib.hid hB
    have HO : Hid (noticeO (1 + pp) mm y1 (y2 - y3) = noticeL (1 + pp) mm y1 (y2 - y3)) := by simp [Hid, noticeO, hB]
    clear hB hcb lb
    refine ms_loud rfl ?_
    intro K hK
    go_simp
    go_at_call 46
    refine (rofNotice_any (1 + pp) mm y1 (y2 - y3) _).mono ?_
    rintro e w2 ⟨v, rfl, hown, hb2⟩
    rw [HB.out]
    rw [HO.out] at hown
    refine hK _ _ (KeptBut.of_below hb2) ?_
    clear hK K
    obtain ⟨va, vc, hvv⟩ := own_len hown
    subst hvv
    iterate 4 (refine ms_quiet ?_; go_big_quiet_step (fail); refine wpQuiet_nil ?_)
    refine ms_nil ?_
    go_wp2
    go_ret
    exact ⟨_, _, rfl, own_mono hown hbel.size, body_of_notice s HB.out, bnext hbel hb2⟩
end Go.Proofs.Ytkkjiihdmpngbaa
