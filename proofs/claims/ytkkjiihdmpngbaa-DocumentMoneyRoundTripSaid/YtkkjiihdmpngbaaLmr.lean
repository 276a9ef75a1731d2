/-
  DocumentMoneyRoundTrip: requests, remittances and notices that are in range are read back, and bodies of another kind are not read. No conditions.
-/
import Derived.Test.YtkkjiihdmpngbaaLeq
import Derived.Test.YtkkjiihdmpngbaaLfr
import Derived.SizedLaws
import Derived.Test.YtkkjiihdmpngbaaDi1
namespace Go.Proofs.Ytkkjiihdmpngbaa
open Go.ChangeShapes Go.WideShapes Go.ChangeAt Go.RowKit
set_option linter.unusedVariables false

theorem request_blk {wr : World} {g g' : Nat} (h : g' ≠ g) (g0 g1 g2 : Int) : (((wr.setCell ⟨g, 0, none⟩ (.int .i64 g0)).setCell ⟨g, 1, none⟩ (.int .i64 g1)).setCell ⟨g, 2, none⟩ (.int .i64 g2)).heap[g']? = wr.heap[g']? :=
  (Below.heap_setCell _ _ _ g' h).trans ((Below.heap_setCell _ _ _ g' h).trans (Below.heap_setCell _ _ _ g' h))
theorem request_but (wr : World) (g : Nat) (g0 g1 g2 : Int) : KeptBut [g] wr (((wr.setCell ⟨g, 0, none⟩ (.int .i64 g0)).setCell ⟨g, 1, none⟩ (.int .i64 g1)).setCell ⟨g, 2, none⟩ (.int .i64 g2)) :=
  have h := request_far (g := g) (Below.refl 0 wr) (Nat.zero_le _) g0 g1 g2
  ⟨h.os, h.tape, h.output, h.size, fun k _ hk => request_blk (by simpa using hk) g0 g1 g2⟩
theorem remittance_blk {wr : World} {g g' : Nat} (h : g' ≠ g) (g0 g1 g2 g3 g4 g5 : Int) : ((((((wr.setCell ⟨g, 0, none⟩ (.int .i64 g0)).setCell ⟨g, 1, none⟩ (.int .i64 g1)).setCell ⟨g, 2, none⟩ (.int .i64 g2)).setCell ⟨g, 3, none⟩ (.int .i64 g3)).setCell ⟨g, 4, none⟩ (.int .i64 g4)).setCell ⟨g, 5, none⟩ (.int .i64 g5)).heap[g']? = wr.heap[g']? :=
  (Below.heap_setCell _ _ _ g' h).trans ((Below.heap_setCell _ _ _ g' h).trans ((Below.heap_setCell _ _ _ g' h).trans ((Below.heap_setCell _ _ _ g' h).trans ((Below.heap_setCell _ _ _ g' h).trans (Below.heap_setCell _ _ _ g' h)))))
theorem remittance_but (wr : World) (g : Nat) (g0 g1 g2 g3 g4 g5 : Int) : KeptBut [g] wr ((((((wr.setCell ⟨g, 0, none⟩ (.int .i64 g0)).setCell ⟨g, 1, none⟩ (.int .i64 g1)).setCell ⟨g, 2, none⟩ (.int .i64 g2)).setCell ⟨g, 3, none⟩ (.int .i64 g3)).setCell ⟨g, 4, none⟩ (.int .i64 g4)).setCell ⟨g, 5, none⟩ (.int .i64 g5)) :=
  have h := remittance_far (g := g) (Below.refl 0 wr) (Nat.zero_le _) g0 g1 g2 g3 g4 g5
  ⟨h.os, h.tape, h.output, h.size, fun k _ hk => remittance_blk (by simpa using hk) g0 g1 g2 g3 g4 g5⟩
theorem notice_blk {wr : World} {g g' : Nat} (h : g' ≠ g) (g0 g1 g2 g3 : Int) : ((((wr.setCell ⟨g, 0, none⟩ (.int .i64 g0)).setCell ⟨g, 1, none⟩ (.int .i64 g1)).setCell ⟨g, 2, none⟩ (.int .i64 g2)).setCell ⟨g, 3, none⟩ (.int .i64 g3)).heap[g']? = wr.heap[g']? :=
  (Below.heap_setCell _ _ _ g' h).trans ((Below.heap_setCell _ _ _ g' h).trans ((Below.heap_setCell _ _ _ g' h).trans (Below.heap_setCell _ _ _ g' h)))
theorem notice_but (wr : World) (g : Nat) (g0 g1 g2 g3 : Int) : KeptBut [g] wr ((((wr.setCell ⟨g, 0, none⟩ (.int .i64 g0)).setCell ⟨g, 1, none⟩ (.int .i64 g1)).setCell ⟨g, 2, none⟩ (.int .i64 g2)).setCell ⟨g, 3, none⟩ (.int .i64 g3)) :=
  have h := notice_far (g := g) (Below.refl 0 wr) (Nat.zero_le _) g0 g1 g2 g3
  ⟨h.os, h.tape, h.output, h.size, fun k _ hk => notice_blk (by simpa using hk) g0 g1 g2 g3⟩

set_option maxRecDepth 100000 in
set_option maxHeartbeats 4000000 in
theorem lmr_walk (z0 z1 z2 z3 z4 z5 : Int) (z6 : Bool) (z7 z8 z9 z10 z11 z12 z13 z14 z15 z16 z17 z18 z19 z20 : Int) (w : World) (r12 : -9223372036854775808 ≤ z12 ∧ z12 ≤ 9223372036854775807) (r18 : -9223372036854775808 ≤ z18 ∧ z18 ≤ 9223372036854775807) (r19 : -9223372036854775808 ≤ z19 ∧ z19 ≤ 9223372036854775807) (r20 : -9223372036854775808 ≤ z20 ∧ z20 ≤ 9223372036854775807) :
    Calls Try.prog 15 #[.agg #[.int .i64 z0, .int .i64 z1, .int .i64 z2, .int .i64 z3, .int .i64 z4, .int .i64 z5, .bool z6, .int .i64 z7, .int .i64 z8, .int .i64 z9, .int .i64 z10, .int .i64 z11, .int .i64 z12, .int .i64 z13, .int .i64 z14, .int .i64 z15, .int .i64 z16, .int .i64 z17, .int .i64 z18, .int .i64 z19, .int .i64 z20]] w fun e w' => e = .returned (.bool true) ∧ Below w.heap.size w w' := by
  have hbel : Below w.heap.size w (w.alloc (.cells #[.int .i64 z0, .int .i64 z1, .int .i64 z2, .int .i64 z3, .int .i64 z4, .int .i64 z5, .bool z6, .int .i64 z7, .int .i64 z8, .int .i64 z9, .int .i64 z10, .int .i64 z11, .int .i64 z12, .int .i64 z13, .int .i64 z14, .int .i64 z15, .int .i64 z16, .int .i64 z17, .int .i64 z18, .int .i64 z19, .int .i64 z20] 32)) := (Below.refl _ _).alloc (Nat.le_refl _) _
  have hbox := BlkIs.new w 32 #[.int .i64 z0, .int .i64 z1, .int .i64 z2, .int .i64 z3, .int .i64 z4, .int .i64 z5, .bool z6, .int .i64 z7, .int .i64 z8, .int .i64 z9, .int .i64 z10, .int .i64 z11, .int .i64 z12, .int .i64 z13, .int .i64 z14, .int .i64 z15, .int .i64 z16, .int .i64 z17, .int .i64 z18, .int .i64 z19, .int .i64 z20]
  go_enter Try.func15, Try.ntmps15
  go_wp2_with fail
  refine wp_region_ms [] [2, 6] [0, 1, 4, 5, 2, 3, 6, 7, 8] (by kernel_rfl) (by kernel_rfl) rfl (by decide) (by kernel_rfl) (fun _ _ _ _ _ h => h) ?_
  simp only [marked, List.getElem?_cons_zero, List.getElem?_cons_succ, List.contains_cons, List.contains_nil, Nat.reduceBEq, Bool.or_false, Bool.or_true, BEq.rfl]
  replace hbox := hbox.drew
  replace hbel := hbel.drew
  generalize (w.alloc (.cells #[.int .i64 z0, .int .i64 z1, .int .i64 z2, .int .i64 z3, .int .i64 z4, .int .i64 z5, .bool z6, .int .i64 z7, .int .i64 z8, .int .i64 z9, .int .i64 z10, .int .i64 z11, .int .i64 z12, .int .i64 z13, .int .i64 z14, .int .i64 z15, .int .i64 z16, .int .i64 z17, .int .i64 z18, .int .i64 z19, .int .i64 z20] 32)).drew = W at *
  have hcb := hbox.cell
  have lb := hbox.lt
  iterate 4 (refine ms_quiet ?_; go_big_quiet_step (fail); refine wpQuiet_nil ?_)
  refine ms_loud rfl ?_
  intro K hK
  go_simp
  go_at_call 20
  refine (mod2_any z16 99 _ (by decide) (by decide)).mono ?_
  rintro e w' ⟨rfl, rfl⟩
  refine hK _ _ (KeptBut.refl _ _) ?_
  clear hK K
  obtain ⟨pp1, pp2⟩ := emod_bd z16 99 (by decide)
  generalize z16 % 99 = pp at *
  iterate 1 (refine ms_quiet ?_; go_big_quiet_step (fail); refine wpQuiet_nil ?_)
  refine ms_loud rfl ?_
  intro K hK
  go_simp
  go_at_call 20
  refine (mod2_any z17 2400 _ (by decide) (by decide)).mono ?_
  rintro e w' ⟨rfl, rfl⟩
  refine hK _ _ (KeptBut.refl _ _) ?_
  clear hK K
  obtain ⟨mm1, mm2⟩ := emod_bd z17 2400 (by decide)
  generalize z17 % 2400 = mm at *
  iterate 2 (refine ms_quiet ?_; go_big_quiet_step (fail); refine wpQuiet_nil ?_)
  refine ms_nil ?_
  go_wp2_with fail
  clear hcb lb
  refine (amount_any z18 _ r18.1 r18.2).mono ?_
  rintro e w' ⟨xa, rfl, xa1, xa2, rfl⟩
  have s_0 := hbel.size
  have n_0 := hbox.lt
  have b_q := BlkIs.new W 48 #[.int .i64 (1 + pp), .int .i64 mm, .int .i64 xa]
  have hA : Below W.heap.size W (W.alloc (.cells #[.int .i64 (1 + pp), .int .i64 mm, .int .i64 xa] 48)) := (Below.refl _ _).alloc (Nat.le_refl _) _
  replace hbox := hbox.below hA hbox.lt
  replace hbel := bnext hbel hA
  clear hA
  go_wp2_with fail
  refine wp_region_rg [] [⟨18, 6, 52, #[.int .i64 0, .int .i64 0, .int .i64 0, .int .i64 0, .int .i64 0, .int .i64 0], fun b => .pointer (some ⟨b, 0, none⟩)⟩] [2, 7, 11, 15, 19] [0, 1, 3, 4, 5, 6, 9, 10, 13, 14] [2, 7, 8, 11, 12, 15, 16, 17] [19] #[true, true, true, true, true, true, true, true, true, true, true, true, true, true, true, true, true, true, true, false] #[true, true, false, true, true, true, true, false, false, true, true, false, false, true, true, false, false, false, false, false] (by kernel_rfl) (by kernel_rfl) rfl (by decide) (by decide) (by decide) (by kernel_rfl) (by kernel_rfl) (by kernel_rfl) (by kernel_rfl) (by kernel_rfl) (by kernel_rfl) (by kernel_rfl) (fun _ _ _ _ _ h => h) (fun _ _ _ _ _ h => h) (by simp) ?_
  simp only [picked, marked, List.getElem?_cons_zero, List.getElem?_cons_succ, List.contains_cons, List.contains_nil, Nat.reduceBEq, Bool.or_false, Bool.or_true, BEq.rfl]
  have n_hbox := hbox.lt
  try simp at n_hbox
  have n_b_q := b_q.lt
  try simp at n_b_q
  have s_W2 := hbel.size
  try simp at s_W2
  replace hbox := hbox.drew
  replace b_q := b_q.drew
  replace hbel := hbel.drew
  generalize (W.alloc (.cells #[.int .i64 (1 + pp), .int .i64 mm, .int .i64 xa] 48)).drew = W2 at *
  have hcb := hbox.cell
  have lb := hbox.lt
  repeat (refine pre_quiet ?_; go_big_quiet_step (fail); refine wpQuiet_nil ?_)
  refine pre_nil ⟨?_, ?_⟩
  · intro x hx o ho w3
    simp only [List.mem_cons, List.not_mem_nil, or_false] at hx
    subst hx
    simp at ho
    subst ho
    go_simp
  clear hcb lb
  refine rs_loud rfl ?_
  intro V1 hV K hK
  replace hbox := hbox.below hV hbox.lt
  replace b_q := b_q.below hV b_q.lt
  replace hbel := bnext hbel hV
  clear hV
  go_simp
  go_at_call 20
  refine (mod2_any z20 6 _ (by decide) (by decide)).mono ?_
  rintro e w' ⟨rfl, rfl⟩
  refine hK _ _ (KeptBut.refl _ _) ?_
  clear hK K
  obtain ⟨tt1, tt2⟩ := emod_bd z20 6 (by decide)
  generalize z20 % 6 = tt at *
  refine rs_loud rfl ?_
  intro V2 hV K hK
  replace hbox := hbox.below hV hbox.lt
  replace b_q := b_q.below hV b_q.lt
  replace hbel := bnext hbel hV
  clear hV
  go_simp
  go_at_call 20
  refine (mod2_any z1 999 _ (by decide) (by decide)).mono ?_
  rintro e w' ⟨rfl, rfl⟩
  refine hK _ _ (KeptBut.refl _ _) ?_
  clear hK K
  obtain ⟨nn1, nn2⟩ := emod_bd z1 999 (by decide)
  generalize z1 % 999 = nn at *
  repeat (refine rs_quiet ?_; go_big_quiet_step (fail); refine wpQuiet_nil ?_)
  refine rs_loud rfl ?_
  intro V3 hV K hK
  replace hbox := hbox.below hV hbox.lt
  replace b_q := b_q.below hV b_q.lt
  replace hbel := bnext hbel hV
  clear hV
  go_simp
  go_at_call 47
  refine (amount_any z18 _ r18.1 r18.2).mono ?_
  rintro e w' ⟨y3, rfl, y31, y32, rfl⟩
  refine hK _ _ (KeptBut.refl _ _) ?_
  clear hK K
  repeat (refine rs_quiet ?_; go_big_quiet_step (fail); refine wpQuiet_nil ?_)
  refine rs_loud rfl ?_
  intro V4 hV K hK
  replace hbox := hbox.below hV hbox.lt
  replace b_q := b_q.below hV b_q.lt
  replace hbel := bnext hbel hV
  clear hV
  go_simp
  go_at_call 47
  refine (amount_any z19 _ r19.1 r19.2).mono ?_
  rintro e w' ⟨y4, rfl, y41, y42, rfl⟩
  refine hK _ _ (KeptBut.refl _ _) ?_
  clear hK K
  repeat (refine rs_quiet ?_; go_big_quiet_step (fail); refine wpQuiet_nil ?_)
  have m_x3 : 1 ≤ (if 1 < y3 then y3 else 1) ∧ (if 1 < y3 then y3 else 1) ≤ 1000000000000 := by split <;> omega
  generalize (if 1 < y3 then y3 else 1) = x3 at *
  have m_x4 : 1 ≤ (if 1 < y4 then y4 else 1) ∧ (if 1 < y4 then y4 else 1) ≤ 1000000000000 := by split <;> omega
  generalize (if 1 < y4 then y4 else 1) = x4 at *
  refine rs_nil ?_
  intro V5 hV sx hs1 hs2 hM
  replace hbox := hbox.below hV hbox.lt
  replace b_q := b_q.below hV b_q.lt
  replace hbel := bnext hbel hV
  clear hV
  obtain ⟨g_remittance, rfl, hg_remittance, b_s⟩ := mde1 hs1 hs2 hM
  clear hs1 hs2 hM
  try simp at hg_remittance
  have hcf := b_s.cell
  have hff := b_s.frozen
  simp only [msets]
  refine ⟨[g_remittance], ?_⟩
  refine ms_loud rfl ?_
  intro K hK
  go_simp
  refine hK _ _ (remittance_but V5 g_remittance tt (1 + pp) mm (1 + nn) x3 x4) ?_
  clear hK K hcf hff
  replace hbox : BlkIs ((((((V5.setCell ⟨g_remittance, 0, none⟩ (.int .i64 tt)).setCell ⟨g_remittance, 1, none⟩ (.int .i64 (1 + pp))).setCell ⟨g_remittance, 2, none⟩ (.int .i64 mm)).setCell ⟨g_remittance, 3, none⟩ (.int .i64 (1 + nn))).setCell ⟨g_remittance, 4, none⟩ (.int .i64 x3)).setCell ⟨g_remittance, 5, none⟩ (.int .i64 x4)) _ _ _ := (remittance_blk (by omega) tt (1 + pp) mm (1 + nn) x3 x4).trans hbox
  replace b_q : BlkIs ((((((V5.setCell ⟨g_remittance, 0, none⟩ (.int .i64 tt)).setCell ⟨g_remittance, 1, none⟩ (.int .i64 (1 + pp))).setCell ⟨g_remittance, 2, none⟩ (.int .i64 mm)).setCell ⟨g_remittance, 3, none⟩ (.int .i64 (1 + nn))).setCell ⟨g_remittance, 4, none⟩ (.int .i64 x3)).setCell ⟨g_remittance, 5, none⟩ (.int .i64 x4)) _ _ _ := (remittance_blk (by omega) tt (1 + pp) mm (1 + nn) x3 x4).trans b_q
  replace b_s := remittance_put rfl b_s tt (1 + pp) mm (1 + nn) x3 x4
  replace hbel := remittance_far (g := g_remittance) hbel (by omega) tt (1 + pp) mm (1 + nn) x3 x4
  generalize ((((((V5.setCell ⟨g_remittance, 0, none⟩ (.int .i64 tt)).setCell ⟨g_remittance, 1, none⟩ (.int .i64 (1 + pp))).setCell ⟨g_remittance, 2, none⟩ (.int .i64 mm)).setCell ⟨g_remittance, 3, none⟩ (.int .i64 (1 + nn))).setCell ⟨g_remittance, 4, none⟩ (.int .i64 x3)).setCell ⟨g_remittance, 5, none⟩ (.int .i64 x4)) = W2_e at *
  refine ms_nil ?_
  go_wp2_with fail
  refine wp_region_rg [] [⟨13, 7, 56, #[.int .i64 0, .int .i64 0, .int .i64 0, .int .i64 0], fun b => .pointer (some ⟨b, 0, none⟩)⟩] [4, 7, 10, 14] [0, 1, 2, 3, 5, 6, 8, 9] [4, 7, 10, 11, 12] [14] #[true, true, true, true, true, true, true, true, true, true, true, true, true, true, false] #[true, true, true, true, false, true, true, false, true, true, false, false, false, false, false] (by kernel_rfl) (by kernel_rfl) rfl (by decide) (by decide) (by decide) (by kernel_rfl) (by kernel_rfl) (by kernel_rfl) (by kernel_rfl) (by kernel_rfl) (by kernel_rfl) (by kernel_rfl) (fun _ _ _ _ _ h => h) (fun _ _ _ _ _ h => h) (by simp) ?_
  simp only [picked, marked, List.getElem?_cons_zero, List.getElem?_cons_succ, List.contains_cons, List.contains_nil, Nat.reduceBEq, Bool.or_false, Bool.or_true, BEq.rfl]
  have n_hbox := hbox.lt
  try simp at n_hbox
  have n_b_q := b_q.lt
  try simp at n_b_q
  have n_b_s := b_s.lt
  try simp at n_b_s
  have s_W3 := hbel.size
  try simp at s_W3
  replace hbox := hbox.drew
  replace b_q := b_q.drew
  replace b_s := b_s.drew
  replace hbel := hbel.drew
  generalize W2_e.drew = W3 at *
  have hcb := hbox.cell
  have lb := hbox.lt
  repeat (refine pre_quiet ?_; go_big_quiet_step (fail); refine wpQuiet_nil ?_)
  refine pre_nil ⟨?_, ?_⟩
  · intro x hx o ho w3
    simp only [List.mem_cons, List.not_mem_nil, or_false] at hx
    subst hx
    simp at ho
    subst ho
    go_simp
  clear hcb lb
  refine rs_loud rfl ?_
  intro V6 hV K hK
  replace hbox := hbox.below hV hbox.lt
  replace b_q := b_q.below hV b_q.lt
  replace b_s := b_s.below hV b_s.lt
  replace hbel := bnext hbel hV
  clear hV
  go_simp
  go_at_call 47
  refine (amount_any z18 _ r18.1 r18.2).mono ?_
  rintro e w' ⟨ya, rfl, ya1, ya2, rfl⟩
  refine hK _ _ (KeptBut.refl _ _) ?_
  clear hK K
  refine rs_loud rfl ?_
  intro V7 hV K hK
  replace hbox := hbox.below hV hbox.lt
  replace b_q := b_q.below hV b_q.lt
  replace b_s := b_s.below hV b_s.lt
  replace hbel := bnext hbel hV
  clear hV
  go_simp
  go_at_call 47
  refine (amount_any z19 _ r19.1 r19.2).mono ?_
  rintro e w' ⟨yb, rfl, yb1, yb2, rfl⟩
  refine hK _ _ (KeptBut.refl _ _) ?_
  clear hK K
  refine rs_loud rfl ?_
  intro V8 hV K hK
  replace hbox := hbox.below hV hbox.lt
  replace b_q := b_q.below hV b_q.lt
  replace b_s := b_s.below hV b_s.lt
  replace hbel := bnext hbel hV
  clear hV
  go_simp
  go_at_call 47
  refine (amount_any z20 _ r20.1 r20.2).mono ?_
  rintro e w' ⟨yc, rfl, yc1, yc2, rfl⟩
  refine hK _ _ (KeptBut.refl _ _) ?_
  clear hK K
  repeat (refine rs_quiet ?_; go_big_quiet_step (fail); refine wpQuiet_nil ?_)
  refine rs_nil ?_
  intro V9 hV sx hs1 hs2 hM
  replace hbox := hbox.below hV hbox.lt
  replace b_q := b_q.below hV b_q.lt
  replace b_s := b_s.below hV b_s.lt
  replace hbel := bnext hbel hV
  clear hV
  obtain ⟨g_notice, rfl, hg_notice, b_n⟩ := mde1 hs1 hs2 hM
  clear hs1 hs2 hM
  try simp at hg_notice
  have hcf := b_n.cell
  have hff := b_n.frozen
  simp only [msets]
  refine ⟨[g_notice], ?_⟩
  refine ms_loud rfl ?_
  intro K hK
  go_simp
  refine hK _ _ (notice_but V9 g_notice (1 + pp) mm ya (yb - yc)) ?_
  clear hK K hcf hff
  replace hbox : BlkIs ((((V9.setCell ⟨g_notice, 0, none⟩ (.int .i64 (1 + pp))).setCell ⟨g_notice, 1, none⟩ (.int .i64 mm)).setCell ⟨g_notice, 2, none⟩ (.int .i64 ya)).setCell ⟨g_notice, 3, none⟩ (.int .i64 (yb - yc))) _ _ _ := (notice_blk (by omega) (1 + pp) mm ya (yb - yc)).trans hbox
  replace b_q : BlkIs ((((V9.setCell ⟨g_notice, 0, none⟩ (.int .i64 (1 + pp))).setCell ⟨g_notice, 1, none⟩ (.int .i64 mm)).setCell ⟨g_notice, 2, none⟩ (.int .i64 ya)).setCell ⟨g_notice, 3, none⟩ (.int .i64 (yb - yc))) _ _ _ := (notice_blk (by omega) (1 + pp) mm ya (yb - yc)).trans b_q
  replace b_s : BlkIs ((((V9.setCell ⟨g_notice, 0, none⟩ (.int .i64 (1 + pp))).setCell ⟨g_notice, 1, none⟩ (.int .i64 mm)).setCell ⟨g_notice, 2, none⟩ (.int .i64 ya)).setCell ⟨g_notice, 3, none⟩ (.int .i64 (yb - yc))) _ _ _ := (notice_blk (by omega) (1 + pp) mm ya (yb - yc)).trans b_s
  replace b_n := notice_put rfl b_n (1 + pp) mm ya (yb - yc)
  replace hbel := notice_far (g := g_notice) hbel (by omega) (1 + pp) mm ya (yb - yc)
  generalize ((((V9.setCell ⟨g_notice, 0, none⟩ (.int .i64 (1 + pp))).setCell ⟨g_notice, 1, none⟩ (.int .i64 mm)).setCell ⟨g_notice, 2, none⟩ (.int .i64 ya)).setCell ⟨g_notice, 3, none⟩ (.int .i64 (yb - yc))) = W3_e at *
  refine ms_nil ?_
  clear hbox
  try clear n_0
  try clear s_0
  try clear n_hbox
  try clear n_b_q
  try clear n_b_s
  try clear s_W2
  try clear s_W3
  have E0 : Hid (∀ (i0 i1 i2 : Int) (w : World), (Op.equalIn 10000 48 (.agg #[.int .i64 i0, .int .i64 i1, .int .i64 i2]) (.agg #[.int .i64 i0, .int .i64 i1, .int .i64 i2])).run Try.prog w = .ok true w) := eqr_request
  have hB : requestB (1 + pp) mm xa = true := by
    simp only [requestB, btw, Bool.and_eq_true, decide_eq_true_eq]
    omega
  obtain ⟨Lq, h1, h2, h3⟩ : ∃ L : List UInt8, requestO (1 + pp) mm xa = L ∧ L.length = 8 ∧ requestOk L = true ∧ requestI0 L = (1 + pp) ∧ requestI1 L = mm ∧ requestI2 L = xa := ⟨requestL (1 + pp) mm xa, by simp [requestO, hB], requestL_len (1 + pp) mm xa, request_back hB⟩
  have HBq := Lib.hid hB
  have HOq := Lib.hid h1
  have HLq := Lib.hid h2
  have HKq := Lib.hid h3
  clear hB h1 h2 h3
  have E1 : Hid (∀ (i0 i1 i2 i3 i4 i5 : Int) (w : World), (Op.equalIn 10000 52 (.agg #[.int .i64 i0, .int .i64 i1, .int .i64 i2, .int .i64 i3, .int .i64 i4, .int .i64 i5]) (.agg #[.int .i64 i0, .int .i64 i1, .int .i64 i2, .int .i64 i3, .int .i64 i4, .int .i64 i5])).run Try.prog w = .ok true w) := eqr_remittance
  have hB : remittanceB tt (1 + pp) mm (1 + nn) x3 x4 = true := by
    simp only [remittanceB, btw, Bool.and_eq_true, decide_eq_true_eq]
    omega
  obtain ⟨Ls, h1, h2, h3⟩ : ∃ L : List UInt8, remittanceO tt (1 + pp) mm (1 + nn) x3 x4 = L ∧ L.length = 16 ∧ remittanceOk L = true ∧ remittanceI0 L = tt ∧ remittanceI1 L = (1 + pp) ∧ remittanceI2 L = mm ∧ remittanceI3 L = (1 + nn) ∧ remittanceI4 L = x3 ∧ remittanceI5 L = x4 := ⟨remittanceL tt (1 + pp) mm (1 + nn) x3 x4, by simp [remittanceO, hB], remittanceL_len tt (1 + pp) mm (1 + nn) x3 x4, remittance_back hB⟩
  have HBs := Lib.hid hB
  have HOs := Lib.hid h1
  have HLs := Lib.hid h2
  have HKs := Lib.hid h3
  clear hB h1 h2 h3
  have E2 : Hid (∀ (i0 i1 i2 i3 : Int) (w : World), (Op.equalIn 10000 56 (.agg #[.int .i64 i0, .int .i64 i1, .int .i64 i2, .int .i64 i3]) (.agg #[.int .i64 i0, .int .i64 i1, .int .i64 i2, .int .i64 i3])).run Try.prog w = .ok true w) := eqr_notice
  have hB : noticeB (1 + pp) mm ya (yb - yc) = true := by
    simp only [noticeB, btw, Bool.and_eq_true, decide_eq_true_eq]
    omega
  obtain ⟨Ln, h1, h2, h3⟩ : ∃ L : List UInt8, noticeO (1 + pp) mm ya (yb - yc) = L ∧ L.length = 14 ∧ noticeOk L = true ∧ noticeI0 L = (1 + pp) ∧ noticeI1 L = mm ∧ noticeI2 L = ya ∧ noticeI3 L = (yb - yc) := ⟨noticeL (1 + pp) mm ya (yb - yc), by simp [noticeO, hB], noticeL_len (1 + pp) mm ya (yb - yc), notice_back hB⟩
  have HBn := Lib.hid hB
  have HOn := Lib.hid h1
  have HLn := Lib.hid h2
  have HKn := Lib.hid h3
  clear hB h1 h2 h3
  have c_b_q := b_q.cell
  have c_b_s := b_s.cell
  have c_b_n := b_n.cell
  go_wp2_with fail
  clear c_b_q
  clear c_b_s
  clear c_b_n
  refine (ofrequest_any (1 + pp) mm xa _).mono ?_
  rintro e w_q ⟨v_q, rfl, ho_q, hb⟩
  rw [HBq.out]
  rw [HOq.out] at ho_q
  obtain ⟨a_q, k_q, hv_q⟩ := own_len ho_q
  subst hv_q
  replace b_q := b_q.below hb b_q.lt
  replace b_s := b_s.below hb b_s.lt
  replace b_n := b_n.below hb b_n.lt
  replace hbel := bnext hbel hb
  clear hb
  have xq_10 := Lib.hid (Part1.of ho_q)
  clear ho_q
  have c_b_q := b_q.cell
  have c_b_s := b_s.cell
  have c_b_n := b_n.cell
  go_wp2_with fail
  clear c_b_q
  clear c_b_s
  clear c_b_n
  refine (ofremittance_any tt (1 + pp) mm (1 + nn) x3 x4 _).mono ?_
  rintro e w_s ⟨v_s, rfl, ho_s, hb⟩
  rw [HBs.out]
  rw [HOs.out] at ho_s
  obtain ⟨a_s, k_s, hv_s⟩ := own_len ho_s
  subst hv_s
  replace b_q := b_q.below hb b_q.lt
  replace b_s := b_s.below hb b_s.lt
  replace b_n := b_n.below hb b_n.lt
  replace hbel := bnext hbel hb
  have xq_11 := Lib.hid (xq_10.out.next hb)
  clear xq_10
  clear hb
  have xs_12 := Lib.hid (Part1.of ho_s)
  clear ho_s
  have c_b_q := b_q.cell
  have c_b_s := b_s.cell
  have c_b_n := b_n.cell
  go_wp2_with fail
  clear c_b_q
  clear c_b_s
  clear c_b_n
  refine (ofnotice_any (1 + pp) mm ya (yb - yc) _).mono ?_
  rintro e w_n ⟨v_n, rfl, ho_n, hb⟩
  rw [HBn.out]
  rw [HOn.out] at ho_n
  obtain ⟨a_n, k_n, hv_n⟩ := own_len ho_n
  subst hv_n
  replace b_q := b_q.below hb b_q.lt
  replace b_s := b_s.below hb b_s.lt
  replace b_n := b_n.below hb b_n.lt
  replace hbel := bnext hbel hb
  have xq_13 := Lib.hid (xq_11.out.next hb)
  clear xq_11
  have xs_14 := Lib.hid (xs_12.out.next hb)
  clear xs_12
  clear hb
  have xn_15 := Lib.hid (Part1.of ho_n)
  clear ho_n
  have c_b_q := b_q.cell
  have c_b_s := b_s.cell
  have c_b_n := b_n.cell
  go_wp2_with fail
  clear c_b_q
  clear c_b_s
  clear c_b_n
  refine (takeRequest_any _ Lq _ xq_13.out.1).mono ?_
  rintro e v_q ⟨rfl, hb⟩
  obtain ⟨h0, h1, h2, h3⟩ := HKq.out
  rw [h0, h1, h2, h3]
  clear h0 h1 h2 h3
  replace b_q := b_q.below hb b_q.lt
  replace b_s := b_s.below hb b_s.lt
  replace b_n := b_n.below hb b_n.lt
  replace hbel := bnext hbel hb
  have xq_16 := Lib.hid (xq_13.out.next hb)
  clear xq_13
  have xs_17 := Lib.hid (xs_14.out.next hb)
  clear xs_14
  have xn_18 := Lib.hid (xn_15.out.next hb)
  clear xn_15
  clear hb
  have d_q := BlkIs.new v_q 48 #[.int .i64 (1 + pp), .int .i64 mm, .int .i64 xa]
  have hA : Below v_q.heap.size v_q (v_q.alloc (.cells #[.int .i64 (1 + pp), .int .i64 mm, .int .i64 xa] 48)) := (Below.refl _ _).alloc (Nat.le_refl _) _
  replace b_q := b_q.below hA b_q.lt
  replace b_s := b_s.below hA b_s.lt
  replace b_n := b_n.below hA b_n.lt
  replace hbel := bnext hbel hA
  have xq_19 := Lib.hid (xq_16.out.next hA)
  clear xq_16
  have xs_20 := Lib.hid (xs_17.out.next hA)
  clear xs_17
  have xn_21 := Lib.hid (xn_18.out.next hA)
  clear xn_18
  clear hA
  have c_b_q := b_q.cell
  have c_b_s := b_s.cell
  have c_b_n := b_n.cell
  have c_d_q := d_q.cell
  go_wp2_with fail
  clear c_b_q
  clear c_b_s
  clear c_b_n
  clear c_d_q
  refine (takeRemittance_any _ Ls _ xs_20.out.1).mono ?_
  rintro e v_s ⟨rfl, hb⟩
  obtain ⟨h0, h1, h2, h3, h4, h5, h6⟩ := HKs.out
  rw [h0, h1, h2, h3, h4, h5, h6]
  clear h0 h1 h2 h3 h4 h5 h6
  replace b_q := b_q.below hb b_q.lt
  replace b_s := b_s.below hb b_s.lt
  replace b_n := b_n.below hb b_n.lt
  replace d_q := d_q.below hb d_q.lt
  replace hbel := bnext hbel hb
  have xq_22 := Lib.hid (xq_19.out.next hb)
  clear xq_19
  have xs_23 := Lib.hid (xs_20.out.next hb)
  clear xs_20
  have xn_24 := Lib.hid (xn_21.out.next hb)
  clear xn_21
  clear hb
  have d_s := BlkIs.new v_s 52 #[.int .i64 tt, .int .i64 (1 + pp), .int .i64 mm, .int .i64 (1 + nn), .int .i64 x3, .int .i64 x4]
  have hA : Below v_s.heap.size v_s (v_s.alloc (.cells #[.int .i64 tt, .int .i64 (1 + pp), .int .i64 mm, .int .i64 (1 + nn), .int .i64 x3, .int .i64 x4] 52)) := (Below.refl _ _).alloc (Nat.le_refl _) _
  replace b_q := b_q.below hA b_q.lt
  replace b_s := b_s.below hA b_s.lt
  replace b_n := b_n.below hA b_n.lt
  replace d_q := d_q.below hA d_q.lt
  replace hbel := bnext hbel hA
  have xq_25 := Lib.hid (xq_22.out.next hA)
  clear xq_22
  have xs_26 := Lib.hid (xs_23.out.next hA)
  clear xs_23
  have xn_27 := Lib.hid (xn_24.out.next hA)
  clear xn_24
  clear hA
  have c_b_q := b_q.cell
  have c_b_s := b_s.cell
  have c_b_n := b_n.cell
  have c_d_q := d_q.cell
  have c_d_s := d_s.cell
  go_wp2_with fail
  clear c_b_q
  clear c_b_s
  clear c_b_n
  clear c_d_q
  clear c_d_s
  refine (takeNotice_any _ Ln _ xn_27.out.1).mono ?_
  rintro e v_n ⟨rfl, hb⟩
  obtain ⟨h0, h1, h2, h3, h4⟩ := HKn.out
  rw [h0, h1, h2, h3, h4]
  clear h0 h1 h2 h3 h4
  replace b_q := b_q.below hb b_q.lt
  replace b_s := b_s.below hb b_s.lt
  replace b_n := b_n.below hb b_n.lt
  replace d_q := d_q.below hb d_q.lt
  replace d_s := d_s.below hb d_s.lt
  replace hbel := bnext hbel hb
  have xq_28 := Lib.hid (xq_25.out.next hb)
  clear xq_25
  have xs_29 := Lib.hid (xs_26.out.next hb)
  clear xs_26
  have xn_30 := Lib.hid (xn_27.out.next hb)
  clear xn_27
  clear hb
  have d_n := BlkIs.new v_n 56 #[.int .i64 (1 + pp), .int .i64 mm, .int .i64 ya, .int .i64 (yb - yc)]
  have hA : Below v_n.heap.size v_n (v_n.alloc (.cells #[.int .i64 (1 + pp), .int .i64 mm, .int .i64 ya, .int .i64 (yb - yc)] 56)) := (Below.refl _ _).alloc (Nat.le_refl _) _
  replace b_q := b_q.below hA b_q.lt
  replace b_s := b_s.below hA b_s.lt
  replace b_n := b_n.below hA b_n.lt
  replace d_q := d_q.below hA d_q.lt
  replace d_s := d_s.below hA d_s.lt
  replace hbel := bnext hbel hA
  have xq_31 := Lib.hid (xq_28.out.next hA)
  clear xq_28
  have xs_32 := Lib.hid (xs_29.out.next hA)
  clear xs_29
  have xn_33 := Lib.hid (xn_30.out.next hA)
  clear xn_30
  clear hA
  have c_b_q := b_q.cell
  have c_b_s := b_s.cell
  have c_b_n := b_n.cell
  have c_d_q := d_q.cell
  have c_d_s := d_s.cell
  have c_d_n := d_n.cell
  go_wp2_with fail
  clear c_b_q
  clear c_b_s
  clear c_b_n
  clear c_d_q
  clear c_d_s
  clear c_d_n
  refine (takeRequest_any _ Ls _ xs_32.out.1).mono ?_
  rintro e u_q ⟨rfl, hb⟩
  rw [request_short (l := Ls) (by rw [HLs.out]; decide)]
  generalize requestI0 Ls = jq0 at *
  generalize requestI1 Ls = jq1 at *
  generalize requestI2 Ls = jq2 at *
  replace b_q := b_q.below hb b_q.lt
  replace b_s := b_s.below hb b_s.lt
  replace b_n := b_n.below hb b_n.lt
  replace d_q := d_q.below hb d_q.lt
  replace d_s := d_s.below hb d_s.lt
  replace d_n := d_n.below hb d_n.lt
  replace hbel := bnext hbel hb
  have xq_34 := Lib.hid (xq_31.out.next hb)
  clear xq_31
  have xs_35 := Lib.hid (xs_32.out.next hb)
  clear xs_32
  have xn_36 := Lib.hid (xn_33.out.next hb)
  clear xn_33
  clear hb
  have f_q := BlkIs.new u_q 48 #[.int .i64 jq0, .int .i64 jq1, .int .i64 jq2]
  have hA : Below u_q.heap.size u_q (u_q.alloc (.cells #[.int .i64 jq0, .int .i64 jq1, .int .i64 jq2] 48)) := (Below.refl _ _).alloc (Nat.le_refl _) _
  replace b_q := b_q.below hA b_q.lt
  replace b_s := b_s.below hA b_s.lt
  replace b_n := b_n.below hA b_n.lt
  replace d_q := d_q.below hA d_q.lt
  replace d_s := d_s.below hA d_s.lt
  replace d_n := d_n.below hA d_n.lt
  replace hbel := bnext hbel hA
  have xq_37 := Lib.hid (xq_34.out.next hA)
  clear xq_34
  have xs_38 := Lib.hid (xs_35.out.next hA)
  clear xs_35
  have xn_39 := Lib.hid (xn_36.out.next hA)
  clear xn_36
  clear hA
  have c_b_q := b_q.cell
  have c_b_s := b_s.cell
  have c_b_n := b_n.cell
  have c_d_q := d_q.cell
  have c_d_s := d_s.cell
  have c_d_n := d_n.cell
  have c_f_q := f_q.cell
  go_wp2_with fail
  clear c_b_q
  clear c_b_s
  clear c_b_n
  clear c_d_q
  clear c_d_s
  clear c_d_n
  clear c_f_q
  refine (takeRemittance_any _ Ln _ xn_39.out.1).mono ?_
  rintro e u_s ⟨rfl, hb⟩
  rw [remittance_short (l := Ln) (by rw [HLn.out]; decide)]
  generalize remittanceI0 Ln = js0 at *
  generalize remittanceI1 Ln = js1 at *
  generalize remittanceI2 Ln = js2 at *
  generalize remittanceI3 Ln = js3 at *
  generalize remittanceI4 Ln = js4 at *
  generalize remittanceI5 Ln = js5 at *
  replace b_q := b_q.below hb b_q.lt
  replace b_s := b_s.below hb b_s.lt
  replace b_n := b_n.below hb b_n.lt
  replace d_q := d_q.below hb d_q.lt
  replace d_s := d_s.below hb d_s.lt
  replace d_n := d_n.below hb d_n.lt
  replace f_q := f_q.below hb f_q.lt
  replace hbel := bnext hbel hb
  have xq_40 := Lib.hid (xq_37.out.next hb)
  clear xq_37
  have xs_41 := Lib.hid (xs_38.out.next hb)
  clear xs_38
  have xn_42 := Lib.hid (xn_39.out.next hb)
  clear xn_39
  clear hb
  have f_s := BlkIs.new u_s 52 #[.int .i64 js0, .int .i64 js1, .int .i64 js2, .int .i64 js3, .int .i64 js4, .int .i64 js5]
  have hA : Below u_s.heap.size u_s (u_s.alloc (.cells #[.int .i64 js0, .int .i64 js1, .int .i64 js2, .int .i64 js3, .int .i64 js4, .int .i64 js5] 52)) := (Below.refl _ _).alloc (Nat.le_refl _) _
  replace b_q := b_q.below hA b_q.lt
  replace b_s := b_s.below hA b_s.lt
  replace b_n := b_n.below hA b_n.lt
  replace d_q := d_q.below hA d_q.lt
  replace d_s := d_s.below hA d_s.lt
  replace d_n := d_n.below hA d_n.lt
  replace f_q := f_q.below hA f_q.lt
  replace hbel := bnext hbel hA
  have xq_43 := Lib.hid (xq_40.out.next hA)
  clear xq_40
  have xs_44 := Lib.hid (xs_41.out.next hA)
  clear xs_41
  have xn_45 := Lib.hid (xn_42.out.next hA)
  clear xn_42
  clear hA
  have c_b_q := b_q.cell
  have c_b_s := b_s.cell
  have c_b_n := b_n.cell
  have c_d_q := d_q.cell
  have c_d_s := d_s.cell
  have c_d_n := d_n.cell
  have c_f_q := f_q.cell
  have c_f_s := f_s.cell
  go_wp2_with fail
  clear c_b_q
  clear c_b_s
  clear c_b_n
  clear c_d_q
  clear c_d_s
  clear c_d_n
  clear c_f_q
  clear c_f_s
  refine (takeNotice_any _ Lq _ xq_43.out.1).mono ?_
  rintro e u_n ⟨rfl, hb⟩
  rw [notice_short (l := Lq) (by rw [HLq.out]; decide)]
  generalize noticeI0 Lq = jn0 at *
  generalize noticeI1 Lq = jn1 at *
  generalize noticeI2 Lq = jn2 at *
  generalize noticeI3 Lq = jn3 at *
  replace b_q := b_q.below hb b_q.lt
  replace b_s := b_s.below hb b_s.lt
  replace b_n := b_n.below hb b_n.lt
  replace d_q := d_q.below hb d_q.lt
  replace d_s := d_s.below hb d_s.lt
  replace d_n := d_n.below hb d_n.lt
  replace f_q := f_q.below hb f_q.lt
  replace f_s := f_s.below hb f_s.lt
  replace hbel := bnext hbel hb
  have xq_46 := Lib.hid (xq_43.out.next hb)
  clear xq_43
  have xs_47 := Lib.hid (xs_44.out.next hb)
  clear xs_44
  have xn_48 := Lib.hid (xn_45.out.next hb)
  clear xn_45
  clear hb
  have f_n := BlkIs.new u_n 56 #[.int .i64 jn0, .int .i64 jn1, .int .i64 jn2, .int .i64 jn3]
  have hA : Below u_n.heap.size u_n (u_n.alloc (.cells #[.int .i64 jn0, .int .i64 jn1, .int .i64 jn2, .int .i64 jn3] 56)) := (Below.refl _ _).alloc (Nat.le_refl _) _
  replace b_q := b_q.below hA b_q.lt
  replace b_s := b_s.below hA b_s.lt
  replace b_n := b_n.below hA b_n.lt
  replace d_q := d_q.below hA d_q.lt
  replace d_s := d_s.below hA d_s.lt
  replace d_n := d_n.below hA d_n.lt
  replace f_q := f_q.below hA f_q.lt
  replace f_s := f_s.below hA f_s.lt
  replace hbel := bnext hbel hA
  have xq_49 := Lib.hid (xq_46.out.next hA)
  clear xq_46
  have xs_50 := Lib.hid (xs_47.out.next hA)
  clear xs_47
  have xn_51 := Lib.hid (xn_48.out.next hA)
  clear xn_48
  clear hA
  have c_b_q := b_q.cell
  have c_b_s := b_s.cell
  have c_b_n := b_n.cell
  have c_d_q := d_q.cell
  have c_d_s := d_s.cell
  have c_d_n := d_n.cell
  have c_f_q := f_q.cell
  have c_f_s := f_s.cell
  have c_f_n := f_n.cell
  go_wp2_with fail
  clear c_b_q
  clear c_b_s
  clear c_b_n
  clear c_d_q
  clear c_d_s
  clear c_d_n
  clear c_f_q
  clear c_f_s
  clear c_f_n
  refine (awake_any _).mono ?_
  rintro e w_a ⟨rfl, hb⟩
  replace b_q := b_q.below hb b_q.lt
  replace b_s := b_s.below hb b_s.lt
  replace b_n := b_n.below hb b_n.lt
  replace d_q := d_q.below hb d_q.lt
  replace d_s := d_s.below hb d_s.lt
  replace d_n := d_n.below hb d_n.lt
  replace f_q := f_q.below hb f_q.lt
  replace f_s := f_s.below hb f_s.lt
  replace f_n := f_n.below hb f_n.lt
  replace hbel := bnext hbel hb
  have xq_52 := Lib.hid (xq_49.out.next hb)
  clear xq_49
  have xs_53 := Lib.hid (xs_50.out.next hb)
  clear xs_50
  have xn_54 := Lib.hid (xn_51.out.next hb)
  clear xn_51
  clear hb
  have c_b_q := b_q.cell
  have c_b_s := b_s.cell
  have c_b_n := b_n.cell
  have c_d_q := d_q.cell
  have c_d_s := d_s.cell
  have c_d_n := d_n.cell
  have c_f_q := f_q.cell
  have c_f_s := f_s.cell
  have c_f_n := f_n.cell
  have e0 := E0.out (1 + pp) mm xa
  have e1 := E1.out tt (1 + pp) mm (1 + nn) x3 x4
  have e2 := E2.out (1 + pp) mm ya (yb - yc)
  go_wp2
  go_ret
  exact ⟨rfl, hbel⟩

set_option maxRecDepth 100000 in
theorem lmr_lifted (os : Os) (started : os.Started) (H : Type) (enc : TypeId × Value → H) :
    ReturnsInHanded {} Try.checked os 15 .any (Rows.documentMoneyRoundTripSpec.pre6 enc Try.prog Try.f15 Rows.documentMoneyRoundTripRow.domain false) (Rows.documentMoneyRoundTripSpec.post enc Try.prog Try.f15 false true false false) := by
  refine returnsInHanded_of_change_sized (C := Try.checked) own_knob started (by kernel_rfl) Try.func15
    (ChangeSpec.witness6 (enc := enc) (C := Try.checked) false ⟨#[], #[.agg #[.int .i64 0, .int .i64 0, .int .i64 0, .int .i64 0, .int .i64 0, .int .i64 0, .bool false, .int .i64 0, .int .i64 0, .int .i64 0, .int .i64 0, .int .i64 0, .int .i64 0, .int .i64 0, .int .i64 0, .int .i64 0, .int .i64 0, .int .i64 0, .int .i64 0, .int .i64 0, .int .i64 0]], []⟩ 8 (by kernel_rfl) (by kernel_rfl) (by kernel_rfl) (by kernel_rfl)) ?_
  intro W base args ds gs before hval0 hW hcnd hsz0 _
  have hval : ∀ (j : Nat) t v, Try.f15.params[j]? = some t → args[j]? = some v → Value.okWide Try.prog W .any base t v := hval0
  have hsz : (DataW.weightsEach Try.prog (Try.f15.params.toList ++ Rows.documentMoneyRoundTripSpec.plain.varTypes Try.prog) (ds ++ gs)).all (· ≤ reachBytes) = true := hsz0
  have hW' := hW
  obtain ⟨p, q, hA0, hV, rfl, hfz, hnd⟩ := hW
  have hA : DataW.TrodAll enc Try.prog W 0 (fun _ => true) true Try.f15.params.toList args.toList ds p := hA0
  rw [Try.params15] at hA hval hsz
  obtain ⟨v0, vs0, d0, ds0, p0, q0, hargs, rfl, rfl, h0, tl0⟩ := trodAll_cons hA
  obtain ⟨rfl, rfl, rfl⟩ := trodAll_nil tl0
  obtain rfl : args = #[v0] := by cases args; simp_all
  obtain ⟨rfl, rfl⟩ := trodVars_none hV
  have k0 := h0
  have lt0 : ∀ x ∈ p0, x.block < W.heap.size := by obtain ⟨m, hm⟩ := k0; exact DataW.trod_lt m _ _ _ hm
  obtain ⟨z0, z1, z2, z3, z4, z5, z6, z7, z8, z9, z10, z11, z12, z13, z14, z15, z16, z17, z18, z19, z20, rfl, u0, u1, u2, u3, u4, u5, u7, u8, u9, u10, u11, u12, u13, u14, u15, u16, u17, u18, u19, u20⟩ := open_raw (hval 0 _ v0 rfl rfl) h0
  clear hA0 hval0
  refine (lmr_walk z0 z1 z2 z3 z4 z5 z6 z7 z8 z9 z10 z11 z12 z13 z14 z15 z16 z17 z18 z19 z20 W u12 u18 u19 u20).mono fun e W' ⟨he, bel⟩ => ?_
  subst he
  exact ⟨_, rfl, _, _, _, [], _, [], hW', trodAll_mk1 (shut_bool Try.underlying4 _), (trodAll_cons_mk (Below.trod laid_out (by kernel_rfl) (of_decide_eq_true (by kernel_rfl)) k0 bel lt0) trodAll_mk0), rfl, bel.frame _, fun h => by cases h⟩

theorem lmr_over : Rows.documentMoneyRoundTripRow.holds Try.pinned (OpenSpec.ofChange Rows.documentMoneyRoundTripSpec) :=
  OpenClaim.holds_of_wide 15 Try.f15 rfl rfl rfl rfl rfl rfl rfl ⟨rfl, rfl, rfl, rfl, rfl⟩ rfl rfl rfl rfl rfl (by kernel_rfl) Try.func15 (by kernel_rfl)
    (of_decide_eq_true (by kernel_rfl)) (by unfold Func.isWrapper; first | (rw [if_pos (by decide +kernel)]; kernel_rfl) | (rw [if_neg (by decide +kernel)]; exact ⟨rfl, rfl⟩))
    (fun os started H enc _ => lmr_lifted os started H enc)

/-- The statement. -/
theorem lmr_holds : Rows.DocumentMoneyRoundTripSaid := lmr_over
#print axioms lmr_holds
end Go.Proofs.Ytkkjiihdmpngbaa
