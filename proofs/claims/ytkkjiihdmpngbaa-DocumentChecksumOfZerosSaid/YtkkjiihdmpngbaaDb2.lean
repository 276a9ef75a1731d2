/-
  Contracts: the reference's OfClaim, OfRequest, OfRemittance, OfNotice.
-/
import Derived.Test.YtkkjiihdmpngbaaDb1
namespace Go.Proofs.Ytkkjiihdmpngbaa
open Go.RowKit
set_option linter.unusedVariables false

theorem gbig2_any (x : Int) (k : Nat) (kk : Int) (w : World) (hk : kk = k) (hs : k ≤ 8) : Calls Try.prog 56 #[.int .i64 x, .int .i64 kk] w (BigPost w.heap.size (be k x) w) := by
  subst hk
  exact gbig_any x k w hs
/-- One of the parts. -/
def Part1 (w : World) (v : Value) (l : List UInt8) : Prop := Sl w.heap.size w v l ∧ ∀ c, v = .slice none 0 c → c = 0
theorem Part1.of {w : World} {base : Nat} {v : Value} {l : List UInt8} (h : w.ownsRow base 5 1 v l.length (bytesV l)) : Part1 w v l := ⟨Sl.of_own h, own_nilcap h⟩
theorem Part1.shape {w : World} {v : Value} {l : List UInt8} (h : Part1 w v l) : ∃ a n c, v = .slice a n c := by
  obtain ⟨⟨a, c, hv, _⟩, _⟩ := h
  exact ⟨a, _, c, hv⟩
theorem Part1.next {w w' : World} {v : Value} {l : List UInt8} (h : Part1 w v l) (hb : Below w.heap.size w w') : Part1 w' v l := ⟨(h.1.below hb).mono hb.size, h.2⟩

set_option maxRecDepth 100000 in
set_option maxHeartbeats 4000000 in
theorem rofClaim_any (x0 x1 x2 x3 x4 x5 : Int) (w : World) : Calls Try.prog 38 #[.agg #[.int .i64 x0, .int .i64 x1, .int .i64 x2, .int .i64 x3, .int .i64 x4, .int .i64 x5]] w (OfPost (claimO x0 x1 x2 x3 x4 x5) (claimB x0 x1 x2 x3 x4 x5) w) := by
  rcases hv : claimB x0 x1 x2 x3 x4 x5 with _ | _
  · have HO : Hid (claimO x0 x1 x2 x3 x4 x5 = []) := by simp [Hid, claimO, hv]
    simp only [claimB] at hv
    go_enter Try.func38, Try.ntmps38
    go_wp2_with (first
      | (go_at_call 59; refine (rwithin_any _ _ _ _).mono ?_; rintro e w' ⟨rfl, rfl⟩)
      | (go_at_call 68; refine (vday_any _ _).mono ?_; rintro e w' ⟨rfl, rfl⟩))
    all_goals first
      | (exfalso; simp_all; done)
      | (go_ret2; rw [HO.out]; exact ⟨_, rfl, ⟨rfl, .inl ⟨rfl, rfl⟩⟩, (Below.refl _ _).alloc (Nat.le_refl _) _⟩)
  · have HO : Hid (claimO x0 x1 x2 x3 x4 x5 = [be 1 x0, be 2 x1, be 1 x2, be 1 x3, be 1 x4, be 3 x5].flatten) := by simp [Hid, claimO, hv, claimL]
    simp only [claimB, Bool.and_eq_true] at hv
    obtain ⟨⟨⟨⟨⟨b0, b1⟩, b2⟩, b3⟩, b4⟩, b5⟩ := hv
    have hbox := BlkIs.new w 62 #[.int .i64 x0, .int .i64 x1, .int .i64 x2, .int .i64 x3, .int .i64 x4, .int .i64 x5]
    have hbel : Below w.heap.size w (w.alloc (.cells #[.int .i64 x0, .int .i64 x1, .int .i64 x2, .int .i64 x3, .int .i64 x4, .int .i64 x5] 62)) := (Below.refl _ _).alloc (Nat.le_refl _) _
    go_enter Try.func38, Try.ntmps38
    go_wp2_with (first
      | (go_at_call 59; refine (rwithin_any _ _ _ _).mono ?_; rintro e w' ⟨rfl, rfl⟩)
      | (go_at_call 68; refine (vday_any _ _).mono ?_; rintro e w' ⟨rfl, rfl⟩))
    refine wp_region_ml [2, 5, 8, 11, 14, 17, 18, 19] [0, 1, 3, 4, 6, 7, 9, 10, 12, 13, 15, 16, 2, 5, 8, 11, 14, 17, 18, 19, 20, 21] (w.alloc (.cells #[.int .i64 x0, .int .i64 x1, .int .i64 x2, .int .i64 x3, .int .i64 x4, .int .i64 x5] 62)).drew.heap.size (by kernel_rfl) (by kernel_rfl) rfl (by decide) (by kernel_rfl) (fun _ _ _ _ _ h => h) ?_
    simp only [marked, List.getElem?_cons_zero, List.getElem?_cons_succ, List.contains_cons, List.contains_nil, Nat.reduceBEq, Bool.or_false, Bool.or_true, BEq.rfl]
    replace hbox := hbox.drew
    replace hbel := hbel.drew
    generalize (w.alloc (.cells #[.int .i64 x0, .int .i64 x1, .int .i64 x2, .int .i64 x3, .int .i64 x4, .int .i64 x5] 62)).drew = W at *
    have hcb := hbox.cell
    have lb := hbox.lt
    repeat (refine ml_quiet ?_; go_big_quiet_step (fail); refine wpQuiet_nil ?_)
    clear hcb lb hbox
    refine ml_loud rfl ?_
    intro K hK
    go_simp
    go_at_call 56
    refine (gbig2_any x0 1 _ _ rfl (by decide)).mono ?_
    rintro e u0 ⟨v0, rfl, hown, hb, hk⟩
    refine hK _ _ u0.heap.size hb.size hb ?_
    clear hK K
    replace hbel := bnext hbel hb
    have q0 := Part1.of hown
    clear hown hb hk
    obtain ⟨a0, n0, c0, rfl⟩ := q0.shape
    repeat (refine ml_quiet ?_; go_big_quiet_step (fail); refine wpQuiet_nil ?_)
    refine ml_loud rfl ?_
    intro K hK
    go_simp
    go_at_call 56
    refine (gbig2_any x1 2 _ _ rfl (by decide)).mono ?_
    rintro e u1 ⟨v1, rfl, hown, hb, hk⟩
    refine hK _ _ u1.heap.size hb.size hb ?_
    clear hK K
    replace hbel := bnext hbel hb
    replace q0 := q0.next hb
    have q1 := Part1.of hown
    clear hown hb hk
    obtain ⟨a1, n1, c1, rfl⟩ := q1.shape
    repeat (refine ml_quiet ?_; go_big_quiet_step (fail); refine wpQuiet_nil ?_)
    refine ml_loud rfl ?_
    intro K hK
    go_simp
    go_at_call 56
    refine (gbig2_any x2 1 _ _ rfl (by decide)).mono ?_
    rintro e u2 ⟨v2, rfl, hown, hb, hk⟩
    refine hK _ _ u2.heap.size hb.size hb ?_
    clear hK K
    replace hbel := bnext hbel hb
    replace q0 := q0.next hb
    replace q1 := q1.next hb
    have q2 := Part1.of hown
    clear hown hb hk
    obtain ⟨a2, n2, c2, rfl⟩ := q2.shape
    repeat (refine ml_quiet ?_; go_big_quiet_step (fail); refine wpQuiet_nil ?_)
    refine ml_loud rfl ?_
    intro K hK
    go_simp
    go_at_call 56
    refine (gbig2_any x3 1 _ _ rfl (by decide)).mono ?_
    rintro e u3 ⟨v3, rfl, hown, hb, hk⟩
    refine hK _ _ u3.heap.size hb.size hb ?_
    clear hK K
    replace hbel := bnext hbel hb
    replace q0 := q0.next hb
    replace q1 := q1.next hb
    replace q2 := q2.next hb
    have q3 := Part1.of hown
    clear hown hb hk
    obtain ⟨a3, n3, c3, rfl⟩ := q3.shape
    repeat (refine ml_quiet ?_; go_big_quiet_step (fail); refine wpQuiet_nil ?_)
    refine ml_loud rfl ?_
    intro K hK
    go_simp
    go_at_call 56
    refine (gbig2_any x4 1 _ _ rfl (by decide)).mono ?_
    rintro e u4 ⟨v4, rfl, hown, hb, hk⟩
    refine hK _ _ u4.heap.size hb.size hb ?_
    clear hK K
    replace hbel := bnext hbel hb
    replace q0 := q0.next hb
    replace q1 := q1.next hb
    replace q2 := q2.next hb
    replace q3 := q3.next hb
    have q4 := Part1.of hown
    clear hown hb hk
    obtain ⟨a4, n4, c4, rfl⟩ := q4.shape
    repeat (refine ml_quiet ?_; go_big_quiet_step (fail); refine wpQuiet_nil ?_)
    refine ml_loud rfl ?_
    intro K hK
    go_simp
    go_at_call 56
    refine (gbig2_any x5 3 _ _ rfl (by decide)).mono ?_
    rintro e u5 ⟨v5, rfl, hown, hb, hk⟩
    refine hK _ _ u5.heap.size hb.size hb ?_
    clear hK K
    replace hbel := bnext hbel hb
    replace q0 := q0.next hb
    replace q1 := q1.next hb
    replace q2 := q2.next hb
    replace q3 := q3.next hb
    replace q4 := q4.next hb
    have q5 := Part1.of hown
    clear hown hb hk
    obtain ⟨a5, n5, c5, rfl⟩ := q5.shape
    repeat (refine ml_quiet ?_; go_big_quiet_step (fail); refine wpQuiet_nil ?_)
    refine ml_loud rfl ?_
    intro K hK
    go_simp
    have hnew := BlkIs.new u5 22 #[.slice a0 n0 c0, .slice a1 n1 c1, .slice a2 n2 c2, .slice a3 n3 c3, .slice a4 n4 c4, .slice a5 n5 c5]
    have hb : Below u5.heap.size u5 (u5.alloc (.cells #[.slice a0 n0 c0, .slice a1 n1 c1, .slice a2 n2 c2, .slice a3 n3 c3, .slice a4 n4 c4, .slice a5 n5 c5] 22)) := (Below.refl _ _).alloc (Nat.le_refl _) _
    refine hK _ _ (u5.alloc (.cells #[.slice a0 n0 c0, .slice a1 n1 c1, .slice a2 n2 c2, .slice a3 n3 c3, .slice a4 n4 c4, .slice a5 n5 c5] 22)).heap.size hb.size hb ?_
    clear hK K
    replace q0 := q0.next hb
    replace q1 := q1.next hb
    replace q2 := q2.next hb
    replace q3 := q3.next hb
    replace q4 := q4.next hb
    replace q5 := q5.next hb
    replace hbel := bnext hbel hb
    clear hb
    generalize u5.alloc (.cells #[.slice a0 n0 c0, .slice a1 n1 c1, .slice a2 n2 c2, .slice a3 n3 c3, .slice a4 n4 c4, .slice a5 n5 c5] 22) = W2 at *
    repeat (refine ml_quiet ?_; go_big_quiet_step (fail); refine wpQuiet_nil ?_)
    refine ml_loud rfl ?_
    intro K hK
    go_simp
    go_at_call 55
    refine (join_any W2.heap.size u5.heap.size [.slice a0 n0 c0, .slice a1 n1 c1, .slice a2 n2 c2, .slice a3 n3 c3, .slice a4 n4 c4, .slice a5 n5 c5] [be 1 x0, be 2 x1, be 1 x2, be 1 x3, be 1 x4, be 3 x5] _ (Nat.le_refl _) hnew ⟨q0, q1, q2, q3, q4, q5, trivial⟩ (by simp) (by simp [be_length])).mono ?_
    rintro e W3 ⟨vr, rfl, hown, hb, hk⟩
    refine hK _ _ W3.heap.size hb.size hb ?_
    clear hK K
    repeat (refine ml_quiet ?_; go_big_quiet_step (fail); refine wpQuiet_nil ?_)
    refine ml_nil ?_
    go_wp2
    go_ret2
    rw [HO.out]
    exact ⟨_, rfl, own_mono hown hbel.size, bnext hbel hb⟩
set_option maxRecDepth 100000 in
set_option maxHeartbeats 4000000 in
theorem rofRequest_any (x0 x1 x2 : Int) (w : World) : Calls Try.prog 42 #[.agg #[.int .i64 x0, .int .i64 x1, .int .i64 x2]] w (OfPost (requestO x0 x1 x2) (requestB x0 x1 x2) w) := by
  rcases hv : requestB x0 x1 x2 with _ | _
  · have HO : Hid (requestO x0 x1 x2 = []) := by simp [Hid, requestO, hv]
    simp only [requestB] at hv
    go_enter Try.func42, Try.ntmps42
    go_wp2_with (first
      | (go_at_call 59; refine (rwithin_any _ _ _ _).mono ?_; rintro e w' ⟨rfl, rfl⟩)
      | (go_at_call 69; refine (vmonth_any _ _).mono ?_; rintro e w' ⟨rfl, rfl⟩))
    all_goals first
      | (exfalso; simp_all; done)
      | (go_ret2; rw [HO.out]; exact ⟨_, rfl, ⟨rfl, .inl ⟨rfl, rfl⟩⟩, (Below.refl _ _).alloc (Nat.le_refl _) _⟩)
  · have HO : Hid (requestO x0 x1 x2 = [be 1 x0, be 2 x1, be 5 x2].flatten) := by simp [Hid, requestO, hv, requestL]
    simp only [requestB, Bool.and_eq_true] at hv
    obtain ⟨⟨b0, b1⟩, b2⟩ := hv
    have hbox := BlkIs.new w 48 #[.int .i64 x0, .int .i64 x1, .int .i64 x2]
    have hbel : Below w.heap.size w (w.alloc (.cells #[.int .i64 x0, .int .i64 x1, .int .i64 x2] 48)) := (Below.refl _ _).alloc (Nat.le_refl _) _
    go_enter Try.func42, Try.ntmps42
    go_wp2_with (first
      | (go_at_call 59; refine (rwithin_any _ _ _ _).mono ?_; rintro e w' ⟨rfl, rfl⟩)
      | (go_at_call 69; refine (vmonth_any _ _).mono ?_; rintro e w' ⟨rfl, rfl⟩))
    refine wp_region_ml [2, 5, 8, 9, 10] [0, 1, 3, 4, 6, 7, 2, 5, 8, 9, 10, 11, 12] (w.alloc (.cells #[.int .i64 x0, .int .i64 x1, .int .i64 x2] 48)).drew.heap.size (by kernel_rfl) (by kernel_rfl) rfl (by decide) (by kernel_rfl) (fun _ _ _ _ _ h => h) ?_
    simp only [marked, List.getElem?_cons_zero, List.getElem?_cons_succ, List.contains_cons, List.contains_nil, Nat.reduceBEq, Bool.or_false, Bool.or_true, BEq.rfl]
    replace hbox := hbox.drew
    replace hbel := hbel.drew
    generalize (w.alloc (.cells #[.int .i64 x0, .int .i64 x1, .int .i64 x2] 48)).drew = W at *
    have hcb := hbox.cell
    have lb := hbox.lt
    repeat (refine ml_quiet ?_; go_big_quiet_step (fail); refine wpQuiet_nil ?_)
    clear hcb lb hbox
    refine ml_loud rfl ?_
    intro K hK
    go_simp
    go_at_call 56
    refine (gbig2_any x0 1 _ _ rfl (by decide)).mono ?_
    rintro e u0 ⟨v0, rfl, hown, hb, hk⟩
    refine hK _ _ u0.heap.size hb.size hb ?_
    clear hK K
    replace hbel := bnext hbel hb
    have q0 := Part1.of hown
    clear hown hb hk
    obtain ⟨a0, n0, c0, rfl⟩ := q0.shape
    repeat (refine ml_quiet ?_; go_big_quiet_step (fail); refine wpQuiet_nil ?_)
    refine ml_loud rfl ?_
    intro K hK
    go_simp
    go_at_call 56
    refine (gbig2_any x1 2 _ _ rfl (by decide)).mono ?_
    rintro e u1 ⟨v1, rfl, hown, hb, hk⟩
    refine hK _ _ u1.heap.size hb.size hb ?_
    clear hK K
    replace hbel := bnext hbel hb
    replace q0 := q0.next hb
    have q1 := Part1.of hown
    clear hown hb hk
    obtain ⟨a1, n1, c1, rfl⟩ := q1.shape
    repeat (refine ml_quiet ?_; go_big_quiet_step (fail); refine wpQuiet_nil ?_)
    refine ml_loud rfl ?_
    intro K hK
    go_simp
    go_at_call 56
    refine (gbig2_any x2 5 _ _ rfl (by decide)).mono ?_
    rintro e u2 ⟨v2, rfl, hown, hb, hk⟩
    refine hK _ _ u2.heap.size hb.size hb ?_
    clear hK K
    replace hbel := bnext hbel hb
    replace q0 := q0.next hb
    replace q1 := q1.next hb
    have q2 := Part1.of hown
    clear hown hb hk
    obtain ⟨a2, n2, c2, rfl⟩ := q2.shape
    repeat (refine ml_quiet ?_; go_big_quiet_step (fail); refine wpQuiet_nil ?_)
    refine ml_loud rfl ?_
    intro K hK
    go_simp
    have hnew := BlkIs.new u2 22 #[.slice a0 n0 c0, .slice a1 n1 c1, .slice a2 n2 c2]
    have hb : Below u2.heap.size u2 (u2.alloc (.cells #[.slice a0 n0 c0, .slice a1 n1 c1, .slice a2 n2 c2] 22)) := (Below.refl _ _).alloc (Nat.le_refl _) _
    refine hK _ _ (u2.alloc (.cells #[.slice a0 n0 c0, .slice a1 n1 c1, .slice a2 n2 c2] 22)).heap.size hb.size hb ?_
    clear hK K
    replace q0 := q0.next hb
    replace q1 := q1.next hb
    replace q2 := q2.next hb
    replace hbel := bnext hbel hb
    clear hb
    generalize u2.alloc (.cells #[.slice a0 n0 c0, .slice a1 n1 c1, .slice a2 n2 c2] 22) = W2 at *
    repeat (refine ml_quiet ?_; go_big_quiet_step (fail); refine wpQuiet_nil ?_)
    refine ml_loud rfl ?_
    intro K hK
    go_simp
    go_at_call 55
    refine (join_any W2.heap.size u2.heap.size [.slice a0 n0 c0, .slice a1 n1 c1, .slice a2 n2 c2] [be 1 x0, be 2 x1, be 5 x2] _ (Nat.le_refl _) hnew ⟨q0, q1, q2, trivial⟩ (by simp) (by simp [be_length])).mono ?_
    rintro e W3 ⟨vr, rfl, hown, hb, hk⟩
    refine hK _ _ W3.heap.size hb.size hb ?_
    clear hK K
    repeat (refine ml_quiet ?_; go_big_quiet_step (fail); refine wpQuiet_nil ?_)
    refine ml_nil ?_
    go_wp2
    go_ret2
    rw [HO.out]
    exact ⟨_, rfl, own_mono hown hbel.size, bnext hbel hb⟩
set_option maxRecDepth 100000 in
set_option maxHeartbeats 4000000 in
theorem rofRemittance_any (x0 x1 x2 x3 x4 x5 : Int) (w : World) : Calls Try.prog 44 #[.agg #[.int .i64 x0, .int .i64 x1, .int .i64 x2, .int .i64 x3, .int .i64 x4, .int .i64 x5]] w (OfPost (remittanceO x0 x1 x2 x3 x4 x5) (remittanceB x0 x1 x2 x3 x4 x5) w) := by
  rcases hv : remittanceB x0 x1 x2 x3 x4 x5 with _ | _
  · have HO : Hid (remittanceO x0 x1 x2 x3 x4 x5 = []) := by simp [Hid, remittanceO, hv]
    simp only [remittanceB] at hv
    go_enter Try.func44, Try.ntmps44
    go_wp2_with (first
      | (go_at_call 59; refine (rwithin_any _ _ _ _).mono ?_; rintro e w' ⟨rfl, rfl⟩)
      | (go_at_call 69; refine (vmonth_any _ _).mono ?_; rintro e w' ⟨rfl, rfl⟩))
    all_goals first
      | (exfalso; simp_all; done)
      | (go_ret2; rw [HO.out]; exact ⟨_, rfl, ⟨rfl, .inl ⟨rfl, rfl⟩⟩, (Below.refl _ _).alloc (Nat.le_refl _) _⟩)
  · have HO : Hid (remittanceO x0 x1 x2 x3 x4 x5 = [be 1 x0, be 1 x1, be 2 x2, be 2 x3, be 5 x4, be 5 x5].flatten) := by simp [Hid, remittanceO, hv, remittanceL]
    simp only [remittanceB, Bool.and_eq_true] at hv
    obtain ⟨⟨⟨⟨⟨b0, b1⟩, b2⟩, b3⟩, b4⟩, b5⟩ := hv
    have hbox := BlkIs.new w 52 #[.int .i64 x0, .int .i64 x1, .int .i64 x2, .int .i64 x3, .int .i64 x4, .int .i64 x5]
    have hbel : Below w.heap.size w (w.alloc (.cells #[.int .i64 x0, .int .i64 x1, .int .i64 x2, .int .i64 x3, .int .i64 x4, .int .i64 x5] 52)) := (Below.refl _ _).alloc (Nat.le_refl _) _
    go_enter Try.func44, Try.ntmps44
    go_wp2_with (first
      | (go_at_call 59; refine (rwithin_any _ _ _ _).mono ?_; rintro e w' ⟨rfl, rfl⟩)
      | (go_at_call 69; refine (vmonth_any _ _).mono ?_; rintro e w' ⟨rfl, rfl⟩))
    refine wp_region_ml [2, 5, 8, 11, 14, 17, 18, 19] [0, 1, 3, 4, 6, 7, 9, 10, 12, 13, 15, 16, 2, 5, 8, 11, 14, 17, 18, 19, 20, 21] (w.alloc (.cells #[.int .i64 x0, .int .i64 x1, .int .i64 x2, .int .i64 x3, .int .i64 x4, .int .i64 x5] 52)).drew.heap.size (by kernel_rfl) (by kernel_rfl) rfl (by decide) (by kernel_rfl) (fun _ _ _ _ _ h => h) ?_
    simp only [marked, List.getElem?_cons_zero, List.getElem?_cons_succ, List.contains_cons, List.contains_nil, Nat.reduceBEq, Bool.or_false, Bool.or_true, BEq.rfl]
    replace hbox := hbox.drew
    replace hbel := hbel.drew
    generalize (w.alloc (.cells #[.int .i64 x0, .int .i64 x1, .int .i64 x2, .int .i64 x3, .int .i64 x4, .int .i64 x5] 52)).drew = W at *
    have hcb := hbox.cell
    have lb := hbox.lt
    repeat (refine ml_quiet ?_; go_big_quiet_step (fail); refine wpQuiet_nil ?_)
    clear hcb lb hbox
    refine ml_loud rfl ?_
    intro K hK
    go_simp
    go_at_call 56
    refine (gbig2_any x0 1 _ _ rfl (by decide)).mono ?_
    rintro e u0 ⟨v0, rfl, hown, hb, hk⟩
    refine hK _ _ u0.heap.size hb.size hb ?_
    clear hK K
    replace hbel := bnext hbel hb
    have q0 := Part1.of hown
    clear hown hb hk
    obtain ⟨a0, n0, c0, rfl⟩ := q0.shape
    repeat (refine ml_quiet ?_; go_big_quiet_step (fail); refine wpQuiet_nil ?_)
    refine ml_loud rfl ?_
    intro K hK
    go_simp
    go_at_call 56
    refine (gbig2_any x1 1 _ _ rfl (by decide)).mono ?_
    rintro e u1 ⟨v1, rfl, hown, hb, hk⟩
    refine hK _ _ u1.heap.size hb.size hb ?_
    clear hK K
    replace hbel := bnext hbel hb
    replace q0 := q0.next hb
    have q1 := Part1.of hown
    clear hown hb hk
    obtain ⟨a1, n1, c1, rfl⟩ := q1.shape
    repeat (refine ml_quiet ?_; go_big_quiet_step (fail); refine wpQuiet_nil ?_)
    refine ml_loud rfl ?_
    intro K hK
    go_simp
    go_at_call 56
    refine (gbig2_any x2 2 _ _ rfl (by decide)).mono ?_
    rintro e u2 ⟨v2, rfl, hown, hb, hk⟩
    refine hK _ _ u2.heap.size hb.size hb ?_
    clear hK K
    replace hbel := bnext hbel hb
    replace q0 := q0.next hb
    replace q1 := q1.next hb
    have q2 := Part1.of hown
    clear hown hb hk
    obtain ⟨a2, n2, c2, rfl⟩ := q2.shape
    repeat (refine ml_quiet ?_; go_big_quiet_step (fail); refine wpQuiet_nil ?_)
    refine ml_loud rfl ?_
    intro K hK
    go_simp
    go_at_call 56
    refine (gbig2_any x3 2 _ _ rfl (by decide)).mono ?_
    rintro e u3 ⟨v3, rfl, hown, hb, hk⟩
    refine hK _ _ u3.heap.size hb.size hb ?_
    clear hK K
    replace hbel := bnext hbel hb
    replace q0 := q0.next hb
    replace q1 := q1.next hb
    replace q2 := q2.next hb
    have q3 := Part1.of hown
    clear hown hb hk
    obtain ⟨a3, n3, c3, rfl⟩ := q3.shape
    repeat (refine ml_quiet ?_; go_big_quiet_step (fail); refine wpQuiet_nil ?_)
    refine ml_loud rfl ?_
    intro K hK
    go_simp
    go_at_call 56
    refine (gbig2_any x4 5 _ _ rfl (by decide)).mono ?_
    rintro e u4 ⟨v4, rfl, hown, hb, hk⟩
    refine hK _ _ u4.heap.size hb.size hb ?_
    clear hK K
    replace hbel := bnext hbel hb
    replace q0 := q0.next hb
    replace q1 := q1.next hb
    replace q2 := q2.next hb
    replace q3 := q3.next hb
    have q4 := Part1.of hown
    clear hown hb hk
    obtain ⟨a4, n4, c4, rfl⟩ := q4.shape
    repeat (refine ml_quiet ?_; go_big_quiet_step (fail); refine wpQuiet_nil ?_)
    refine ml_loud rfl ?_
    intro K hK
    go_simp
    go_at_call 56
    refine (gbig2_any x5 5 _ _ rfl (by decide)).mono ?_
    rintro e u5 ⟨v5, rfl, hown, hb, hk⟩
    refine hK _ _ u5.heap.size hb.size hb ?_
    clear hK K
    replace hbel := bnext hbel hb
    replace q0 := q0.next hb
    replace q1 := q1.next hb
    replace q2 := q2.next hb
    replace q3 := q3.next hb
    replace q4 := q4.next hb
    have q5 := Part1.of hown
    clear hown hb hk
    obtain ⟨a5, n5, c5, rfl⟩ := q5.shape
    repeat (refine ml_quiet ?_; go_big_quiet_step (fail); refine wpQuiet_nil ?_)
    refine ml_loud rfl ?_
    intro K hK
    go_simp
    have hnew := BlkIs.new u5 22 #[.slice a0 n0 c0, .slice a1 n1 c1, .slice a2 n2 c2, .slice a3 n3 c3, .slice a4 n4 c4, .slice a5 n5 c5]
    have hb : Below u5.heap.size u5 (u5.alloc (.cells #[.slice a0 n0 c0, .slice a1 n1 c1, .slice a2 n2 c2, .slice a3 n3 c3, .slice a4 n4 c4, .slice a5 n5 c5] 22)) := (Below.refl _ _).alloc (Nat.le_refl _) _
    refine hK _ _ (u5.alloc (.cells #[.slice a0 n0 c0, .slice a1 n1 c1, .slice a2 n2 c2, .slice a3 n3 c3, .slice a4 n4 c4, .slice a5 n5 c5] 22)).heap.size hb.size hb ?_
    clear hK K
    replace q0 := q0.next hb
    replace q1 := q1.next hb
    replace q2 := q2.next hb
    replace q3 := q3.next hb
    replace q4 := q4.next hb
    replace q5 := q5.next hb
    replace hbel := bnext hbel hb
    clear hb
    generalize u5.alloc (.cells #[.slice a0 n0 c0, .slice a1 n1 c1, .slice a2 n2 c2, .slice a3 n3 c3, .slice a4 n4 c4, .slice a5 n5 c5] 22) = W2 at *
    repeat (refine ml_quiet ?_; go_big_quiet_step (fail); refine wpQuiet_nil ?_)
    refine ml_loud rfl ?_
    intro K hK
    go_simp
    go_at_call 55
    refine (join_any W2.heap.size u5.heap.size [.slice a0 n0 c0, .slice a1 n1 c1, .slice a2 n2 c2, .slice a3 n3 c3, .slice a4 n4 c4, .slice a5 n5 c5] [be 1 x0, be 1 x1, be 2 x2, be 2 x3, be 5 x4, be 5 x5] _ (Nat.le_refl _) hnew ⟨q0, q1, q2, q3, q4, q5, trivial⟩ (by simp) (by simp [be_length])).mono ?_
    rintro e W3 ⟨vr, rfl, hown, hb, hk⟩
    refine hK _ _ W3.heap.size hb.size hb ?_
    clear hK K
    repeat (refine ml_quiet ?_; go_big_quiet_step (fail); refine wpQuiet_nil ?_)
    refine ml_nil ?_
    go_wp2
    go_ret2
    rw [HO.out]
    exact ⟨_, rfl, own_mono hown hbel.size, bnext hbel hb⟩
set_option maxRecDepth 100000 in
set_option maxHeartbeats 4000000 in
theorem rofNotice_any (x0 x1 x2 x3 : Int) (w : World) : Calls Try.prog 46 #[.agg #[.int .i64 x0, .int .i64 x1, .int .i64 x2, .int .i64 x3]] w (OfPost (noticeO x0 x1 x2 x3) (noticeB x0 x1 x2 x3) w) := by
  rcases hv : noticeB x0 x1 x2 x3 with _ | _
  · have HO : Hid (noticeO x0 x1 x2 x3 = []) := by simp [Hid, noticeO, hv]
    simp only [noticeB] at hv
    go_enter Try.func46, Try.ntmps46
    go_wp2_with (first
      | (go_at_call 59; refine (rwithin_any _ _ _ _).mono ?_; rintro e w' ⟨rfl, rfl⟩)
      | (go_at_call 69; refine (vmonth_any _ _).mono ?_; rintro e w' ⟨rfl, rfl⟩))
    all_goals first
      | (exfalso; simp_all; done)
      | (go_ret2; rw [HO.out]; exact ⟨_, rfl, ⟨rfl, .inl ⟨rfl, rfl⟩⟩, (Below.refl _ _).alloc (Nat.le_refl _) _⟩)
  · have HO : Hid (noticeO x0 x1 x2 x3 = [be 1 x0, be 2 x1, be 5 x2, be 6 (x3 + 1000000000000)].flatten) := by simp [Hid, noticeO, hv, noticeL]
    simp only [noticeB, Bool.and_eq_true] at hv
    obtain ⟨⟨⟨b0, b1⟩, b2⟩, b3⟩ := hv
    have hbd : -1000000000000 ≤ x3 ∧ x3 ≤ 1000000000000 := by simpa [btw] using b3
    have hbox := BlkIs.new w 56 #[.int .i64 x0, .int .i64 x1, .int .i64 x2, .int .i64 x3]
    have hbel : Below w.heap.size w (w.alloc (.cells #[.int .i64 x0, .int .i64 x1, .int .i64 x2, .int .i64 x3] 56)) := (Below.refl _ _).alloc (Nat.le_refl _) _
    go_enter Try.func46, Try.ntmps46
    go_wp2_with (first
      | (go_at_call 59; refine (rwithin_any _ _ _ _).mono ?_; rintro e w' ⟨rfl, rfl⟩)
      | (go_at_call 69; refine (vmonth_any _ _).mono ?_; rintro e w' ⟨rfl, rfl⟩))
    refine wp_region_ml [2, 5, 8, 12, 13, 14] [0, 1, 3, 4, 6, 7, 9, 10, 11, 2, 5, 8, 12, 13, 14, 15, 16] (w.alloc (.cells #[.int .i64 x0, .int .i64 x1, .int .i64 x2, .int .i64 x3] 56)).drew.heap.size (by kernel_rfl) (by kernel_rfl) rfl (by decide) (by kernel_rfl) (fun _ _ _ _ _ h => h) ?_
    simp only [marked, List.getElem?_cons_zero, List.getElem?_cons_succ, List.contains_cons, List.contains_nil, Nat.reduceBEq, Bool.or_false, Bool.or_true, BEq.rfl]
    replace hbox := hbox.drew
    replace hbel := hbel.drew
    generalize (w.alloc (.cells #[.int .i64 x0, .int .i64 x1, .int .i64 x2, .int .i64 x3] 56)).drew = W at *
    have hcb := hbox.cell
    have lb := hbox.lt
    repeat (refine ml_quiet ?_; go_big_quiet_step (fail); refine wpQuiet_nil ?_)
    clear hcb lb hbox
    refine ml_loud rfl ?_
    intro K hK
    go_simp
    go_at_call 56
    refine (gbig2_any x0 1 _ _ rfl (by decide)).mono ?_
    rintro e u0 ⟨v0, rfl, hown, hb, hk⟩
    refine hK _ _ u0.heap.size hb.size hb ?_
    clear hK K
    replace hbel := bnext hbel hb
    have q0 := Part1.of hown
    clear hown hb hk
    obtain ⟨a0, n0, c0, rfl⟩ := q0.shape
    repeat (refine ml_quiet ?_; go_big_quiet_step (fail); refine wpQuiet_nil ?_)
    refine ml_loud rfl ?_
    intro K hK
    go_simp
    go_at_call 56
    refine (gbig2_any x1 2 _ _ rfl (by decide)).mono ?_
    rintro e u1 ⟨v1, rfl, hown, hb, hk⟩
    refine hK _ _ u1.heap.size hb.size hb ?_
    clear hK K
    replace hbel := bnext hbel hb
    replace q0 := q0.next hb
    have q1 := Part1.of hown
    clear hown hb hk
    obtain ⟨a1, n1, c1, rfl⟩ := q1.shape
    repeat (refine ml_quiet ?_; go_big_quiet_step (fail); refine wpQuiet_nil ?_)
    refine ml_loud rfl ?_
    intro K hK
    go_simp
    go_at_call 56
    refine (gbig2_any x2 5 _ _ rfl (by decide)).mono ?_
    rintro e u2 ⟨v2, rfl, hown, hb, hk⟩
    refine hK _ _ u2.heap.size hb.size hb ?_
    clear hK K
    replace hbel := bnext hbel hb
    replace q0 := q0.next hb
    replace q1 := q1.next hb
    have q2 := Part1.of hown
    clear hown hb hk
    obtain ⟨a2, n2, c2, rfl⟩ := q2.shape
    repeat (refine ml_quiet ?_; go_big_quiet_step (fail); refine wpQuiet_nil ?_)
    refine ml_loud rfl ?_
    intro K hK
    go_simp
    go_at_call 56
    refine (gbig2_any (x3 + 1000000000000) 6 _ _ rfl (by decide)).mono ?_
    rintro e u3 ⟨v3, rfl, hown, hb, hk⟩
    refine hK _ _ u3.heap.size hb.size hb ?_
    clear hK K
    replace hbel := bnext hbel hb
    replace q0 := q0.next hb
    replace q1 := q1.next hb
    replace q2 := q2.next hb
    have q3 := Part1.of hown
    clear hown hb hk
    obtain ⟨a3, n3, c3, rfl⟩ := q3.shape
    repeat (refine ml_quiet ?_; go_big_quiet_step (fail); refine wpQuiet_nil ?_)
    refine ml_loud rfl ?_
    intro K hK
    go_simp
    have hnew := BlkIs.new u3 22 #[.slice a0 n0 c0, .slice a1 n1 c1, .slice a2 n2 c2, .slice a3 n3 c3]
    have hb : Below u3.heap.size u3 (u3.alloc (.cells #[.slice a0 n0 c0, .slice a1 n1 c1, .slice a2 n2 c2, .slice a3 n3 c3] 22)) := (Below.refl _ _).alloc (Nat.le_refl _) _
    refine hK _ _ (u3.alloc (.cells #[.slice a0 n0 c0, .slice a1 n1 c1, .slice a2 n2 c2, .slice a3 n3 c3] 22)).heap.size hb.size hb ?_
    clear hK K
    replace q0 := q0.next hb
    replace q1 := q1.next hb
    replace q2 := q2.next hb
    replace q3 := q3.next hb
    replace hbel := bnext hbel hb
    clear hb
    generalize u3.alloc (.cells #[.slice a0 n0 c0, .slice a1 n1 c1, .slice a2 n2 c2, .slice a3 n3 c3] 22) = W2 at *
    repeat (refine ml_quiet ?_; go_big_quiet_step (fail); refine wpQuiet_nil ?_)
    refine ml_loud rfl ?_
    intro K hK
    go_simp
    go_at_call 55
    refine (join_any W2.heap.size u3.heap.size [.slice a0 n0 c0, .slice a1 n1 c1, .slice a2 n2 c2, .slice a3 n3 c3] [be 1 x0, be 2 x1, be 5 x2, be 6 (x3 + 1000000000000)] _ (Nat.le_refl _) hnew ⟨q0, q1, q2, q3, trivial⟩ (by simp) (by simp [be_length])).mono ?_
    rintro e W3 ⟨vr, rfl, hown, hb, hk⟩
    refine hK _ _ W3.heap.size hb.size hb ?_
    clear hK K
    repeat (refine ml_quiet ?_; go_big_quiet_step (fail); refine wpQuiet_nil ?_)
    refine ml_nil ?_
    go_wp2
    go_ret2
    rw [HO.out]
    exact ⟨_, rfl, own_mono hown hbel.size, bnext hbel hb⟩
end Go.Proofs.Ytkkjiihdmpngbaa
