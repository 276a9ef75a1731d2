/-
  Contracts: the reference's Claim, Request, Remittance, Notice (bodies read).
-/
import Derived.Test.YtkkjiihdmpngbaaDb2
import Derived.Test.YtkkjiihdmpngbaaDa4
import Derived.Test.YtkkjiihdmpngbaaRf2
namespace Go.Proofs.Ytkkjiihdmpngbaa
open Go.RowKit
set_option linter.unusedVariables false

theorem numB_at (l : List UInt8) (n : Nat) (h : n < l.length) : numB (List.take 1 (List.drop n l)) = (l[n].toNat : Int) := by
  rw [List.drop_eq_getElem_cons h]
  show numB [l[n]] = _
  simp [numB]

theorem claim_keep {wr : World} {g b : Nat} {t : TypeId} {cs : Array Value} (h : BlkIs wr b t cs) (hg : b ≠ g) (g0 g1 g2 g3 g4 g5 : Int) : BlkIs ((((((wr.setCell ⟨g, 0, none⟩ (.int .i64 g0)).setCell ⟨g, 1, none⟩ (.int .i64 g1)).setCell ⟨g, 2, none⟩ (.int .i64 g2)).setCell ⟨g, 3, none⟩ (.int .i64 g3)).setCell ⟨g, 4, none⟩ (.int .i64 g4)).setCell ⟨g, 5, none⟩ (.int .i64 g5)) b t cs := ((((((h.far (p := ⟨g, 0, none⟩) hg (.int .i64 g0)).far (p := ⟨g, 1, none⟩) hg (.int .i64 g1)).far (p := ⟨g, 2, none⟩) hg (.int .i64 g2)).far (p := ⟨g, 3, none⟩) hg (.int .i64 g3)).far (p := ⟨g, 4, none⟩) hg (.int .i64 g4)).far (p := ⟨g, 5, none⟩) hg (.int .i64 g5))
theorem alloc_claim (w : World) : (Instr.alloc 62 true (.tuple #[])).run Try.prog w = .ok (ptrTo w.heap.size) (w.alloc (.cells #[.int .i64 0, .int .i64 0, .int .i64 0, .int .i64 0, .int .i64 0, .int .i64 0] 62)) := by
  go_simp
  rfl
theorem al_claim (i d : Nat) : ∀ x ∈ [(⟨i, d, 62, #[.int .i64 0, .int .i64 0, .int .i64 0, .int .i64 0, .int .i64 0, .int .i64 0]⟩ : Al)], ∀ w, (Instr.alloc x.t true (.tuple #[])).run Try.prog w = .ok (ptrTo w.heap.size) (w.alloc (.cells x.z x.t)) := by
  intro x hx w
  simp only [List.mem_cons, List.not_mem_nil, or_false] at hx
  subst hx
  exact alloc_claim w
set_option maxRecDepth 100000 in
set_option maxHeartbeats 4000000 in
theorem rtakeClaim_any (v : Value) (l : List UInt8) (w : World) (hsl : Sl w.heap.size w v l) : Calls Try.prog 40 #[v] w (TookClaim l w) := by
  obtain ⟨a, c, hv, hc, hx⟩ := id hsl
  subst hv
  by_cases hlen : l.length = 9
  · obtain ⟨b, o, rfl, hb, hcell⟩ := hx (by omega)
    clear hx
    have c0 := hcell 0 (l[0]'(by omega)) (List.getElem?_eq_getElem (by omega))
    have e0 : (numB (List.take 1 l)) = ((l[0]'(by omega)).toNat : Int) := by simpa using numB_at l 0 (by omega)
    generalize (l[0]'(by omega)) = y0 at c0 e0
    rw [Nat.add_zero] at c0
    have s1 := hsl.sub (n := 1) (k := 2) (by omega)
    obtain ⟨z1, hz1⟩ : ∃ z, z = numB ((l.drop 1).take 2) := ⟨_, rfl⟩
    have e1 : (numB (List.take 2 (List.drop 1 l))) = z1 := by rw [hz1]; try simp
    have HZ1 := Lib.hid hz1
    clear hz1
    have c2 := hcell 3 (l[3]'(by omega)) (List.getElem?_eq_getElem (by omega))
    have e2 : (numB (List.take 1 (List.drop 2 (List.drop 1 l)))) = ((l[3]'(by omega)).toNat : Int) := by simpa using numB_at l 3 (by omega)
    generalize (l[3]'(by omega)) = y2 at c2 e2
    have c3 := hcell 4 (l[4]'(by omega)) (List.getElem?_eq_getElem (by omega))
    have e3 : (numB (List.take 1 (List.drop 1 (List.drop 2 (List.drop 1 l))))) = ((l[4]'(by omega)).toNat : Int) := by simpa using numB_at l 4 (by omega)
    generalize (l[4]'(by omega)) = y3 at c3 e3
    have c4 := hcell 5 (l[5]'(by omega)) (List.getElem?_eq_getElem (by omega))
    have e4 : (numB (List.take 1 (List.drop 1 (List.drop 1 (List.drop 2 (List.drop 1 l)))))) = ((l[5]'(by omega)).toNat : Int) := by simpa using numB_at l 5 (by omega)
    generalize (l[5]'(by omega)) = y4 at c4 e4
    have s5 := hsl.sub (n := 6) (k := 3) (by omega)
    obtain ⟨z5, hz5⟩ : ∃ z, z = numB ((l.drop 6).take 3) := ⟨_, rfl⟩
    have e5 : (numB (List.take 3 (List.drop 1 (List.drop 1 (List.drop 1 (List.drop 2 (List.drop 1 l))))))) = z5 := by rw [hz5]; try simp
    have HZ5 := Lib.hid hz5
    clear hz5
    clear hcell
    rw [hlen] at hc ⊢
    have HLEN := Lib.hid hlen
    clear hlen hsl
    have HOK : Hid (claimOk l = claimB (y0.toNat : Int) z1 (y2.toNat : Int) (y3.toNat : Int) (y4.toNat : Int) z5) := by
      unfold Hid claimOk
      rw [e0, e1, e2, e3, e4, e5, HLEN.out]
      rfl
    go_enter Try.func40, Try.ntmps40
    go_wp2_with fail
    refine wp_region_rely [⟨23, 4, 62, #[.int .i64 0, .int .i64 0, .int .i64 0, .int .i64 0, .int .i64 0, .int .i64 0]⟩] [6, 21, 24] [0, 1, 2, 3, 4, 5, 7, 8, 9, 10, 11, 12, 13, 14, 15, 16, 17, 18, 19, 20, 6, 21, 22] [24] #[true, true, true, true, true, true, true, true, true, true, true, true, true, true, true, true, true, true, true, true, true, true, true, true, false] (by kernel_rfl) (by kernel_rfl) rfl (by decide) (by decide) (by kernel_rfl) (by kernel_rfl) (by kernel_rfl) (by kernel_rfl) (by decide) (by kernel_rfl) (al_claim 23 4) (fun _ _ _ _ _ h => h) (fun _ _ _ _ _ h => h) ?_
    simp only [marked, List.getElem?_cons_zero, List.getElem?_cons_succ, List.contains_cons, List.contains_nil, Nat.reduceBEq, Bool.or_false, Bool.or_true, BEq.rfl]
    obtain ⟨W, hW⟩ : ∃ W, W = (w.alloc (.cells #[.int .i64 0, .int .i64 0, .int .i64 0, .int .i64 0, .int .i64 0, .int .i64 0] 62)).drew := ⟨_, rfl⟩
    have hz : BlkIs W w.heap.size 62 #[.int .i64 0, .int .i64 0, .int .i64 0, .int .i64 0, .int .i64 0, .int .i64 0] := by rw [hW]; exact BlkIs.new _ _ _
    have hbel : Below w.heap.size w W := by rw [hW]; exact ((Below.refl _ _).alloc (Nat.le_refl _) _).drew
    rw [← hW]
    clear hW
    have hbW : b < W.heap.size := Nat.lt_of_lt_of_le hb hbel.size
    replace c0 := (hbel.cell (p := ⟨b, o, none⟩) hb).trans c0
    have w0 := w64_u8 y0
    replace c2 := (hbel.cell (p := ⟨b, o + 3, none⟩) hb).trans c2
    have w2 := w64_u8 y2
    replace c3 := (hbel.cell (p := ⟨b, o + 4, none⟩) hb).trans c3
    have w3 := w64_u8 y3
    replace c4 := (hbel.cell (p := ⟨b, o + 5, none⟩) hb).trans c4
    have w4 := w64_u8 y4
    repeat (refine rl_quiet ?_; go_big_quiet_step (fail); refine wpQuiet_nil ?_)
    refine rl_loud rfl ?_
    intro W11 hW11 K hK
    replace hz := hz.below hW11 hz.lt
    replace hbel := bnext hbel hW11
    clear hW11
    go_simp
    go_at_call 63
    refine (gnum_any _ _ _ _ (s1.below hbel) (by simp; omega)).mono ?_
    rintro e u1 ⟨rfl, rfl⟩
    rw [← HZ1.out]
    refine hK _ _ (Below.refl _ _) ?_
    clear hK K
    repeat (refine rl_quiet ?_; go_big_quiet_step (fail); refine wpQuiet_nil ?_)
    refine rl_loud rfl ?_
    intro W15 hW15 K hK
    replace hz := hz.below hW15 hz.lt
    replace hbel := bnext hbel hW15
    clear hW15
    go_simp
    go_at_call 63
    refine (gnum_any _ _ _ _ (s5.below hbel) (by simp; omega)).mono ?_
    rintro e u5 ⟨rfl, rfl⟩
    rw [← HZ5.out]
    refine hK _ _ (Below.refl _ _) ?_
    clear hK K
    repeat (refine rl_quiet ?_; go_big_quiet_step (fail); refine wpQuiet_nil ?_)
    refine rl_nil ?_
    intro W2 hW2 sx hs1 hs2 hM
    replace hz := hz.below hW2 hz.lt
    replace hbel := bnext hbel hW2
    clear hW2
    obtain ⟨g, rfl, hg, hf⟩ := made1 hs1 hs2 hM
    clear hs1 hs2 hM
    simp at hg
    have hcf := hf.cell
    have hff := hf.frozen
    simp only [sets, ptrTo]
    refine ml_loud rfl ?_
    intro K hK
    go_simp
    have hf1 := claim_put rfl hf (y0.toNat : Int) z1 (y2.toNat : Int) (y3.toNat : Int) (y4.toNat : Int) z5
    have hz1 := claim_keep hz (show w.heap.size ≠ g by omega) (y0.toNat : Int) z1 (y2.toNat : Int) (y3.toNat : Int) (y4.toNat : Int) z5
    have hb1 := claim_far hbel (show w.heap.size ≤ g by omega) (y0.toNat : Int) z1 (y2.toNat : Int) (y3.toNat : Int) (y4.toNat : Int) z5
    refine hK _ _ _ (Nat.le_refl _) (claim_far (Below.refl _ _) (by simp; omega) (y0.toNat : Int) z1 (y2.toNat : Int) (y3.toNat : Int) (y4.toNat : Int) z5) ?_
    clear hK K hcf hff hf hz hbel
    refine ml_nil ?_
    generalize ((((((W2.setCell ⟨g, 0, none⟩ (.int .i64 (y0.toNat : Int))).setCell ⟨g, 1, none⟩ (.int .i64 z1)).setCell ⟨g, 2, none⟩ (.int .i64 (y2.toNat : Int))).setCell ⟨g, 3, none⟩ (.int .i64 (y3.toNat : Int))).setCell ⟨g, 4, none⟩ (.int .i64 (y4.toNat : Int))).setCell ⟨g, 5, none⟩ (.int .i64 z5)) = W3 at *
    have hcf := hf1.cell
    go_wp2_with fail
    refine (rofClaim_any (y0.toNat : Int) z1 (y2.toNat : Int) (y3.toNat : Int) (y4.toNat : Int) z5 _).mono ?_
    rintro e W5 ⟨vr, rfl, hown, hb5⟩
    obtain ⟨va, vn, vc, rfl⟩ := (Part1.of hown).shape
    replace hz1 := hz1.below hb5 hz1.lt
    replace hf1 := hf1.below hb5 hf1.lt
    replace hb1 := bnext hb1 hb5
    clear hb5 hcf hown
    have hcz := hz1.cell
    have hfz := hz1.frozen
    have hcf := hf1.cell
    rw [← HOK.out]
    rcases hok : claimOk l with _ | _
    · go_wp2
      refine bodyPost_ret (v := .tuple #[.agg #[.int .i64 0, .int .i64 0, .int .i64 0, .int .i64 0, .int .i64 0, .int .i64 0], .bool false]) (results_cell2 Try.results40 _ _ w.heap.size 62 _ (0, 0) _ _ rfl rfl (claim_put rfl hz1 0 0 0 0 0 0) Try.underlying62 rfl info_claim) rfl ?_
      exact tookClaim_no hok (claim_far hb1 (Nat.le_refl _) 0 0 0 0 0 0)
    · go_wp2
      refine bodyPost_ret (v := .tuple #[.agg #[.int .i64 (y0.toNat : Int), .int .i64 z1, .int .i64 (y2.toNat : Int), .int .i64 (y3.toNat : Int), .int .i64 (y4.toNat : Int), .int .i64 z5], .bool true]) (results_cell2 Try.results40 _ _ w.heap.size 62 _ (0, 0) _ _ rfl rfl (claim_put rfl hz1 (y0.toNat : Int) z1 (y2.toNat : Int) (y3.toNat : Int) (y4.toNat : Int) z5) Try.underlying62 rfl info_claim) rfl ?_
      exact tookClaim_yes e0 e1 e2 e3 e4 e5 hok (claim_far hb1 (Nat.le_refl _) (y0.toNat : Int) z1 (y2.toNat : Int) (y3.toNat : Int) (y4.toNat : Int) z5)
  · have hok : claimOk l = false := by simp [claimOk, hlen]
    have hne : ¬ (l.length : Int) = 9 := by omega
    have hz : BlkIs (w.alloc (.cells #[.int .i64 0, .int .i64 0, .int .i64 0, .int .i64 0, .int .i64 0, .int .i64 0] 62)) w.heap.size 62 #[.int .i64 0, .int .i64 0, .int .i64 0, .int .i64 0, .int .i64 0, .int .i64 0] := BlkIs.new _ _ _
    clear hx
    go_enter Try.func40, Try.ntmps40
    go_wp2
    refine bodyPost_ret (v := .tuple #[.agg #[.int .i64 0, .int .i64 0, .int .i64 0, .int .i64 0, .int .i64 0, .int .i64 0], .bool false]) (results_cell2 Try.results40 _ _ w.heap.size 62 _ (0, 0) _ _ rfl rfl hz Try.underlying62 rfl info_claim) rfl ?_
    exact tookClaim_no hok ((Below.refl _ _).alloc (Nat.le_refl _) _)
theorem request_keep {wr : World} {g b : Nat} {t : TypeId} {cs : Array Value} (h : BlkIs wr b t cs) (hg : b ≠ g) (g0 g1 g2 : Int) : BlkIs (((wr.setCell ⟨g, 0, none⟩ (.int .i64 g0)).setCell ⟨g, 1, none⟩ (.int .i64 g1)).setCell ⟨g, 2, none⟩ (.int .i64 g2)) b t cs := (((h.far (p := ⟨g, 0, none⟩) hg (.int .i64 g0)).far (p := ⟨g, 1, none⟩) hg (.int .i64 g1)).far (p := ⟨g, 2, none⟩) hg (.int .i64 g2))
theorem alloc_request (w : World) : (Instr.alloc 48 true (.tuple #[])).run Try.prog w = .ok (ptrTo w.heap.size) (w.alloc (.cells #[.int .i64 0, .int .i64 0, .int .i64 0] 48)) := by
  go_simp
  rfl
theorem al_request (i d : Nat) : ∀ x ∈ [(⟨i, d, 48, #[.int .i64 0, .int .i64 0, .int .i64 0]⟩ : Al)], ∀ w, (Instr.alloc x.t true (.tuple #[])).run Try.prog w = .ok (ptrTo w.heap.size) (w.alloc (.cells x.z x.t)) := by
  intro x hx w
  simp only [List.mem_cons, List.not_mem_nil, or_false] at hx
  subst hx
  exact alloc_request w
set_option maxRecDepth 100000 in
set_option maxHeartbeats 4000000 in
theorem rtakeRequest_any (v : Value) (l : List UInt8) (w : World) (hsl : Sl w.heap.size w v l) : Calls Try.prog 31 #[v] w (TookRequest l w) := by
  obtain ⟨a, c, hv, hc, hx⟩ := id hsl
  subst hv
  by_cases hlen : l.length = 8
  · obtain ⟨b, o, rfl, hb, hcell⟩ := hx (by omega)
    clear hx
    have c0 := hcell 0 (l[0]'(by omega)) (List.getElem?_eq_getElem (by omega))
    have e0 : (numB (List.take 1 l)) = ((l[0]'(by omega)).toNat : Int) := by simpa using numB_at l 0 (by omega)
    generalize (l[0]'(by omega)) = y0 at c0 e0
    rw [Nat.add_zero] at c0
    have s1 := hsl.sub (n := 1) (k := 2) (by omega)
    obtain ⟨z1, hz1⟩ : ∃ z, z = numB ((l.drop 1).take 2) := ⟨_, rfl⟩
    have e1 : (numB (List.take 2 (List.drop 1 l))) = z1 := by rw [hz1]; try simp
    have HZ1 := Lib.hid hz1
    clear hz1
    have s2 := hsl.sub (n := 3) (k := 5) (by omega)
    obtain ⟨z2, hz2⟩ : ∃ z, z = numB ((l.drop 3).take 5) := ⟨_, rfl⟩
    have e2 : (numB (List.take 5 (List.drop 2 (List.drop 1 l)))) = z2 := by rw [hz2]; try simp
    have HZ2 := Lib.hid hz2
    clear hz2
    clear hcell
    rw [hlen] at hc ⊢
    have HLEN := Lib.hid hlen
    clear hlen hsl
    have HOK : Hid (requestOk l = requestB (y0.toNat : Int) z1 z2) := by
      unfold Hid requestOk
      rw [e0, e1, e2, HLEN.out]
      rfl
    go_enter Try.func31, Try.ntmps31
    go_wp2_with fail
    refine wp_region_rely [⟨11, 4, 48, #[.int .i64 0, .int .i64 0, .int .i64 0]⟩] [6, 9, 12] [0, 1, 2, 3, 4, 5, 7, 8, 6, 9, 10] [12] #[true, true, true, true, true, true, true, true, true, true, true, true, false] (by kernel_rfl) (by kernel_rfl) rfl (by decide) (by decide) (by kernel_rfl) (by kernel_rfl) (by kernel_rfl) (by kernel_rfl) (by decide) (by kernel_rfl) (al_request 11 4) (fun _ _ _ _ _ h => h) (fun _ _ _ _ _ h => h) ?_
    simp only [marked, List.getElem?_cons_zero, List.getElem?_cons_succ, List.contains_cons, List.contains_nil, Nat.reduceBEq, Bool.or_false, Bool.or_true, BEq.rfl]
    obtain ⟨W, hW⟩ : ∃ W, W = (w.alloc (.cells #[.int .i64 0, .int .i64 0, .int .i64 0] 48)).drew := ⟨_, rfl⟩
    have hz : BlkIs W w.heap.size 48 #[.int .i64 0, .int .i64 0, .int .i64 0] := by rw [hW]; exact BlkIs.new _ _ _
    have hbel : Below w.heap.size w W := by rw [hW]; exact ((Below.refl _ _).alloc (Nat.le_refl _) _).drew
    rw [← hW]
    clear hW
    have hbW : b < W.heap.size := Nat.lt_of_lt_of_le hb hbel.size
    replace c0 := (hbel.cell (p := ⟨b, o, none⟩) hb).trans c0
    have w0 := w64_u8 y0
    repeat (refine rl_quiet ?_; go_big_quiet_step (fail); refine wpQuiet_nil ?_)
    refine rl_loud rfl ?_
    intro W11 hW11 K hK
    replace hz := hz.below hW11 hz.lt
    replace hbel := bnext hbel hW11
    clear hW11
    go_simp
    go_at_call 63
    refine (gnum_any _ _ _ _ (s1.below hbel) (by simp; omega)).mono ?_
    rintro e u1 ⟨rfl, rfl⟩
    rw [← HZ1.out]
    refine hK _ _ (Below.refl _ _) ?_
    clear hK K
    repeat (refine rl_quiet ?_; go_big_quiet_step (fail); refine wpQuiet_nil ?_)
    refine rl_loud rfl ?_
    intro W12 hW12 K hK
    replace hz := hz.below hW12 hz.lt
    replace hbel := bnext hbel hW12
    clear hW12
    go_simp
    go_at_call 63
    refine (gnum_any _ _ _ _ (s2.below hbel) (by simp; omega)).mono ?_
    rintro e u2 ⟨rfl, rfl⟩
    rw [← HZ2.out]
    refine hK _ _ (Below.refl _ _) ?_
    clear hK K
    repeat (refine rl_quiet ?_; go_big_quiet_step (fail); refine wpQuiet_nil ?_)
    refine rl_nil ?_
    intro W2 hW2 sx hs1 hs2 hM
    replace hz := hz.below hW2 hz.lt
    replace hbel := bnext hbel hW2
    clear hW2
    obtain ⟨g, rfl, hg, hf⟩ := made1 hs1 hs2 hM
    clear hs1 hs2 hM
    simp at hg
    have hcf := hf.cell
    have hff := hf.frozen
    simp only [sets, ptrTo]
    refine ml_loud rfl ?_
    intro K hK
    go_simp
    have hf1 := request_put rfl hf (y0.toNat : Int) z1 z2
    have hz1 := request_keep hz (show w.heap.size ≠ g by omega) (y0.toNat : Int) z1 z2
    have hb1 := request_far hbel (show w.heap.size ≤ g by omega) (y0.toNat : Int) z1 z2
    refine hK _ _ _ (Nat.le_refl _) (request_far (Below.refl _ _) (by simp; omega) (y0.toNat : Int) z1 z2) ?_
    clear hK K hcf hff hf hz hbel
    refine ml_nil ?_
    generalize (((W2.setCell ⟨g, 0, none⟩ (.int .i64 (y0.toNat : Int))).setCell ⟨g, 1, none⟩ (.int .i64 z1)).setCell ⟨g, 2, none⟩ (.int .i64 z2)) = W3 at *
    have hcf := hf1.cell
    go_wp2_with fail
    refine (rofRequest_any (y0.toNat : Int) z1 z2 _).mono ?_
    rintro e W5 ⟨vr, rfl, hown, hb5⟩
    obtain ⟨va, vn, vc, rfl⟩ := (Part1.of hown).shape
    replace hz1 := hz1.below hb5 hz1.lt
    replace hf1 := hf1.below hb5 hf1.lt
    replace hb1 := bnext hb1 hb5
    clear hb5 hcf hown
    have hcz := hz1.cell
    have hfz := hz1.frozen
    have hcf := hf1.cell
    rw [← HOK.out]
    rcases hok : requestOk l with _ | _
    · go_wp2
      refine bodyPost_ret (v := .tuple #[.agg #[.int .i64 0, .int .i64 0, .int .i64 0], .bool false]) (results_cell2 Try.results31 _ _ w.heap.size 48 _ (0, 0) _ _ rfl rfl (request_put rfl hz1 0 0 0) Try.underlying48 rfl info_request) rfl ?_
      exact tookRequest_no hok (request_far hb1 (Nat.le_refl _) 0 0 0)
    · go_wp2
      refine bodyPost_ret (v := .tuple #[.agg #[.int .i64 (y0.toNat : Int), .int .i64 z1, .int .i64 z2], .bool true]) (results_cell2 Try.results31 _ _ w.heap.size 48 _ (0, 0) _ _ rfl rfl (request_put rfl hz1 (y0.toNat : Int) z1 z2) Try.underlying48 rfl info_request) rfl ?_
      exact tookRequest_yes e0 e1 e2 hok (request_far hb1 (Nat.le_refl _) (y0.toNat : Int) z1 z2)
  · have hok : requestOk l = false := by simp [requestOk, hlen]
    have hne : ¬ (l.length : Int) = 8 := by omega
    have hz : BlkIs (w.alloc (.cells #[.int .i64 0, .int .i64 0, .int .i64 0] 48)) w.heap.size 48 #[.int .i64 0, .int .i64 0, .int .i64 0] := BlkIs.new _ _ _
    clear hx
    go_enter Try.func31, Try.ntmps31
    go_wp2
    refine bodyPost_ret (v := .tuple #[.agg #[.int .i64 0, .int .i64 0, .int .i64 0], .bool false]) (results_cell2 Try.results31 _ _ w.heap.size 48 _ (0, 0) _ _ rfl rfl hz Try.underlying48 rfl info_request) rfl ?_
    exact tookRequest_no hok ((Below.refl _ _).alloc (Nat.le_refl _) _)
theorem remittance_keep {wr : World} {g b : Nat} {t : TypeId} {cs : Array Value} (h : BlkIs wr b t cs) (hg : b ≠ g) (g0 g1 g2 g3 g4 g5 : Int) : BlkIs ((((((wr.setCell ⟨g, 0, none⟩ (.int .i64 g0)).setCell ⟨g, 1, none⟩ (.int .i64 g1)).setCell ⟨g, 2, none⟩ (.int .i64 g2)).setCell ⟨g, 3, none⟩ (.int .i64 g3)).setCell ⟨g, 4, none⟩ (.int .i64 g4)).setCell ⟨g, 5, none⟩ (.int .i64 g5)) b t cs := ((((((h.far (p := ⟨g, 0, none⟩) hg (.int .i64 g0)).far (p := ⟨g, 1, none⟩) hg (.int .i64 g1)).far (p := ⟨g, 2, none⟩) hg (.int .i64 g2)).far (p := ⟨g, 3, none⟩) hg (.int .i64 g3)).far (p := ⟨g, 4, none⟩) hg (.int .i64 g4)).far (p := ⟨g, 5, none⟩) hg (.int .i64 g5))
theorem alloc_remittance (w : World) : (Instr.alloc 52 true (.tuple #[])).run Try.prog w = .ok (ptrTo w.heap.size) (w.alloc (.cells #[.int .i64 0, .int .i64 0, .int .i64 0, .int .i64 0, .int .i64 0, .int .i64 0] 52)) := by
  go_simp
  rfl
theorem al_remittance (i d : Nat) : ∀ x ∈ [(⟨i, d, 52, #[.int .i64 0, .int .i64 0, .int .i64 0, .int .i64 0, .int .i64 0, .int .i64 0]⟩ : Al)], ∀ w, (Instr.alloc x.t true (.tuple #[])).run Try.prog w = .ok (ptrTo w.heap.size) (w.alloc (.cells x.z x.t)) := by
  intro x hx w
  simp only [List.mem_cons, List.not_mem_nil, or_false] at hx
  subst hx
  exact alloc_remittance w
set_option maxRecDepth 100000 in
set_option maxHeartbeats 4000000 in
theorem rtakeRemittance_any (v : Value) (l : List UInt8) (w : World) (hsl : Sl w.heap.size w v l) : Calls Try.prog 33 #[v] w (TookRemittance l w) := by
  obtain ⟨a, c, hv, hc, hx⟩ := id hsl
  subst hv
  by_cases hlen : l.length = 16
  · obtain ⟨b, o, rfl, hb, hcell⟩ := hx (by omega)
    clear hx
    have c0 := hcell 0 (l[0]'(by omega)) (List.getElem?_eq_getElem (by omega))
    have e0 : (numB (List.take 1 l)) = ((l[0]'(by omega)).toNat : Int) := by simpa using numB_at l 0 (by omega)
    generalize (l[0]'(by omega)) = y0 at c0 e0
    rw [Nat.add_zero] at c0
    have c1 := hcell 1 (l[1]'(by omega)) (List.getElem?_eq_getElem (by omega))
    have e1 : (numB (List.take 1 (List.drop 1 l))) = ((l[1]'(by omega)).toNat : Int) := by simpa using numB_at l 1 (by omega)
    generalize (l[1]'(by omega)) = y1 at c1 e1
    have s2 := hsl.sub (n := 2) (k := 2) (by omega)
    obtain ⟨z2, hz2⟩ : ∃ z, z = numB ((l.drop 2).take 2) := ⟨_, rfl⟩
    have e2 : (numB (List.take 2 (List.drop 1 (List.drop 1 l)))) = z2 := by rw [hz2]; try simp
    have HZ2 := Lib.hid hz2
    clear hz2
    have s3 := hsl.sub (n := 4) (k := 2) (by omega)
    obtain ⟨z3, hz3⟩ : ∃ z, z = numB ((l.drop 4).take 2) := ⟨_, rfl⟩
    have e3 : (numB (List.take 2 (List.drop 2 (List.drop 1 (List.drop 1 l))))) = z3 := by rw [hz3]; try simp
    have HZ3 := Lib.hid hz3
    clear hz3
    have s4 := hsl.sub (n := 6) (k := 5) (by omega)
    obtain ⟨z4, hz4⟩ : ∃ z, z = numB ((l.drop 6).take 5) := ⟨_, rfl⟩
    have e4 : (numB (List.take 5 (List.drop 2 (List.drop 2 (List.drop 1 (List.drop 1 l)))))) = z4 := by rw [hz4]; try simp
    have HZ4 := Lib.hid hz4
    clear hz4
    have s5 := hsl.sub (n := 11) (k := 5) (by omega)
    obtain ⟨z5, hz5⟩ : ∃ z, z = numB ((l.drop 11).take 5) := ⟨_, rfl⟩
    have e5 : (numB (List.take 5 (List.drop 5 (List.drop 2 (List.drop 2 (List.drop 1 (List.drop 1 l))))))) = z5 := by rw [hz5]; try simp
    have HZ5 := Lib.hid hz5
    clear hz5
    clear hcell
    rw [hlen] at hc ⊢
    have HLEN := Lib.hid hlen
    clear hlen hsl
    have HOK : Hid (remittanceOk l = remittanceB (y0.toNat : Int) (y1.toNat : Int) z2 z3 z4 z5) := by
      unfold Hid remittanceOk
      rw [e0, e1, e2, e3, e4, e5, HLEN.out]
      rfl
    go_enter Try.func33, Try.ntmps33
    go_wp2_with fail
    refine wp_region_rely [⟨21, 4, 52, #[.int .i64 0, .int .i64 0, .int .i64 0, .int .i64 0, .int .i64 0, .int .i64 0]⟩] [10, 13, 16, 19, 22] [0, 1, 2, 3, 4, 5, 6, 7, 8, 9, 11, 12, 14, 15, 17, 18, 10, 13, 16, 19, 20] [22] #[true, true, true, true, true, true, true, true, true, true, true, true, true, true, true, true, true, true, true, true, true, true, false] (by kernel_rfl) (by kernel_rfl) rfl (by decide) (by decide) (by kernel_rfl) (by kernel_rfl) (by kernel_rfl) (by kernel_rfl) (by decide) (by kernel_rfl) (al_remittance 21 4) (fun _ _ _ _ _ h => h) (fun _ _ _ _ _ h => h) ?_
    simp only [marked, List.getElem?_cons_zero, List.getElem?_cons_succ, List.contains_cons, List.contains_nil, Nat.reduceBEq, Bool.or_false, Bool.or_true, BEq.rfl]
    obtain ⟨W, hW⟩ : ∃ W, W = (w.alloc (.cells #[.int .i64 0, .int .i64 0, .int .i64 0, .int .i64 0, .int .i64 0, .int .i64 0] 52)).drew := ⟨_, rfl⟩
    have hz : BlkIs W w.heap.size 52 #[.int .i64 0, .int .i64 0, .int .i64 0, .int .i64 0, .int .i64 0, .int .i64 0] := by rw [hW]; exact BlkIs.new _ _ _
    have hbel : Below w.heap.size w W := by rw [hW]; exact ((Below.refl _ _).alloc (Nat.le_refl _) _).drew
    rw [← hW]
    clear hW
    have hbW : b < W.heap.size := Nat.lt_of_lt_of_le hb hbel.size
    replace c0 := (hbel.cell (p := ⟨b, o, none⟩) hb).trans c0
    have w0 := w64_u8 y0
    replace c1 := (hbel.cell (p := ⟨b, o + 1, none⟩) hb).trans c1
    have w1 := w64_u8 y1
    repeat (refine rl_quiet ?_; go_big_quiet_step (fail); refine wpQuiet_nil ?_)
    refine rl_loud rfl ?_
    intro W12 hW12 K hK
    replace hz := hz.below hW12 hz.lt
    replace hbel := bnext hbel hW12
    clear hW12
    go_simp
    go_at_call 63
    refine (gnum_any _ _ _ _ (s2.below hbel) (by simp; omega)).mono ?_
    rintro e u2 ⟨rfl, rfl⟩
    rw [← HZ2.out]
    refine hK _ _ (Below.refl _ _) ?_
    clear hK K
    repeat (refine rl_quiet ?_; go_big_quiet_step (fail); refine wpQuiet_nil ?_)
    refine rl_loud rfl ?_
    intro W13 hW13 K hK
    replace hz := hz.below hW13 hz.lt
    replace hbel := bnext hbel hW13
    clear hW13
    go_simp
    go_at_call 63
    refine (gnum_any _ _ _ _ (s3.below hbel) (by simp; omega)).mono ?_
    rintro e u3 ⟨rfl, rfl⟩
    rw [← HZ3.out]
    refine hK _ _ (Below.refl _ _) ?_
    clear hK K
    repeat (refine rl_quiet ?_; go_big_quiet_step (fail); refine wpQuiet_nil ?_)
    refine rl_loud rfl ?_
    intro W14 hW14 K hK
    replace hz := hz.below hW14 hz.lt
    replace hbel := bnext hbel hW14
    clear hW14
    go_simp
    go_at_call 63
    refine (gnum_any _ _ _ _ (s4.below hbel) (by simp; omega)).mono ?_
    rintro e u4 ⟨rfl, rfl⟩
    rw [← HZ4.out]
    refine hK _ _ (Below.refl _ _) ?_
    clear hK K
    repeat (refine rl_quiet ?_; go_big_quiet_step (fail); refine wpQuiet_nil ?_)
    refine rl_loud rfl ?_
    intro W15 hW15 K hK
    replace hz := hz.below hW15 hz.lt
    replace hbel := bnext hbel hW15
    clear hW15
    go_simp
    go_at_call 63
    refine (gnum_any _ _ _ _ (s5.below hbel) (by simp; omega)).mono ?_
    rintro e u5 ⟨rfl, rfl⟩
    rw [← HZ5.out]
    refine hK _ _ (Below.refl _ _) ?_
    clear hK K
    repeat (refine rl_quiet ?_; go_big_quiet_step (fail); refine wpQuiet_nil ?_)
    refine rl_nil ?_
    intro W2 hW2 sx hs1 hs2 hM
    replace hz := hz.below hW2 hz.lt
    replace hbel := bnext hbel hW2
    clear hW2
    obtain ⟨g, rfl, hg, hf⟩ := made1 hs1 hs2 hM
    clear hs1 hs2 hM
    simp at hg
    have hcf := hf.cell
    have hff := hf.frozen
    simp only [sets, ptrTo]
    refine ml_loud rfl ?_
    intro K hK
    go_simp
    have hf1 := remittance_put rfl hf (y0.toNat : Int) (y1.toNat : Int) z2 z3 z4 z5
    have hz1 := remittance_keep hz (show w.heap.size ≠ g by omega) (y0.toNat : Int) (y1.toNat : Int) z2 z3 z4 z5
    have hb1 := remittance_far hbel (show w.heap.size ≤ g by omega) (y0.toNat : Int) (y1.toNat : Int) z2 z3 z4 z5
    refine hK _ _ _ (Nat.le_refl _) (remittance_far (Below.refl _ _) (by simp; omega) (y0.toNat : Int) (y1.toNat : Int) z2 z3 z4 z5) ?_
    clear hK K hcf hff hf hz hbel
    refine ml_nil ?_
    generalize ((((((W2.setCell ⟨g, 0, none⟩ (.int .i64 (y0.toNat : Int))).setCell ⟨g, 1, none⟩ (.int .i64 (y1.toNat : Int))).setCell ⟨g, 2, none⟩ (.int .i64 z2)).setCell ⟨g, 3, none⟩ (.int .i64 z3)).setCell ⟨g, 4, none⟩ (.int .i64 z4)).setCell ⟨g, 5, none⟩ (.int .i64 z5)) = W3 at *
    have hcf := hf1.cell
    go_wp2_with fail
    refine (rofRemittance_any (y0.toNat : Int) (y1.toNat : Int) z2 z3 z4 z5 _).mono ?_
    rintro e W5 ⟨vr, rfl, hown, hb5⟩
    obtain ⟨va, vn, vc, rfl⟩ := (Part1.of hown).shape
    replace hz1 := hz1.below hb5 hz1.lt
    replace hf1 := hf1.below hb5 hf1.lt
    replace hb1 := bnext hb1 hb5
    clear hb5 hcf hown
    have hcz := hz1.cell
    have hfz := hz1.frozen
    have hcf := hf1.cell
    rw [← HOK.out]
    rcases hok : remittanceOk l with _ | _
    · go_wp2
      refine bodyPost_ret (v := .tuple #[.agg #[.int .i64 0, .int .i64 0, .int .i64 0, .int .i64 0, .int .i64 0, .int .i64 0], .bool false]) (results_cell2 Try.results33 _ _ w.heap.size 52 _ (0, 0) _ _ rfl rfl (remittance_put rfl hz1 0 0 0 0 0 0) Try.underlying52 rfl info_remittance) rfl ?_
      exact tookRemittance_no hok (remittance_far hb1 (Nat.le_refl _) 0 0 0 0 0 0)
    · go_wp2
      refine bodyPost_ret (v := .tuple #[.agg #[.int .i64 (y0.toNat : Int), .int .i64 (y1.toNat : Int), .int .i64 z2, .int .i64 z3, .int .i64 z4, .int .i64 z5], .bool true]) (results_cell2 Try.results33 _ _ w.heap.size 52 _ (0, 0) _ _ rfl rfl (remittance_put rfl hz1 (y0.toNat : Int) (y1.toNat : Int) z2 z3 z4 z5) Try.underlying52 rfl info_remittance) rfl ?_
      exact tookRemittance_yes e0 e1 e2 e3 e4 e5 hok (remittance_far hb1 (Nat.le_refl _) (y0.toNat : Int) (y1.toNat : Int) z2 z3 z4 z5)
  · have hok : remittanceOk l = false := by simp [remittanceOk, hlen]
    have hne : ¬ (l.length : Int) = 16 := by omega
    have hz : BlkIs (w.alloc (.cells #[.int .i64 0, .int .i64 0, .int .i64 0, .int .i64 0, .int .i64 0, .int .i64 0] 52)) w.heap.size 52 #[.int .i64 0, .int .i64 0, .int .i64 0, .int .i64 0, .int .i64 0, .int .i64 0] := BlkIs.new _ _ _
    clear hx
    go_enter Try.func33, Try.ntmps33
    go_wp2
    refine bodyPost_ret (v := .tuple #[.agg #[.int .i64 0, .int .i64 0, .int .i64 0, .int .i64 0, .int .i64 0, .int .i64 0], .bool false]) (results_cell2 Try.results33 _ _ w.heap.size 52 _ (0, 0) _ _ rfl rfl hz Try.underlying52 rfl info_remittance) rfl ?_
    exact tookRemittance_no hok ((Below.refl _ _).alloc (Nat.le_refl _) _)
theorem notice_keep {wr : World} {g b : Nat} {t : TypeId} {cs : Array Value} (h : BlkIs wr b t cs) (hg : b ≠ g) (g0 g1 g2 g3 : Int) : BlkIs ((((wr.setCell ⟨g, 0, none⟩ (.int .i64 g0)).setCell ⟨g, 1, none⟩ (.int .i64 g1)).setCell ⟨g, 2, none⟩ (.int .i64 g2)).setCell ⟨g, 3, none⟩ (.int .i64 g3)) b t cs := ((((h.far (p := ⟨g, 0, none⟩) hg (.int .i64 g0)).far (p := ⟨g, 1, none⟩) hg (.int .i64 g1)).far (p := ⟨g, 2, none⟩) hg (.int .i64 g2)).far (p := ⟨g, 3, none⟩) hg (.int .i64 g3))
theorem alloc_notice (w : World) : (Instr.alloc 56 true (.tuple #[])).run Try.prog w = .ok (ptrTo w.heap.size) (w.alloc (.cells #[.int .i64 0, .int .i64 0, .int .i64 0, .int .i64 0] 56)) := by
  go_simp
  rfl
theorem al_notice (i d : Nat) : ∀ x ∈ [(⟨i, d, 56, #[.int .i64 0, .int .i64 0, .int .i64 0, .int .i64 0]⟩ : Al)], ∀ w, (Instr.alloc x.t true (.tuple #[])).run Try.prog w = .ok (ptrTo w.heap.size) (w.alloc (.cells x.z x.t)) := by
  intro x hx w
  simp only [List.mem_cons, List.not_mem_nil, or_false] at hx
  subst hx
  exact alloc_notice w
set_option maxRecDepth 100000 in
set_option maxHeartbeats 4000000 in
theorem rtakeNotice_any (v : Value) (l : List UInt8) (w : World) (hsl : Sl w.heap.size w v l) : Calls Try.prog 35 #[v] w (TookNotice l w) := by
  obtain ⟨a, c, hv, hc, hx⟩ := id hsl
  subst hv
  by_cases hlen : l.length = 14
  · obtain ⟨b, o, rfl, hb, hcell⟩ := hx (by omega)
    clear hx
    have c0 := hcell 0 (l[0]'(by omega)) (List.getElem?_eq_getElem (by omega))
    have e0 : (numB (List.take 1 l)) = ((l[0]'(by omega)).toNat : Int) := by simpa using numB_at l 0 (by omega)
    generalize (l[0]'(by omega)) = y0 at c0 e0
    rw [Nat.add_zero] at c0
    have s1 := hsl.sub (n := 1) (k := 2) (by omega)
    obtain ⟨z1, hz1⟩ : ∃ z, z = numB ((l.drop 1).take 2) := ⟨_, rfl⟩
    have e1 : (numB (List.take 2 (List.drop 1 l))) = z1 := by rw [hz1]; try simp
    have HZ1 := Lib.hid hz1
    clear hz1
    have s2 := hsl.sub (n := 3) (k := 5) (by omega)
    obtain ⟨z2, hz2⟩ : ∃ z, z = numB ((l.drop 3).take 5) := ⟨_, rfl⟩
    have e2 : (numB (List.take 5 (List.drop 2 (List.drop 1 l)))) = z2 := by rw [hz2]; try simp
    have HZ2 := Lib.hid hz2
    clear hz2
    have s3 := hsl.sub (n := 8) (k := 6) (by omega)
    obtain ⟨z3, hz3⟩ : ∃ z, z = numB ((l.drop 8).take 6) := ⟨_, rfl⟩
    have e3 : (numB (List.take 6 (List.drop 5 (List.drop 2 (List.drop 1 l)))) - 1000000000000) = (z3 - 1000000000000) := by rw [hz3]; try simp
    have HZ3 := Lib.hid hz3
    clear hz3
    clear hcell
    rw [hlen] at hc ⊢
    have HLEN := Lib.hid hlen
    clear hlen hsl
    have hb3 : 0 ≤ z3 ∧ z3 < 281474976710656 := by rw [HZ3.out]; exact numB_lt (l.drop 8) 6 (by decide)
    have HOK : Hid (noticeOk l = noticeB (y0.toNat : Int) z1 z2 (z3 - 1000000000000)) := by
      unfold Hid noticeOk
      rw [e0, e1, e2, e3, HLEN.out]
      rfl
    go_enter Try.func35, Try.ntmps35
    go_wp2_with fail
    refine wp_region_rely [⟨15, 4, 56, #[.int .i64 0, .int .i64 0, .int .i64 0, .int .i64 0]⟩] [6, 9, 12, 16] [0, 1, 2, 3, 4, 5, 7, 8, 10, 11, 6, 9, 12, 13, 14] [16] #[true, true, true, true, true, true, true, true, true, true, true, true, true, true, true, true, false] (by kernel_rfl) (by kernel_rfl) rfl (by decide) (by decide) (by kernel_rfl) (by kernel_rfl) (by kernel_rfl) (by kernel_rfl) (by decide) (by kernel_rfl) (al_notice 15 4) (fun _ _ _ _ _ h => h) (fun _ _ _ _ _ h => h) ?_
    simp only [marked, List.getElem?_cons_zero, List.getElem?_cons_succ, List.contains_cons, List.contains_nil, Nat.reduceBEq, Bool.or_false, Bool.or_true, BEq.rfl]
    obtain ⟨W, hW⟩ : ∃ W, W = (w.alloc (.cells #[.int .i64 0, .int .i64 0, .int .i64 0, .int .i64 0] 56)).drew := ⟨_, rfl⟩
    have hz : BlkIs W w.heap.size 56 #[.int .i64 0, .int .i64 0, .int .i64 0, .int .i64 0] := by rw [hW]; exact BlkIs.new _ _ _
    have hbel : Below w.heap.size w W := by rw [hW]; exact ((Below.refl _ _).alloc (Nat.le_refl _) _).drew
    rw [← hW]
    clear hW
    have hbW : b < W.heap.size := Nat.lt_of_lt_of_le hb hbel.size
    replace c0 := (hbel.cell (p := ⟨b, o, none⟩) hb).trans c0
    have w0 := w64_u8 y0
    repeat (refine rl_quiet ?_; go_big_quiet_step (fail); refine wpQuiet_nil ?_)
    refine rl_loud rfl ?_
    intro W11 hW11 K hK
    replace hz := hz.below hW11 hz.lt
    replace hbel := bnext hbel hW11
    clear hW11
    go_simp
    go_at_call 63
    refine (gnum_any _ _ _ _ (s1.below hbel) (by simp; omega)).mono ?_
    rintro e u1 ⟨rfl, rfl⟩
    rw [← HZ1.out]
    refine hK _ _ (Below.refl _ _) ?_
    clear hK K
    repeat (refine rl_quiet ?_; go_big_quiet_step (fail); refine wpQuiet_nil ?_)
    refine rl_loud rfl ?_
    intro W12 hW12 K hK
    replace hz := hz.below hW12 hz.lt
    replace hbel := bnext hbel hW12
    clear hW12
    go_simp
    go_at_call 63
    refine (gnum_any _ _ _ _ (s2.below hbel) (by simp; omega)).mono ?_
    rintro e u2 ⟨rfl, rfl⟩
    rw [← HZ2.out]
    refine hK _ _ (Below.refl _ _) ?_
    clear hK K
    repeat (refine rl_quiet ?_; go_big_quiet_step (fail); refine wpQuiet_nil ?_)
    refine rl_loud rfl ?_
    intro W13 hW13 K hK
    replace hz := hz.below hW13 hz.lt
    replace hbel := bnext hbel hW13
    clear hW13
    go_simp
    go_at_call 63
    refine (gnum_any _ _ _ _ (s3.below hbel) (by simp; omega)).mono ?_
    rintro e u3 ⟨rfl, rfl⟩
    rw [← HZ3.out]
    refine hK _ _ (Below.refl _ _) ?_
    clear hK K
    repeat (refine rl_quiet ?_; go_big_quiet_step (fail); refine wpQuiet_nil ?_)
    refine rl_nil ?_
    intro W2 hW2 sx hs1 hs2 hM
    replace hz := hz.below hW2 hz.lt
    replace hbel := bnext hbel hW2
    clear hW2
    obtain ⟨g, rfl, hg, hf⟩ := made1 hs1 hs2 hM
    clear hs1 hs2 hM
    simp at hg
    have hcf := hf.cell
    have hff := hf.frozen
    simp only [sets, ptrTo]
    refine ml_loud rfl ?_
    intro K hK
    go_simp
    have hf1 := notice_put rfl hf (y0.toNat : Int) z1 z2 (z3 - 1000000000000)
    have hz1 := notice_keep hz (show w.heap.size ≠ g by omega) (y0.toNat : Int) z1 z2 (z3 - 1000000000000)
    have hb1 := notice_far hbel (show w.heap.size ≤ g by omega) (y0.toNat : Int) z1 z2 (z3 - 1000000000000)
    refine hK _ _ _ (Nat.le_refl _) (notice_far (Below.refl _ _) (by simp; omega) (y0.toNat : Int) z1 z2 (z3 - 1000000000000)) ?_
    clear hK K hcf hff hf hz hbel
    refine ml_nil ?_
    generalize ((((W2.setCell ⟨g, 0, none⟩ (.int .i64 (y0.toNat : Int))).setCell ⟨g, 1, none⟩ (.int .i64 z1)).setCell ⟨g, 2, none⟩ (.int .i64 z2)).setCell ⟨g, 3, none⟩ (.int .i64 (z3 - 1000000000000))) = W3 at *
    have hcf := hf1.cell
    go_wp2_with fail
    refine (rofNotice_any (y0.toNat : Int) z1 z2 (z3 - 1000000000000) _).mono ?_
    rintro e W5 ⟨vr, rfl, hown, hb5⟩
    obtain ⟨va, vn, vc, rfl⟩ := (Part1.of hown).shape
    replace hz1 := hz1.below hb5 hz1.lt
    replace hf1 := hf1.below hb5 hf1.lt
    replace hb1 := bnext hb1 hb5
    clear hb5 hcf hown
    have hcz := hz1.cell
    have hfz := hz1.frozen
    have hcf := hf1.cell
    rw [← HOK.out]
    rcases hok : noticeOk l with _ | _
    · go_wp2
      refine bodyPost_ret (v := .tuple #[.agg #[.int .i64 0, .int .i64 0, .int .i64 0, .int .i64 0], .bool false]) (results_cell2 Try.results35 _ _ w.heap.size 56 _ (0, 0) _ _ rfl rfl (notice_put rfl hz1 0 0 0 0) Try.underlying56 rfl info_notice) rfl ?_
      exact tookNotice_no hok (notice_far hb1 (Nat.le_refl _) 0 0 0 0)
    · go_wp2
      refine bodyPost_ret (v := .tuple #[.agg #[.int .i64 (y0.toNat : Int), .int .i64 z1, .int .i64 z2, .int .i64 (z3 - 1000000000000)], .bool true]) (results_cell2 Try.results35 _ _ w.heap.size 56 _ (0, 0) _ _ rfl rfl (notice_put rfl hz1 (y0.toNat : Int) z1 z2 (z3 - 1000000000000)) Try.underlying56 rfl info_notice) rfl ?_
      exact tookNotice_yes e0 e1 e2 e3 hok (notice_far hb1 (Nat.le_refl _) (y0.toNat : Int) z1 z2 (z3 - 1000000000000))
  · have hok : noticeOk l = false := by simp [noticeOk, hlen]
    have hne : ¬ (l.length : Int) = 14 := by omega
    have hz : BlkIs (w.alloc (.cells #[.int .i64 0, .int .i64 0, .int .i64 0, .int .i64 0] 56)) w.heap.size 56 #[.int .i64 0, .int .i64 0, .int .i64 0, .int .i64 0] := BlkIs.new _ _ _
    clear hx
    go_enter Try.func35, Try.ntmps35
    go_wp2
    refine bodyPost_ret (v := .tuple #[.agg #[.int .i64 0, .int .i64 0, .int .i64 0, .int .i64 0], .bool false]) (results_cell2 Try.results35 _ _ w.heap.size 56 _ (0, 0) _ _ rfl rfl hz Try.underlying56 rfl info_notice) rfl ?_
    exact tookNotice_no hok ((Below.refl _ _).alloc (Nat.le_refl _) _)
end Go.Proofs.Ytkkjiihdmpngbaa
