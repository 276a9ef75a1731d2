/-
  The contract of Decode of the reference.
-/
import Derived.Test.YtkkjiihdmpngbaaDg2
import Derived.Test.YtkkjiihdmpngbaaDb3
import Derived.Outline
namespace Go.Proofs.Ytkkjiihdmpngbaa
open Go.RowKit
set_option linter.unusedVariables false

set_option maxRecDepth 100000 in
/-- append([]byte(nil), s...), s not nil. -/
theorem wp_fromnil {o : Oper} {a : Act} {K : Act → World → Prop} {Q : Exit → Act → World → Prop} (s x : Operand)
    (ho : o.op = .call { callee := .builtin .append, args := #[s, x], argTypes := #[22, 22] })
    (B : Nat) (ad : Addr) (n c : Nat) (m : List UInt8) (wr : World) (hs : a.eval s = .slice none 0 0) (hx : a.eval x = .slice (some ad) n c) (hn : n = m.length) (hy : Sl B wr (.slice (some ad) n c) m)
    (hlen : m.length ≤ 140737488355328)
    (h : ∀ v' w', w'.ownsRow wr.heap.size 5 1 v' m.length (bytesV m) → Below wr.heap.size wr w' → K (a.put o.dst v') w') : o.wp Try.prog a wr K Q := by
  subst hn
  obtain ⟨i0, hi, hz0, hz1, hz2⟩ := info_parts Try.infoU8
  obtain ⟨ad', c', he, hc, hcell⟩ := hy
  injection he with h1 h2 h3
  subst h1 h3
  refine wp_append_own _ s x 22 ho wr.heap.size 5 i0 (.int .u8 0) 1 1 Try.underlying22 hi hz0 hz1 hz2 rfl (by decide) (.slice none 0 0) 0 [] hs ⟨rfl, .inl ⟨rfl, rfl⟩⟩ ad m.length c (bytesV m) hx (by rw [bytesV_length]; omega) ?_ (one_bytesV m) (by simp only [maxLen]; omega) (by omega) (Nat.le_refl _) ?_
  · intro j u hu
    have hj : j < m.length := by have := (List.getElem?_eq_some_iff.1 hu).1; rw [bytesV_length] at this; exact this
    obtain ⟨b, o, hh, _, hxx⟩ := hcell (by omega)
    injection hh with hh
    subst hh
    have hadd : (⟨b, o, none⟩ : Addr).add j = ⟨b, o + j, none⟩ := by unfold Addr.add; split <;> simp_all
    rw [hadd]
    simp only [bytesV, List.getElem?_map, Option.map_eq_some_iff] at hu
    obtain ⟨z, hz, rfl⟩ := hu
    exact hxx j z hz
  · intro v' w' hown' hg _
    refine h v' w' ?_ ⟨hg.os, hg.tape, hg.output, hg.size, fun k hk => hg.block k hk (by simp [Value.ownBlock])⟩
    simpa using hown'
set_option maxRecDepth 100000 in
set_option maxHeartbeats 2000000 in
theorem rdecode_any (v : Value) (l : List UInt8) (w : World) (hsl : Sl w.heap.size w v l) (hl : l.length ≤ 140737488351232) :
    Calls Try.prog 29 #[v] w (DecPost l w) := by
  obtain ⟨a, c, hv, hc, hx⟩ := id hsl
  subst hv
  have hz : BlkIs (w.alloc (.cells #[.int .i64 0, .int .i64 0, .int .i64 0, .int .u32 0, .slice none 0 0] 34)) w.heap.size 34 #[.int .i64 0, .int .i64 0, .int .i64 0, .int .u32 0, .slice none 0 0] := BlkIs.new _ _ _
  have hbel : Below w.heap.size w (w.alloc (.cells #[.int .i64 0, .int .i64 0, .int .i64 0, .int .u32 0, .slice none 0 0] 34)) := (Below.refl _ _).alloc (Nat.le_refl _) _
  by_cases h15 : 15 ≤ l.length
  · obtain ⟨b, o, rfl, hb, hcell⟩ := hx (by omega)
    clear hx
    have c0 := hcell 0 (l[0]'(by omega)) (List.getElem?_eq_getElem (by omega))
    have e0 : (numB (List.take 1 l)) = ((l[0]'(by omega)).toNat : Int) := by simpa using numB_at l 0 (by omega)
    generalize (l[0]'(by omega)) = y0 at c0 e0
    rw [Nat.add_zero] at c0
    have c1 := hcell 1 (l[1]'(by omega)) (List.getElem?_eq_getElem (by omega))
    have e1 : dK l = ((l[1]'(by omega)).toNat : Int) := numB_at l 1 (by omega)
    generalize (l[1]'(by omega)) = y1 at c1 e1
    have c2 := hcell 2 (l[2]'(by omega)) (List.getElem?_eq_getElem (by omega))
    have e2 : dS l = ((l[2]'(by omega)).toNat : Int) := numB_at l 2 (by omega)
    generalize (l[2]'(by omega)) = y2 at c2 e2
    clear hcell
    have E1 := Lib.hid e1
    have E2 := Lib.hid e2
    clear e1 e2
    have i1 : (15 : Int) ≤ (l.length : Int) := by omega
    have i2 : (l.length : Int) ≤ (c : Int) := by omega
    have i3 : decide ((l.length : Int) < 15) = false := decide_eq_false (by omega)
    have sM := Lib.hid (hsl.sub (n := 9) (k := 2) (by omega))
    have sN := Lib.hid (hsl.sub (n := 3) (k := 2) (by omega))
    have sP := Lib.hid (hsl.sub (n := 5) (k := 4) (by omega))
    have s5 : Hid (Sl w.heap.size w (.slice (some ⟨b, o + 11, none⟩) (l.length - 4 - 11) (c - 11)) (dBody l)) := by
      have := hsl.sub (n := 11) (k := l.length - 15) (by omega)
      rw [show l.length - 4 - 11 = l.length - 15 by omega]
      exact this
    have hbl : (dBody l).length = l.length - 4 - 11 := by unfold dBody; simp; omega
    have HBL := Lib.hid hbl
    clear hbl
    obtain ⟨q0, hq0⟩ : ∃ q0 : Int, q0 = (y0.toNat : Int) := ⟨_, rfl⟩
    rw [← hq0] at c0 e0
    have H0 := Lib.hid e0
    clear hq0 e0
    obtain ⟨m, hm⟩ : ∃ m : Int, m = dM l := ⟨_, rfl⟩
    have HM : Hid (m = dM l) := hm
    have HM' : Hid (numB (List.take 2 (List.drop 9 l)) = m) := hm.symm
    clear hm
    by_cases hmm : (l.length : Int) - 15 = m
    · by_cases h68 : q0 = 68
      · subst h68 hmm
        have pN := numB_lt (List.drop 3 l) 2 (by decide)
        have HN' : Hid (numB (List.take 2 (List.drop 3 l)) = dN l) := rfl
        have HP' : Hid (numB (List.take 4 (List.drop 5 l)) = dP l) := rfl
        have p3 : 0 ≤ dP l ∧ dP l < 4294967296 := by
          have h := numB_bd (List.take 4 (List.drop 5 l))
          have h4 : (List.take 4 (List.drop 5 l)).length = 4 := by simp; omega
          rw [h4] at h
          exact h
        obtain ⟨p0, p1⟩ := p3
        clear pN
        go_enter Try.func29, Try.ntmps29
        go_wp2_with fail
        refine (gnum_any _ _ _ _ (sM.out.below hbel) (by simp; omega)).mono ?_
        rintro e w' ⟨rfl, rfl⟩
        rw [HM'.out]
        replace c0 := (hbel.cell (p := ⟨b, o, none⟩) hb).trans c0
        replace c1 := (hbel.cell (p := ⟨b, o + 1, none⟩) hb).trans c1
        replace c2 := (hbel.cell (p := ⟨b, o + 2, none⟩) hb).trans c2
        go_wp2_with fail
        refine wp_region_rg [] [⟨22, 4, 34, #[.int .i64 0, .int .i64 0, .int .i64 0, .int .u32 0, .slice none 0 0], fun b => .pointer (some ⟨b, 0, none⟩)⟩] [10, 13, 20, 23] [0, 1, 2, 3, 4, 5, 6, 7, 8, 9, 11, 12, 15, 16, 17, 18, 19] [10, 13, 14, 20, 21] [23] #[true, true, true, true, true, true, true, true, true, true, true, true, true, true, true, true, true, true, true, true, true, true, true, false] #[true, true, true, true, true, true, true, true, true, true, false, true, true, false, false, true, true, true, true, true, false, false, false, false] (by kernel_rfl) (by kernel_rfl) rfl (by decide) (by decide) (by decide) (by kernel_rfl) (by kernel_rfl) (by kernel_rfl) (by kernel_rfl) (by kernel_rfl) (by kernel_rfl) (by kernel_rfl) (fun _ _ _ _ _ h => h) (fun _ _ _ _ _ h => h) (by simp) ?_
        simp only [picked, marked, List.getElem?_cons_zero, List.getElem?_cons_succ, List.contains_cons, List.contains_nil, Nat.reduceBEq, Bool.or_false, Bool.or_true, BEq.rfl]
        replace hz := hz.drew
        replace hbel := hbel.drew
        replace c1 : (w.alloc (.cells #[.int .i64 0, .int .i64 0, .int .i64 0, .int .u32 0, .slice none 0 0] 34)).drew.cell? ⟨b, o + 1, none⟩ = some (.int .u8 (y1.toNat : Int)) := c1
        replace c2 : (w.alloc (.cells #[.int .i64 0, .int .i64 0, .int .i64 0, .int .u32 0, .slice none 0 0] 34)).drew.cell? ⟨b, o + 2, none⟩ = some (.int .u8 (y2.toNat : Int)) := c2
        clear c0
        generalize (w.alloc (.cells #[.int .i64 0, .int .i64 0, .int .i64 0, .int .u32 0, .slice none 0 0] 34)).drew = W0 at *
        have bW : b < W0.heap.size := Nat.lt_of_lt_of_le hb hbel.size
        have w1 := w64_u8 y1
        have w2 := w64_u8 y2
        repeat (refine pre_quiet ?_; go_big_quiet_step (fail); refine wpQuiet_nil ?_)
        refine pre_nil ⟨?_, ?_⟩
        · intro x hx o ho w3
          simp only [List.mem_cons, List.not_mem_nil, or_false] at hx
          subst hx
          simp at ho
          subst ho
          go_simp
        clear c1 c2
        refine rs_loud rfl ?_
        intro W1 hW1 K hK
        replace hz := hz.below hW1 hz.lt
        replace hbel := bnext hbel hW1
        clear hW1
        go_simp
        go_at_call 63
        refine (gnum_any _ _ _ _ (sN.out.below hbel) (by simp; omega)).mono ?_
        rintro e u1 ⟨rfl, rfl⟩
        rw [HN'.out]
        refine hK _ _ (KeptBut.refl _ _) ?_
        clear hK K
        refine rs_loud rfl ?_
        intro W2 hW2 K hK
        replace hz := hz.below hW2 hz.lt
        replace hbel := bnext hbel hW2
        clear hW2
        go_simp
        go_at_call 63
        refine (gnum_any _ _ _ _ (sP.out.below hbel) (by simp; omega)).mono ?_
        rintro e u2 ⟨rfl, rfl⟩
        rw [HP'.out]
        refine hK _ _ (KeptBut.refl _ _) ?_
        clear hK K
        repeat (refine rs_quiet ?_; go_big_quiet_step (fail); refine wpQuiet_nil ?_)
        refine rs_loud rfl ?_
        intro W3 hW3 K hK
        replace hz := hz.below hW3 hz.lt
        replace hbel := bnext hbel hW3
        clear hW3
        refine wp_fromnil _ _ rfl _ _ _ _ (dBody l) W3 rfl rfl HBL.out.symm (s5.out.below hbel) (by have := HBL.out; omega) ?_
        intro v5 u5 hown hb5
        obtain ⟨a5, c5, hv5⟩ := own_len hown
        subst hv5
        have hB5 : w.heap.size + 1 ≤ W3.heap.size := hz.lt
        refine hK _ _ (KeptBut.of_below hb5) ?_
        clear hK K
        replace hz := hz.below hb5 hz.lt
        replace hbel := bnext hbel hb5
        replace hown := own_mono hown hB5
        clear hb5 hB5
        obtain ⟨n5, hn5⟩ : ∃ n5, n5 = (dBody l).length := ⟨_, rfl⟩
        rw [← hn5]
        rw [← hn5] at hown
        have HN5 := Lib.hid hn5
        clear hn5
        go_simp
        repeat (refine rs_quiet ?_; go_big_quiet_step (fail); refine wpQuiet_nil ?_)
        refine rs_nil ?_
        intro W6 hW6 sx hs1 hs2 hM
        replace hz := hz.below hW6 hz.lt
        replace hbel := bnext hbel hW6
        replace hown := own_below hown hW6
        clear hW6
        obtain ⟨g, rfl, hg, hf⟩ := mde1 hs1 hs2 hM
        clear hs1 hs2 hM
        have hcf := hf.cell
        have hff := hf.frozen
        simp only [msets]
        refine ⟨[g], ?_⟩
        refine ms_loud rfl ?_
        intro K hK
        go_simp
        clear w1 w2
        rw [← E1.out, ← E2.out]
        have hgr := doc_kept (w := W6) (g := g) (.int .i64 (dS l)) (.int .i64 (dN l)) (.int .i64 (dK l)) (.int .u32 (dP l)) (.slice a5 n5 c5)
        have hd7 := doc_put rfl hf (.int .i64 (dS l)) (.int .i64 (dN l)) (.int .i64 (dK l)) (.int .u32 (dP l)) (.slice a5 n5 c5)
        refine hK _ _ (KeptBut.of_grown hgr (by simp)) ?_
        clear hK K hcf hff
        try simp at hg
        have hap := hf.apart hown (by decide)
        replace hown := own_grown hown hgr hap
        replace hz := hz.grown hgr (by simp; omega)
        replace hbel := hbel.grown hgr hbel.size (fun k hk => by injection hk; omega)
        clear hgr hap hf
        generalize (((((W6.setCell ⟨g, 0, none⟩ (.int .i64 (dS l))).setCell ⟨g, 1, none⟩ (.int .i64 (dN l))).setCell ⟨g, 2, none⟩ (.int .i64 (dK l))).setCell ⟨g, 3, none⟩ (.int .u32 (dP l))).setCell ⟨g, 4, none⟩ (.slice a5 n5 c5)) = W7 at *
        refine ms_nil ?_
        have hOK0 := dOk_ref h15 (by rw [H0.out]) (by rw [← HM.out])
        have HOK0 := Lib.hid hOK0
        clear hOK0
        generalize hs : dS l = s at *
        generalize hn : dN l = n at *
        generalize hk : dK l = k at *
        generalize hp : dP l = p at *
        have HSS := Lib.hid (And.intro hs (And.intro hn (And.intro hk hp)))
        clear hs hn hk hp E1 E2 HN' HP' HM HM' H0
        have hpb := Part1.of (l := dBody l) (by have := hown; rw [HN5.out] at this; exact this)
        rw [← HN5.out] at hpb
        have HPB := Lib.hid hpb
        clear hpb
        have hcd := hd7.cell
        go_wp2_with fail
        refine (rencode_any s n k p _ (dBody l) _ HPB.out.1 HPB.out.2 (by have := HBL.out; omega) p0 p1).mono ?_
        rintro e u8 ⟨x, rfl, hownx, hb8⟩
        clear hcd HPB
        replace hz := hz.below hb8 hz.lt
        replace hbel := bnext hbel hb8
        replace hown := own_below hown hb8
        replace hd7 := hd7.below hb8 hd7.lt
        clear hb8
        obtain ⟨ax, cx, hvx⟩ := own_len hownx
        subst hvx
        rcases hdb : docB s n k p (dBody l) with _ | _
        · have HE : Hid (encE s n k p (dBody l) = 1) := by simp [Hid, encE, hdb]
          rw [hdb] at HOK0
          clear hdb
          rw [HE.out]
          have hcz := hz.cell
          have hfz := hz.frozen
          go_wp2
          refine bodyPost_ret (v := .tuple #[.agg #[.int .i64 0, .int .i64 0, .int .i64 0, .int .u32 0, .slice none 0 0], .int .i64 11]) (results_cell2 Try.results29 _ _ w.heap.size 34 _ (0, 0) _ _ rfl rfl (doc_put rfl hz _ _ _ _ _) Try.underlying34 rfl info_doc) rfl ?_
          exact dec_no HOK0.out (doc_far hbel (Nat.le_refl _) _ _ _ _ _)
        · have HE : Hid (encE s n k p (dBody l) = 0) := by simp [Hid, encE, hdb]
          rw [hdb] at HOK0
          clear hdb
          rw [HE.out]
          generalize encO s n k p (dBody l) = X at *
          have hcv1 := (Sl.of_own hownx).string
          have hcv2 := (hsl.below hbel).string
          generalize X.length = nx at *
          have hcz := hz.cell
          have hfz := hz.frozen
          have hcd := hd7.cell
          by_cases hXl : X = l
          · subst hXl
            go_wp2
            have hgr := doc_kept (w := u8) (g := w.heap.size) (.int .i64 s) (.int .i64 n) (.int .i64 k) (.int .u32 p) (.slice a5 n5 c5)
            refine bodyPost_ret (v := .tuple #[.agg #[.int .i64 s, .int .i64 n, .int .i64 k, .int .u32 p, .slice a5 n5 c5], .int .i64 0]) (results_cell2 Try.results29 _ _ w.heap.size 34 _ (0, 0) _ _ rfl rfl (doc_put rfl hz _ _ _ _ _) Try.underlying34 rfl info_doc) rfl ?_
            have hkk := HSS.out
            refine dec_yes (by rw [HOK0.out]; simp) hkk.1.symm hkk.2.1.symm hkk.2.2.1.symm hkk.2.2.2.symm ?_ (doc_far hbel (Nat.le_refl _) _ _ _ _ _)
            have ho2 := own_grown hown hgr (fun e => by have := (own_at hown _ e.symm).1; omega)
            rw [HN5.out] at ho2 ⊢
            exact Part1.of ho2
          · have hne : (X == l) = false := beq_eq_false_iff_ne.2 hXl
            have hok : dOk l = false := HOK0.out.trans (by simp [hXl])
            have HOK := Lib.hid hok
            clear hok
            go_wp2
            refine bodyPost_ret (v := .tuple #[.agg #[.int .i64 0, .int .i64 0, .int .i64 0, .int .u32 0, .slice none 0 0], .int .i64 11]) (results_cell2 Try.results29 _ _ w.heap.size 34 _ (0, 0) _ _ rfl rfl (doc_put rfl hz _ _ _ _ _) Try.underlying34 rfl info_doc) rfl ?_
            exact dec_no HOK.out (doc_far hbel (Nat.le_refl _) _ _ _ _ _)
      · have h68' : (q0 != 68) = true := bne_iff_ne.2 h68
        have hok : dOk l = false := dOk_head (by rw [H0.out]; exact h68)
        have HOK := Lib.hid hok
        clear hok
        subst hmm
        go_enter Try.func29, Try.ntmps29
        go_wp2_with fail
        refine (gnum_any _ _ _ _ (sM.out.below hbel) (by simp; omega)).mono ?_
        rintro e w' ⟨rfl, rfl⟩
        rw [HM'.out]
        replace c0 := (hbel.cell (p := ⟨b, o, none⟩) hb).trans c0
        go_wp2
        refine bodyPost_ret (v := .tuple #[.agg #[.int .i64 0, .int .i64 0, .int .i64 0, .int .u32 0, .slice none 0 0], .int .i64 11]) (results_cell2 Try.results29 _ _ w.heap.size 34 _ (0, 0) _ _ rfl rfl hz Try.underlying34 rfl info_doc) rfl ?_
        exact dec_no HOK.out hbel
    · have hok : dOk l = false := dOk_m (by rw [← HM.out]; omega)
      have HOK := Lib.hid hok
      have hmm' : ((l.length : Int) - 15 != m) = true := bne_iff_ne.2 hmm
      clear hok
      go_enter Try.func29, Try.ntmps29
      go_wp2_with fail
      refine (gnum_any _ _ _ _ (sM.out.below hbel) (by simp; omega)).mono ?_
      rintro e w' ⟨rfl, rfl⟩
      rw [HM'.out]
      go_wp2
      refine bodyPost_ret (v := .tuple #[.agg #[.int .i64 0, .int .i64 0, .int .i64 0, .int .u32 0, .slice none 0 0], .int .i64 11]) (results_cell2 Try.results29 _ _ w.heap.size 34 _ (0, 0) _ _ rfl rfl hz Try.underlying34 rfl info_doc) rfl ?_
      exact dec_no HOK.out hbel
  · have hok : dOk l = false := dOk_short h15
    have hlt : (l.length : Int) < 15 := by omega
    clear hx
    go_enter Try.func29, Try.ntmps29
    go_wp2
    refine bodyPost_ret (v := .tuple #[.agg #[.int .i64 0, .int .i64 0, .int .i64 0, .int .u32 0, .slice none 0 0], .int .i64 11]) (results_cell2 Try.results29 _ _ w.heap.size 34 _ (0, 0) _ _ rfl rfl hz Try.underlying34 rfl info_doc) rfl ?_
    exact dec_no hok hbel
end Go.Proofs.Ytkkjiihdmpngbaa
