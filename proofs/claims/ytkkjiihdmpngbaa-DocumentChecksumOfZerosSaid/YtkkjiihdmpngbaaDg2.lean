/-
  The contract of Decode of the document.
-/
import Derived.Test.YtkkjiihdmpngbaaDg1
import Derived.Outline
namespace Go.Proofs.Ytkkjiihdmpngbaa
open Go.RowKit
set_option linter.unusedVariables false

theorem own_block {w : World} {base n : Nat} {t : TypeId} {v : Value} {xs : List Value} (h : w.ownsRow base t 1 v n xs) : ∀ a n' c, v = .slice (some a) n' c → base ≤ a.block := by
  intro a n' c hv
  rcases h.2 with ⟨rfl, _⟩ | ⟨g, cap, cur, rfl, hg, _⟩
  · cases hv
  · injection hv with h1
    injection h1 with h1
    subst h1
    exact hg
theorem dec_parts {l : List UInt8} (h : 15 ≤ l.length) : numB (List.take 1 (List.take 10 (List.drop 1 l))) = dK l ∧ numB (List.take 1 (List.drop 1 (List.take 10 (List.drop 1 l)))) = dS l ∧ numB (List.take 2 (List.drop 1 (List.drop 1 (List.take 10 (List.drop 1 l))))) = dN l ∧
    numB (List.take 4 (List.drop 2 (List.drop 1 (List.drop 1 (List.take 10 (List.drop 1 l)))))) = dP l ∧ numB (List.take 2 (List.drop 4 (List.drop 2 (List.drop 1 (List.drop 1 (List.take 10 (List.drop 1 l))))))) = dM l := by
  obtain ⟨b0, b1, b2, b3, b4, b5, b6, b7, b8, b9, b10, t, rfl⟩ := eleven h
  exact ⟨rfl, rfl, rfl, rfl, rfl⟩
theorem own_grown {w w' : World} {base n g : Nat} {t : TypeId} {v : Value} {xs : List Value} (h : w.ownsRow base t 1 v n xs) (hg : w.grownBy w' (some g)) (hne : some g ≠ v.ownBlock) : w'.ownsRow base t 1 v n xs := by
  obtain ⟨q1, q2⟩ := h
  refine ⟨q1, ?_⟩
  rcases q2 with h0 | ⟨g', cap, cur, rfl, hb, hh, rest⟩
  · exact .inl h0
  · refine .inr ⟨g', cap, cur, rfl, hb, (hg.block g' (Array.getElem?_eq_some_iff.1 hh).1 (fun e => hne ?_)).trans hh, rest⟩
    simp [Value.ownBlock] at e ⊢
    exact e.symm
theorem own_at {w : World} {base n : Nat} {t : TypeId} {v : Value} {xs : List Value} (h : w.ownsRow base t 1 v n xs) : ∀ k, v.ownBlock = some k → base ≤ k ∧ k < w.heap.size := by
  intro k hk
  rcases h.2 with ⟨rfl, _⟩ | ⟨g, cap, cur, rfl, hg, hh, _⟩
  · simp [Value.ownBlock] at hk
  · simp [Value.ownBlock] at hk
    subst hk
    exact ⟨hg, (Array.getElem?_eq_some_iff.1 hh).1⟩
/-- Where decoding stands when all has been read but the length and the checksum. -/
structure DecR (w : World) (l4 ls body : List UInt8) (n5 g g7 : Nat) (dcs : Array Value) (v5 : Value) (W : World) : Prop where
  z : BlkIs W w.heap.size 34 #[.int .i64 0, .int .i64 0, .int .i64 0, .int .u32 0, .slice none 0 0]
  d : BlkIs W g 34 dcs
  r : DRdr w.heap.size (w.heap.size + 1) l4 W
  r2 : DRdr w.heap.size g7 ls W
  own : W.ownsRow (w.heap.size + 2) 5 1 v5 n5 (bytesV body)
  bel : Below w.heap.size w W
  h1 : w.heap.size + 1 < g
  h2 : g < g7
  h3 : ∀ k, v5.ownBlock = some k → k < g7
section
variable {w : World} {l4 ls body : List UInt8} {n5 g g7 : Nat} {dcs : Array Value} {v5 : Value} {W W' : World}
theorem DecR.later (h : DecR w l4 ls body n5 g g7 dcs v5 W) (hb : Below W.heap.size W W') : DecR w l4 ls body n5 g g7 dcs v5 W' :=
  ⟨h.z.below hb h.z.lt, h.d.below hb h.d.lt, h.r.later hb h.bel.size, h.r2.later hb h.bel.size, own_below h.own hb, bnext h.bel hb, h.h1, h.h2, h.h3⟩
theorem DecR.one {l4' : List UInt8} (h : DecR w l4 ls body n5 g g7 dcs v5 W) (hr : DRdr w.heap.size (w.heap.size + 1) l4' W') (hg : W.grownBy W' (some (w.heap.size + 1))) : DecR w l4' ls body n5 g g7 dcs v5 W' := by
  have a1 := h.h1
  have a2 := h.h2
  refine ⟨h.z.grown hg (by simp), h.d.grown hg (by simp; omega), hr, h.r2.kept (S := [w.heap.size + 1]) (KeptBut.of_grown hg (by simp)) (by simp; omega) h.bel.size (by simp), own_grown h.own hg (fun e => ?_), h.bel.grown hg h.bel.size (fun k hk => by injection hk; omega), h.h1, h.h2, h.h3⟩
  have := (own_at h.own _ e.symm).1
  omega
theorem DecR.two {ls' : List UInt8} (h : DecR w l4 ls body n5 g g7 dcs v5 W) (hr : DRdr w.heap.size g7 ls' W') (hg : W.grownBy W' (some g7)) : DecR w l4 ls' body n5 g g7 dcs v5 W' := by
  have a1 := h.h1
  have a2 := h.h2
  refine ⟨h.z.grown hg (by simp; omega), h.d.grown hg (by simp; omega), h.r.kept (S := [g7]) (KeptBut.of_grown hg (by simp)) (by simp; omega) h.bel.size (by simp; omega), hr, own_grown h.own hg (fun e => ?_), h.bel.grown hg h.bel.size (fun k hk => by injection hk; omega), h.h1, h.h2, h.h3⟩
  have := h.h3 _ e.symm
  omega
end
theorem DSt.later {w wr w' : World} {T : TypeId} {zs : Array Value} {l : List UInt8} (h : DSt w T zs l wr) (hb : Below wr.heap.size wr w') : DSt w T zs l w' := by
  obtain ⟨hz, hr, hbel, hlen⟩ := h
  exact ⟨hz.below hb hz.lt, hr.later hb hbel.size, bnext hbel hb, hlen⟩
theorem DSt.drew {w wr : World} {T : TypeId} {zs : Array Value} {l : List UInt8} (h : DSt w T zs l wr) : DSt w T zs l wr.drew := h.later ((Below.refl _ _).drew)
theorem DSt.start' {w : World} {T : TypeId} {zs : Array Value} {a : Option Addr} {n c : Nat} {l : List UInt8} (hn : l.length = n) (h : Sl w.heap.size w (.slice a n c) l) (hl : l.length ≤ 1000) :
    DSt w T zs l ((w.alloc (.cells zs T)).alloc (.cells #[.slice a n c] 91)) := by
  subst hn
  exact DSt.start h hl
set_option maxRecDepth 100000 in
set_option maxHeartbeats 2000000 in
theorem decode_any (v : Value) (l : List UInt8) (w : World) (hsl : Sl w.heap.size w v l) (hl : l.length ≤ 140737488355328) :
    Calls Try.prog 27 #[v] w (DecPost l w) := by
  obtain ⟨a, c, hv, hc, hx⟩ := id hsl
  subst hv
  by_cases h15 : 15 ≤ l.length
  · obtain ⟨b, o, rfl, hb, hcell⟩ := hx (by omega)
    clear hx
    have c0 := hcell 0 (l[0]'(by omega)) (List.getElem?_eq_getElem (by omega))
    have e0 : (numB (List.take 1 l)) = ((l[0]'(by omega)).toNat : Int) := by simpa using numB_at l 0 (by omega)
    generalize (l[0]'(by omega)) = y0 at c0 e0
    rw [Nat.add_zero] at c0
    clear hcell
    have i1 : (15 : Int) ≤ (l.length : Int) := by omega
    have i2 : (l.length : Int) ≤ (c : Int) := by omega
    go_enter Try.func27, Try.ntmps27
    have hst0 := DSt.start' (T := 34) (zs := #[.int .i64 0, .int .i64 0, .int .i64 0, .int .u32 0, .slice none 0 0]) (show ((l.drop 1).take 10).length = 10 by simp; omega) (hsl.sub (n := 1) (k := 10) (by omega)) (by simp; omega)
    have hl0 : ((l.drop 1).take 10).length = 10 := by simp; omega
    obtain ⟨L0, hL0⟩ : ∃ L0, L0 = (l.drop 1).take 10 := ⟨_, rfl⟩
    rw [← hL0] at hst0 hl0
    have HL0 := Lib.hid hL0
    have HL := Lib.hid hl0
    clear hL0 hl0
    have s5 : Hid (Sl w.heap.size w (.slice (some ⟨b, o + 11, none⟩) (l.length - 4 - 11) (c - 11)) (dBody l)) := by
      have := hsl.sub (n := 11) (k := l.length - 15) (by omega)
      rw [show l.length - 4 - 11 = l.length - 15 by omega]
      exact this
    have hbl : (dBody l).length = l.length - 4 - 11 := by unfold dBody; simp; omega
    have HBL := Lib.hid hbl
    clear hbl
    go_wp2_with fail
    refine wp_region_rg [w.heap.size + 1] [⟨10, 6, 34, #[.int .i64 0, .int .i64 0, .int .i64 0, .int .u32 0, .slice none 0 0], fun b => .pointer (some ⟨b, 0, none⟩)⟩] [0, 1, 2, 3, 8, 11] [5, 6, 7] [0, 1, 2, 3, 4, 8, 9] [11] #[true, true, true, true, true, true, true, true, true, true, true, false] #[false, false, false, false, false, true, true, true, false, false, false, false] (by kernel_rfl) (by kernel_rfl) rfl (by decide) (by decide) (by decide) (by kernel_rfl) (by kernel_rfl) (by kernel_rfl) (by kernel_rfl) (by kernel_rfl) (by kernel_rfl) (by kernel_rfl) (fun _ _ _ _ _ h => h) (fun _ _ _ _ _ h => h) (by simp) ?_
    simp only [picked, marked, List.getElem?_cons_zero, List.getElem?_cons_succ, List.contains_cons, List.contains_nil, Nat.reduceBEq, Bool.or_false, Bool.or_true, BEq.rfl]
    replace hst0 := hst0.drew
    generalize ((w.alloc (.cells #[.int .i64 0, .int .i64 0, .int .i64 0, .int .u32 0, .slice none 0 0] 34)).alloc (.cells #[.slice (some ⟨b, o + 1, none⟩) 10 (c - 1)] 91)).drew = W0 at *
    repeat (refine pre_quiet ?_; go_big_quiet_step (fail); refine wpQuiet_nil ?_)
    refine pre_nil ⟨?_, ?_⟩
    · intro x hx o ho w2
      simp only [List.mem_cons, List.not_mem_nil, or_false] at hx
      subst hx
      simp at ho
      subst ho
      go_simp
    · refine rs_loud rfl ?_
      intro W1 hW1 K hK
      replace hst0 := hst0.later hW1
      clear hW1
      go_simp
      go_at_call 61
      refine (hst0.next 1 _ rfl (by decide) (by decide) (by have := HL.out; omega)).mono ?_
      rintro e u0 ⟨g0, l1, HG0, hl1, rfl, hst1, hgr⟩
      refine hK _ _ (KeptBut.of_grown hgr (by simp)) ?_
      clear hst0 hgr hK K
      refine rs_loud rfl ?_
      intro W1 hW1 K hK
      replace hst1 := hst1.later hW1
      clear hW1
      go_simp
      go_at_call 61
      refine (hst1.next 1 _ rfl (by decide) (by decide) (by have := HL.out; omega)).mono ?_
      rintro e u1 ⟨g1, l2, HG1, hl2, rfl, hst2, hgr⟩
      refine hK _ _ (KeptBut.of_grown hgr (by simp)) ?_
      clear hst1 hgr hK K
      refine rs_loud rfl ?_
      intro W1 hW1 K hK
      replace hst2 := hst2.later hW1
      clear hW1
      go_simp
      go_at_call 61
      refine (hst2.next 2 _ rfl (by decide) (by decide) (by have := HL.out; omega)).mono ?_
      rintro e u2 ⟨g2, l3, HG2, hl3, rfl, hst3, hgr⟩
      refine hK _ _ (KeptBut.of_grown hgr (by simp)) ?_
      clear hst2 hgr hK K
      refine rs_loud rfl ?_
      intro W1 hW1 K hK
      replace hst3 := hst3.later hW1
      clear hW1
      go_simp
      go_at_call 61
      refine (hst3.next 4 _ rfl (by decide) (by decide) (by have := HL.out; omega)).mono ?_
      rintro e u3 ⟨g3, l4, HG3, hl4, rfl, hst4, hgr⟩
      refine hK _ _ (KeptBut.of_grown hgr (by simp)) ?_
      clear hst3 hgr hK K
      have p3 : 0 ≤ g3 ∧ g3 < 4294967296 := by
        have h := numB_bd (l3.take 4)
        have h4 : (l3.take 4).length = 4 := by have := HL.out; simp; omega
        rw [h4] at h
        rw [HG3.out.1]
        exact h
      obtain ⟨p0, p1⟩ := p3
      repeat (refine rs_quiet ?_; go_big_quiet_step (fail); refine wpQuiet_nil ?_)
      refine rs_loud rfl ?_
      intro W5 hW5 K hK
      replace hst4 := hst4.later hW5
      clear hW5
      go_simp
      have hB5 : w.heap.size + 2 ≤ W5.heap.size := by obtain ⟨⟨_, hb, _⟩, _⟩ := hst4.r; have := hb.lt; omega
      go_at_call 62
      refine (clone_any _ _ _ (dBody l) _ HBL.out.symm ((s5.out.below hst4.bel).mono hst4.bel.size) (by have := HBL.out; omega)).mono ?_
      rintro e u5 ⟨v5, rfl, hown, hb5⟩
      refine hK _ _ (KeptBut.of_below hb5) ?_
      clear hK K
      replace hst4 := hst4.later hb5
      clear hb5
      obtain ⟨a5, c5, hv5⟩ := own_len hown
      replace hown := own_mono hown hB5
      clear hB5
      subst hv5
      obtain ⟨n5, hn5⟩ : ∃ n5, n5 = (dBody l).length := ⟨_, rfl⟩
      rw [← hn5]
      rw [← hn5] at hown
      have HN5 := Lib.hid hn5
      clear hn5
      repeat (refine rs_quiet ?_; go_big_quiet_step (fail); refine wpQuiet_nil ?_)
      refine rs_nil ?_
      intro W6 hW6 sx hs1 hs2 hM
      replace hst4 := hst4.later hW6
      replace hown := own_below hown hW6
      clear hW6
      obtain ⟨g, rfl, hg, hf⟩ := mde1 hs1 hs2 hM
      clear hs1 hs2 hM
      have hcf := hf.cell
      have hff := hf.frozen
      simp only [msets]
      refine ⟨[g], ?_⟩
      refine ms_loud rfl ?_
      intro K hK
      go_simp
      have hgr := doc_kept (w := W6) (g := g) (.int .i64 g1) (.int .i64 g2) (.int .i64 g0) (.int .u32 g3) (.slice a5 n5 c5)
      have hd7 := doc_put rfl hf (.int .i64 g1) (.int .i64 g2) (.int .i64 g0) (.int .u32 g3) (.slice a5 n5 c5)
      refine hK _ _ (KeptBut.of_grown hgr (by simp)) ?_
      clear hK K hcf hff
      simp at hg
      have hap := hf.apart hown (by decide)
      replace hown := own_grown hown hgr hap
      have hz7 := hst4.z.grown hgr (by simp; omega)
      have hr7 := hst4.r.kept (S := [g]) (KeptBut.of_grown hgr (by simp)) (by simp; omega) hst4.bel.size (by simp; omega)
      have hb7 := hst4.bel.grown hgr hst4.bel.size (fun k hk => by injection hk; omega)
      clear hgr hap hf hst4
      generalize (((((W6.setCell ⟨g, 0, none⟩ (.int .i64 g1)).setCell ⟨g, 1, none⟩ (.int .i64 g2)).setCell ⟨g, 2, none⟩ (.int .i64 g0)).setCell ⟨g, 3, none⟩ (.int .u32 g3)).setCell ⟨g, 4, none⟩ (.slice a5 n5 c5)) = W7 at *
      refine ms_nil ?_
      have s7 : Sl w.heap.size w (.slice (some ⟨b, o + (l.length - 4), none⟩) (l.length - (l.length - 4)) (c - (l.length - 4))) (l.drop (l.length - 4)) := by
        have := hsl.sub (n := l.length - 4) (k := 4) (by omega)
        rw [List.take_of_length_le (by simp; omega)] at this
        rw [show l.length - (l.length - 4) = 4 by omega]
        exact this
      have hA : Below W7.heap.size W7 (W7.alloc (.cells #[.slice (some ⟨b, o + (l.length - 4), none⟩) (l.length - (l.length - 4)) (c - (l.length - 4))] 91)).drew := ((Below.refl _ _).alloc (Nat.le_refl _) _).drew
      have hR : DecR w l4 (l.drop (l.length - 4)) (dBody l) n5 g W7.heap.size #[.int .i64 g1, .int .i64 g2, .int .i64 g0, .int .u32 g3, .slice a5 n5 c5] (.slice a5 n5 c5) (W7.alloc (.cells #[.slice (some ⟨b, o + (l.length - 4), none⟩) (l.length - (l.length - 4)) (c - (l.length - 4))] 91)).drew := by
        refine ⟨hz7.below hA hz7.lt, hd7.below hA hd7.lt, hr7.later hA hb7.size, ⟨⟨_, (BlkIs.new _ _ _).drew, s7.below (bnext hb7 hA)⟩, hb7.size⟩, own_below hown hA, bnext hb7 hA, by omega, hd7.lt, fun k hk => (own_at hown k hk).2⟩
      clear hz7 hr7 hown hA s7 hd7
      go_wp2_with fail
      refine wp_region_ms [w.heap.size + 1, W7.heap.size] [5, 12, 17, 22] [0, 1, 2, 3, 4, 6, 7, 8, 5, 9, 10, 11, 14, 15, 16, 12, 13, 17, 18, 19, 20, 21, 22, 23, 24] (by kernel_rfl) (by kernel_rfl) rfl (by decide) (by kernel_rfl) (fun _ _ _ _ _ h => h) ?_
      simp only [marked, List.getElem?_cons_zero, List.getElem?_cons_succ, List.contains_cons, List.contains_nil, Nat.reduceBEq, Bool.or_false, Bool.or_true, BEq.rfl]
      generalize (W7.alloc (.cells #[.slice (some ⟨b, o + (l.length - 4), none⟩) (l.length - (l.length - 4)) (c - (l.length - 4))] 91)).drew = W8 at *
      generalize W7.heap.size = g7 at *
      clear hb7
      have hdc := hR.d.cell
      have gW := hR.d.lt
      have bW : b < W8.heap.size := Nat.lt_of_lt_of_le hb hR.bel.size
      have nb1 : ¬ b = w.heap.size + 1 := by omega
      have nb2 : ¬ b = g7 := by have := hR.r2.hB; omega
      have ng1 : ¬ g = w.heap.size + 1 := by have := hR.h1; omega
      have ng2 : ¬ g = g7 := by have := hR.h2; omega
      replace c0 := (hR.bel.cell (p := ⟨b, o, none⟩) hb).trans c0
      obtain ⟨q0, hq0⟩ : ∃ q0 : Int, q0 = (y0.toNat : Int) := ⟨_, rfl⟩
      rw [← hq0] at c0 e0
      clear hq0
      obtain ⟨d0, d1, d2, d3, d4⟩ := dec_parts h15
      have k0 : g0 = dK l := by rw [HG0.out.1, HL0.out]; exact d0
      have k1 : g1 = dS l := by rw [HG1.out.1, HG0.out.2, HL0.out]; exact d1
      have k2 : g2 = dN l := by rw [HG2.out.1, HG1.out.2, HG0.out.2, HL0.out]; exact d2
      have k3 : g3 = dP l := by rw [HG3.out.1, HG2.out.2, HG1.out.2, HG0.out.2, HL0.out]; exact d3
      have k4 : numB (List.take 2 l4) = dM l := by rw [HG3.out.2, HG2.out.2, HG1.out.2, HG0.out.2, HL0.out]; exact d4
      have hl4 : l4.length = 2 := by have := HL.out; omega
      have HK := Lib.hid (And.intro k0 (And.intro k1 (And.intro k2 k3)))
      have HK4 := Lib.hid k4
      have HL4 := Lib.hid hl4
      have H0 := Lib.hid e0
      clear d0 d1 d2 d3 d4 k0 k1 k2 k3 k4 HG0 HG1 HG2 HG3 hl1 hl2 hl3 hl4 e0
      by_cases h68 : q0 = 68
      · subst h68
        iterate 8 (refine ms_quiet ?_; go_big_quiet_step (fail); refine wpQuiet_nil ?_)
        refine ms_loud rfl ?_
        intro K hK
        go_simp
        go_at_call 61
        refine (next_any w.heap.size (w.heap.size + 1) 2 _ l4 _ rfl (by decide) (by decide) hR.r (by have := HL4.out; omega) (by have := HL4.out; omega)).mono ?_
        rintro e u8 ⟨rfl, hr8, hg8⟩
        rw [HK4.out]
        refine hK _ _ (KeptBut.of_grown hg8 (by simp)) ?_
        clear hK K
        replace hR := hR.one hr8 hg8
        clear hr8 hg8 hdc gW bW c0
        have hdc := hR.d.cell
        have gW := hR.d.lt
        have bW : b < u8.heap.size := Nat.lt_of_lt_of_le hb hR.bel.size
        by_cases hm : dM l = (n5 : Int)
        · have hm' : (dM l != (n5 : Int)) = false := by rw [hm]; simp
          have HM := Lib.hid hm
          clear hm
          iterate 6 (refine ms_quiet ?_; go_big_quiet_step (fail); refine wpQuiet_nil ?_)
          refine ms_loud rfl ?_
          intro K hK
          go_simp
          go_at_call 61
          have hl7 : (List.drop (l.length - 4) l).length = 4 := by simp; omega
          have HL7 := Lib.hid hl7
          clear hl7
          have hsum := numB_bd (List.drop (l.length - 4) l)
          rw [HL7.out] at hsum
          have HS : Hid (numB (List.take 4 (List.drop (l.length - 4) l)) = dSum l) := by
            unfold Hid dSum
            rw [List.take_of_length_le (by rw [HL7.out]; omega)]
          have s0 : 0 ≤ dSum l := hsum.1
          have s1 : dSum l < 4294967296 := hsum.2
          clear hsum
          refine (next_any w.heap.size g7 4 _ (List.drop (l.length - 4) l) _ rfl (by decide) (by decide) hR.r2 (by have := HL7.out; omega) (by have := HL7.out; omega)).mono ?_
          rintro e u9 ⟨rfl, hr9, hg9⟩
          rw [HS.out]
          refine hK _ _ (KeptBut.of_grown hg9 (by simp)) ?_
          clear hK K
          replace hR := hR.two hr9 hg9
          clear hr9 hg9 hdc gW bW
          have s8 := Lib.hid ((hsl.take (n := l.length - 4) (by omega)).below hR.bel)
          have hfl : (dFront l).length ≤ 4611686018427387904 := by unfold dFront; simp; omega
          obtain ⟨sm, hsm⟩ : ∃ sm, sm = dSum l := ⟨_, rfl⟩
          rw [← hsm] at s0 s1 ⊢
          have HSM := Lib.hid hsm
          clear hsm HS
          iterate 1 (refine ms_quiet ?_; go_big_quiet_step (fail); refine wpQuiet_nil ?_)
          refine ms_loud rfl ?_
          intro K hK
          go_simp
          go_at_call 18
          refine (checksum_any w.heap.size _ (dFront l) _ s8.out hR.bel.size hfl).mono ?_
          rintro e u10 ⟨rfl, hb10⟩
          refine hK _ _ (KeptBut.of_below hb10) ?_
          clear hK K
          replace hR := hR.later hb10
          clear hb10
          have hdc := hR.d.cell
          have gW := hR.d.lt
          have bW : b < u10.heap.size := Nat.lt_of_lt_of_le hb hR.bel.size
          obtain ⟨cr, hcr⟩ : ∃ cr : Int, cr = (crcL (dFront l) : Int) := ⟨_, rfl⟩
          rw [← hcr]
          have HCR := Lib.hid hcr
          clear hcr
          by_cases hs : sm = cr
          · subst hs
            iterate 4 (refine ms_quiet ?_; go_big_quiet_step (fail); refine wpQuiet_nil ?_)
            refine ms_loud rfl ?_
            intro K hK
            go_simp
            go_at_call 24
            have hpb := (Part1.of (l := dBody l) (by have := hR.own; rw [HN5.out] at this; exact this)).1
            rw [← HN5.out] at hpb
            refine (dvalid_any g1 g2 g0 g3 _ (dBody l) _ hpb (by have := HBL.out; omega)).mono ?_
            rintro e u11 ⟨rfl, hb11⟩
            refine hK _ _ (KeptBut.of_below hb11) ?_
            clear hK K hpb
            replace hR := hR.later hb11
            clear hb11 hdc gW bW
            have hdc := hR.d.cell
            have gW := hR.d.lt
            have bW : b < u11.heap.size := Nat.lt_of_lt_of_le hb hR.bel.size
            have hkk := HK.out
            have HOK0 : Hid (dOk l = docB g1 g2 g0 g3 (dBody l)) := by
              unfold Hid dOk
              rw [H0.out, ← HSM.out, ← HCR.out, hkk.1, hkk.2.1, hkk.2.2.1, hkk.2.2.2]
              have hmm : (dM l == (l.length : Int) - 15) = true := beq_iff_eq.2 (by have h1 := HN5.out; have h2 := HBL.out; have h3 := HM.out; omega)
              rw [hmm]
              simp [h15]
            clear hkk
            rcases hdb : docB g1 g2 g0 g3 (dBody l) with _ | _
            · rw [hdb] at HOK0
              have HOK := HOK0
              clear hdb HOK0
              iterate 2 (refine ms_quiet ?_; go_big_quiet_step (fail); refine wpQuiet_nil ?_)
              refine ms_nil ?_
              have hz := hR.z
              have hbel := hR.bel
              clear hR hdc gW bW
              have hcz := hz.cell
              have hfz := hz.frozen
              go_wp2
              refine bodyPost_ret (v := .tuple #[.agg #[.int .i64 0, .int .i64 0, .int .i64 0, .int .u32 0, .slice none 0 0], .int .i64 11]) (results_cell2 Try.results27 _ _ w.heap.size 34 _ (0, 0) _ _ rfl rfl (doc_put rfl hz _ _ _ _ _) Try.underlying34 rfl info_doc) rfl ?_
              exact dec_no HOK.out (doc_far hbel (Nat.le_refl _) _ _ _ _ _)
            · rw [hdb] at HOK0
              clear hdb
              iterate 2 (refine ms_quiet ?_; go_big_quiet_step (fail); refine wpQuiet_nil ?_)
              refine ms_nil ?_
              have hz := hR.z
              have hbel := hR.bel
              have hown := hR.own
              have hn1 := hR.h1
              clear hR
              have hcz := hz.cell
              have hfz := hz.frozen
              have hzl := hz.lt
              go_wp2
              have hgr := doc_kept (w := u11) (g := w.heap.size) (.int .i64 g1) (.int .i64 g2) (.int .i64 g0) (.int .u32 g3) (.slice a5 n5 c5)
              refine bodyPost_ret (v := .tuple #[.agg #[.int .i64 g1, .int .i64 g2, .int .i64 g0, .int .u32 g3, .slice a5 n5 c5], .int .i64 0]) (results_cell2 Try.results27 _ _ w.heap.size 34 _ (0, 0) _ _ rfl rfl (doc_put rfl hz _ _ _ _ _) Try.underlying34 rfl info_doc) rfl ?_
              have hkk := HK.out
              refine dec_yes HOK0.out hkk.2.1 hkk.2.2.1 hkk.1 hkk.2.2.2 ?_ (doc_far hbel (Nat.le_refl _) _ _ _ _ _)
              have ho2 := own_grown hown hgr (fun e => by have := (own_at hown _ e.symm).1; omega)
              rw [HN5.out] at ho2 ⊢
              exact Part1.of ho2
          · have hs' : (sm != cr) = true := bne_iff_ne.2 hs
            have hok : dOk l = false := by
              have : (dSum l == (crcL (dFront l) : Int)) = false := beq_eq_false_iff_ne.2 (by rw [← HSM.out, ← HCR.out]; exact hs)
              simp [dOk, this]
            have HOK := Lib.hid hok
            clear hok hs
            iterate 3 (refine ms_quiet ?_; go_big_quiet_step (fail); refine wpQuiet_nil ?_)
            iterate 1 (refine ms_off_same rfl rfl rfl rfl rfl ?_)
            refine ms_skip_same rfl rfl rfl rfl rfl ?_
            iterate 1 (refine ms_off_same rfl rfl rfl rfl rfl ?_)
            iterate 1 (refine ms_quiet ?_; go_big_quiet_step (fail); refine wpQuiet_nil ?_)
            refine ms_nil ?_
            have hz := hR.z
            have hbel := hR.bel
            clear hR hdc gW bW
            have hcz := hz.cell
            have hfz := hz.frozen
            go_wp2
            refine bodyPost_ret (v := .tuple #[.agg #[.int .i64 0, .int .i64 0, .int .i64 0, .int .u32 0, .slice none 0 0], .int .i64 11]) (results_cell2 Try.results27 _ _ w.heap.size 34 _ (0, 0) _ _ rfl rfl (doc_put rfl hz _ _ _ _ _) Try.underlying34 rfl info_doc) rfl ?_
            exact dec_no HOK.out (doc_far hbel (Nat.le_refl _) _ _ _ _ _)
        · have hm' : (dM l != (n5 : Int)) = true := bne_iff_ne.2 hm
          have hok : dOk l = false := dOk_m (by have h1 := HN5.out; have h2 := HBL.out; omega)
          have HOK := Lib.hid hok
          clear hok hm
          iterate 3 (refine ms_quiet ?_; go_big_quiet_step (fail); refine wpQuiet_nil ?_)
          iterate 3 (refine ms_off_same rfl rfl rfl rfl rfl ?_)
          refine ms_skip_same rfl rfl rfl rfl rfl ?_
          iterate 1 (refine ms_off_same rfl rfl rfl rfl rfl ?_)
          refine ms_skip_same rfl rfl rfl rfl rfl ?_
          iterate 1 (refine ms_off_same rfl rfl rfl rfl rfl ?_)
          iterate 2 (refine ms_quiet ?_; go_big_quiet_step (fail); refine wpQuiet_nil ?_)
          iterate 1 (refine ms_off_same rfl rfl rfl rfl rfl ?_)
          refine ms_skip_same rfl rfl rfl rfl rfl ?_
          iterate 1 (refine ms_off_same rfl rfl rfl rfl rfl ?_)
          iterate 1 (refine ms_quiet ?_; go_big_quiet_step (fail); refine wpQuiet_nil ?_)
          refine ms_nil ?_
          have hz := hR.z
          have hbel := hR.bel
          clear hR hdc gW bW
          have hcz := hz.cell
          have hfz := hz.frozen
          go_wp2
          refine bodyPost_ret (v := .tuple #[.agg #[.int .i64 0, .int .i64 0, .int .i64 0, .int .u32 0, .slice none 0 0], .int .i64 11]) (results_cell2 Try.results27 _ _ w.heap.size 34 _ (0, 0) _ _ rfl rfl (doc_put rfl hz _ _ _ _ _) Try.underlying34 rfl info_doc) rfl ?_
          exact dec_no HOK.out (doc_far hbel (Nat.le_refl _) _ _ _ _ _)
      · have h68' : (q0 != 68) = true := bne_iff_ne.2 h68
        have hok : dOk l = false := dOk_head (by rw [H0.out]; exact h68)
        have HOK := Lib.hid hok
        clear hok
        iterate 5 (refine ms_quiet ?_; go_big_quiet_step (fail); refine wpQuiet_nil ?_)
        iterate 3 (refine ms_off_same rfl rfl rfl rfl rfl ?_)
        refine ms_skip_same rfl rfl rfl rfl rfl ?_
        iterate 1 (refine ms_off_same rfl rfl rfl rfl rfl ?_)
        iterate 2 (refine ms_quiet ?_; go_big_quiet_step (fail); refine wpQuiet_nil ?_)
        iterate 3 (refine ms_off_same rfl rfl rfl rfl rfl ?_)
        refine ms_skip_same rfl rfl rfl rfl rfl ?_
        iterate 1 (refine ms_off_same rfl rfl rfl rfl rfl ?_)
        refine ms_skip_same rfl rfl rfl rfl rfl ?_
        iterate 1 (refine ms_off_same rfl rfl rfl rfl rfl ?_)
        iterate 2 (refine ms_quiet ?_; go_big_quiet_step (fail); refine wpQuiet_nil ?_)
        iterate 1 (refine ms_off_same rfl rfl rfl rfl rfl ?_)
        refine ms_skip_same rfl rfl rfl rfl rfl ?_
        iterate 1 (refine ms_off_same rfl rfl rfl rfl rfl ?_)
        iterate 1 (refine ms_quiet ?_; go_big_quiet_step (fail); refine wpQuiet_nil ?_)
        refine ms_nil ?_
        have hz := hR.z
        have hbel := hR.bel
        clear hR hdc gW bW
        have hcz := hz.cell
        have hfz := hz.frozen
        go_wp2
        refine bodyPost_ret (v := .tuple #[.agg #[.int .i64 0, .int .i64 0, .int .i64 0, .int .u32 0, .slice none 0 0], .int .i64 11]) (results_cell2 Try.results27 _ _ w.heap.size 34 _ (0, 0) _ _ rfl rfl (doc_put rfl hz _ _ _ _ _) Try.underlying34 rfl info_doc) rfl ?_
        exact dec_no HOK.out (doc_far hbel (Nat.le_refl _) _ _ _ _ _)
  · have hok : dOk l = false := dOk_short h15
    have hlt : (l.length : Int) < 15 := by omega
    have hz : BlkIs (w.alloc (.cells #[.int .i64 0, .int .i64 0, .int .i64 0, .int .u32 0, .slice none 0 0] 34)) w.heap.size 34 #[.int .i64 0, .int .i64 0, .int .i64 0, .int .u32 0, .slice none 0 0] := BlkIs.new _ _ _
    clear hx
    go_enter Try.func27, Try.ntmps27
    go_wp2
    refine bodyPost_ret (v := .tuple #[.agg #[.int .i64 0, .int .i64 0, .int .i64 0, .int .u32 0, .slice none 0 0], .int .i64 11]) (results_cell2 Try.results27 _ _ w.heap.size 34 _ (0, 0) _ _ rfl rfl hz Try.underlying34 rfl info_doc) rfl ?_
    exact dec_no hok ((Below.refl _ _).alloc (Nat.le_refl _) _)
end Go.Proofs.Ytkkjiihdmpngbaa
