/-
  The contract of the laws' Make: a valid document.
-/
import Derived.Test.YtkkjiihdmpngbaaDi1
import Derived.Outline
namespace Go.Proofs.Ytkkjiihdmpngbaa
open Go.RowKit
set_option linter.unusedVariables false

/-- A valid document. -/
def DocPost (w : World) (e : Ending) (w' : World) : Prop :=
  ∃ (s n k p : Int) (v : Value) (l : List UInt8), e = .returned (.agg (docV s n k p v)) ∧ docB s n k p l = true ∧ 0 ≤ p ∧ p < 4294967296 ∧ Part1 w' v l ∧ Below w.heap.size w w'
theorem info_raw : (Try.prog.info? 32).map (·.size) = some 21 := by kernel_rfl
theorem doc_set3 {wr : World} {g : Nat} {t : TypeId} {a b c d e : Value} (h : BlkIs wr g t #[a, b, c, d, e]) (u : Value) : BlkIs (wr.setCell ⟨g, 3, none⟩ u) g t #[a, b, c, u, e] := h.put 3 u
theorem doc_set4 {wr : World} {g : Nat} {t : TypeId} {a b c d e : Value} (h : BlkIs wr g t #[a, b, c, d, e]) (u : Value) : BlkIs (wr.setCell ⟨g, 4, none⟩ u) g t #[a, b, c, d, u] := h.put 4 u
set_option maxRecDepth 100000 in
set_option maxHeartbeats 4000000 in
theorem dmake_any (z0 z1 z2 z3 z4 z5 : Int) (z6 : Bool) (z7 z8 z9 z10 z11 z12 z13 z14 z15 z16 z17 z18 z19 z20 : Int) (w : World)
    (r12 : -9223372036854775808 ≤ z12 ∧ z12 ≤ 9223372036854775807) (r18 : -9223372036854775808 ≤ z18 ∧ z18 ≤ 9223372036854775807) (r19 : -9223372036854775808 ≤ z19 ∧ z19 ≤ 9223372036854775807) (r20 : -9223372036854775808 ≤ z20 ∧ z20 ≤ 9223372036854775807) :
    Calls Try.prog 21 #[.agg #[.int .i64 z0, .int .i64 z1, .int .i64 z2, .int .i64 z3, .int .i64 z4, .int .i64 z5, .bool z6, .int .i64 z7, .int .i64 z8, .int .i64 z9, .int .i64 z10, .int .i64 z11, .int .i64 z12, .int .i64 z13, .int .i64 z14, .int .i64 z15, .int .i64 z16, .int .i64 z17, .int .i64 z18, .int .i64 z19, .int .i64 z20]] w (DocPost w) := by
  have hbox := (BlkIs.new w 32 #[.int .i64 z0, .int .i64 z1, .int .i64 z2, .int .i64 z3, .int .i64 z4, .int .i64 z5, .bool z6, .int .i64 z7, .int .i64 z8, .int .i64 z9, .int .i64 z10, .int .i64 z11, .int .i64 z12, .int .i64 z13, .int .i64 z14, .int .i64 z15, .int .i64 z16, .int .i64 z17, .int .i64 z18, .int .i64 z19, .int .i64 z20]).alloc (.cells #[.int .i64 0, .int .i64 0, .int .i64 0, .int .u32 0, .slice none 0 0] 34)
  have hz : BlkIs ((w.alloc (.cells #[.int .i64 z0, .int .i64 z1, .int .i64 z2, .int .i64 z3, .int .i64 z4, .int .i64 z5, .bool z6, .int .i64 z7, .int .i64 z8, .int .i64 z9, .int .i64 z10, .int .i64 z11, .int .i64 z12, .int .i64 z13, .int .i64 z14, .int .i64 z15, .int .i64 z16, .int .i64 z17, .int .i64 z18, .int .i64 z19, .int .i64 z20] 32)).alloc (.cells #[.int .i64 0, .int .i64 0, .int .i64 0, .int .u32 0, .slice none 0 0] 34)) (w.heap.size + 1) 34 #[.int .i64 0, .int .i64 0, .int .i64 0, .int .u32 0, .slice none 0 0] := BlkIs.newAt _ _ _ _ (by simp)
  have hbel : Below w.heap.size w ((w.alloc (.cells #[.int .i64 z0, .int .i64 z1, .int .i64 z2, .int .i64 z3, .int .i64 z4, .int .i64 z5, .bool z6, .int .i64 z7, .int .i64 z8, .int .i64 z9, .int .i64 z10, .int .i64 z11, .int .i64 z12, .int .i64 z13, .int .i64 z14, .int .i64 z15, .int .i64 z16, .int .i64 z17, .int .i64 z18, .int .i64 z19, .int .i64 z20] 32)).alloc (.cells #[.int .i64 0, .int .i64 0, .int .i64 0, .int .u32 0, .slice none 0 0] 34)) := ((Below.refl _ _).alloc (Nat.le_refl _) _).alloc (by simp) _
  obtain ⟨s1, s2⟩ := emod_bd z18 6 (by decide)
  obtain ⟨n1, n2⟩ := emod_bd z1 999 (by decide)
  obtain ⟨k1, k2⟩ := emod_bd z0 5 (by decide)
  go_enter Try.func21, Try.ntmps21
  go_wp2_with fail
  refine wp_region_rg [] [⟨12, 3, 34, #[.int .i64 0, .int .i64 0, .int .i64 0, .int .u32 0, .slice none 0 0], fun b => .pointer (some ⟨b, 0, none⟩)⟩] [2, 5, 9, 13] [0, 1, 3, 4, 7, 8] [2, 5, 6, 9, 10, 11] [13] #[true, true, true, true, true, true, true, true, true, true, true, true, true, false] #[true, true, false, true, true, false, false, true, true, false, false, false, false, false] (by kernel_rfl) (by kernel_rfl) rfl (by decide) (by decide) (by decide) (by kernel_rfl) (by kernel_rfl) (by kernel_rfl) (by kernel_rfl) (by kernel_rfl) (by kernel_rfl) (by kernel_rfl) (fun _ _ _ _ _ h => h) (fun _ _ _ _ _ h => h) (by simp) ?_
  simp only [picked, marked, List.getElem?_cons_zero, List.getElem?_cons_succ, List.contains_cons, List.contains_nil, Nat.reduceBEq, Bool.or_false, Bool.or_true, BEq.rfl]
  replace hbox := hbox.drew
  replace hz := hz.drew
  replace hbel := hbel.drew
  generalize ((w.alloc (.cells #[.int .i64 z0, .int .i64 z1, .int .i64 z2, .int .i64 z3, .int .i64 z4, .int .i64 z5, .bool z6, .int .i64 z7, .int .i64 z8, .int .i64 z9, .int .i64 z10, .int .i64 z11, .int .i64 z12, .int .i64 z13, .int .i64 z14, .int .i64 z15, .int .i64 z16, .int .i64 z17, .int .i64 z18, .int .i64 z19, .int .i64 z20] 32)).alloc (.cells #[.int .i64 0, .int .i64 0, .int .i64 0, .int .u32 0, .slice none 0 0] 34)).drew = W at *
  have hcb := hbox.cell
  have lb := hbox.lt
  repeat (refine pre_quiet ?_; go_big_quiet_step (fail); refine wpQuiet_nil ?_)
  refine pre_nil ⟨?_, ?_⟩
  · intro x hx o ho w3
    simp only [List.mem_cons, List.not_mem_nil, or_false] at hx
    subst hx
    simp at ho
    subst ho
    go_simp
  clear hcb lb
  refine rs_loud rfl ?_
  intro W1 hW1 K hK
  replace hbox := hbox.below hW1 hbox.lt
  replace hz := hz.below hW1 hz.lt
  replace hbel := bnext hbel hW1
  clear hW1
  go_simp
  go_at_call 20
  refine (mod2_any z18 6 _ (by decide) (by decide)).mono ?_
  rintro e w' ⟨rfl, rfl⟩
  refine hK _ _ (KeptBut.refl _ _) ?_
  clear hK K
  refine rs_loud rfl ?_
  intro W2 hW2 K hK
  replace hbox := hbox.below hW2 hbox.lt
  replace hz := hz.below hW2 hz.lt
  replace hbel := bnext hbel hW2
  clear hW2
  go_simp
  go_at_call 20
  refine (mod2_any z1 999 _ (by decide) (by decide)).mono ?_
  rintro e w' ⟨rfl, rfl⟩
  refine hK _ _ (KeptBut.refl _ _) ?_
  clear hK K
  generalize z18 % 6 = s at *
  generalize z1 % 999 = n0 at *
  repeat (refine rs_quiet ?_; go_big_quiet_step (fail); refine wpQuiet_nil ?_)
  refine rs_loud rfl ?_
  intro W3 hW3 K hK
  replace hbox := hbox.below hW3 hbox.lt
  replace hz := hz.below hW3 hz.lt
  replace hbel := bnext hbel hW3
  clear hW3
  go_simp
  go_at_call 20
  refine (mod2_any z0 5 _ (by decide) (by decide)).mono ?_
  rintro e w' ⟨rfl, rfl⟩
  refine hK _ _ (KeptBut.refl _ _) ?_
  clear hK K
  generalize z0 % 5 = k0 at *
  repeat (refine rs_quiet ?_; go_big_quiet_step (fail); refine wpQuiet_nil ?_)
  refine rs_nil ?_
  intro W4 hW4 sx hs1 hs2 hM
  replace hbox := hbox.below hW4 hbox.lt
  replace hz := hz.below hW4 hz.lt
  replace hbel := bnext hbel hW4
  clear hW4
  obtain ⟨g, rfl, hg, hf⟩ := mde1 hs1 hs2 hM
  clear hs1 hs2 hM
  have hcf := hf.cell
  have hff := hf.frozen
  simp only [msets]
  refine ⟨[g], ?_⟩
  refine ms_loud rfl ?_
  intro K hK
  go_simp
  have hgr := doc_kept (w := W4) (g := g) (.int .i64 s) (.int .i64 (1 + n0)) (.int .i64 (1 + k0)) (.int .u32 0) (.slice none 0 0)
  have hd := doc_put rfl hf (.int .i64 s) (.int .i64 (1 + n0)) (.int .i64 (1 + k0)) (.int .u32 0) (.slice none 0 0)
  refine hK _ _ (KeptBut.of_grown hgr (by simp)) ?_
  clear hK K hcf hff
  try simp at hg
  replace hbox := hbox.grown hgr (by simp; omega)
  replace hz := hz.grown hgr (by simp; omega)
  replace hbel := hbel.grown hgr hbel.size (fun k hk => by injection hk; omega)
  clear hgr hf
  generalize (((((W4.setCell ⟨g, 0, none⟩ (.int .i64 s)).setCell ⟨g, 1, none⟩ (.int .i64 (1 + n0))).setCell ⟨g, 2, none⟩ (.int .i64 (1 + k0))).setCell ⟨g, 3, none⟩ (.int .u32 0)).setCell ⟨g, 4, none⟩ (.slice none 0 0)) = W5 at *
  refine ms_nil ?_
  by_cases hn0 : n0 = 0
  · subst hn0
    have hcd := hd.cell
    go_wp2_with (refine wpList_load_row (by rfl) 32 (.tmp 1) (by rfl) w.heap.size (by rfl) _ _ _ _ hbox Try.underlying32 rfl info_raw ?_)
    refine (lbody_any z0 z1 z2 z3 z4 z5 z6 z7 z8 z9 z10 z11 z12 z13 z14 z15 z16 z17 z18 z19 z20 (1 + k0) s _ (by omega) (by omega) (by omega) (by omega) r12 r18 r19 r20).mono ?_
    rintro e w7 ⟨v, l, rfl, hown, hbd, hb7⟩
    obtain ⟨va, vc, hvv⟩ := own_len hown
    subst hvv
    generalize hvn : l.length = vn at *
    have HVN := Lib.hid hvn
    have HBD := Lib.hid hbd
    clear hcd hbd hvn
    replace hd := hd.below hb7 hd.lt
    replace hz := hz.below hb7 hz.lt
    replace hbel := bnext hbel hb7
    clear hb7 hbox
    have hap := hd.apart hown (by decide)
    have haz := hz.apart hown (by decide)
    have hd2 := doc_set4 hd (.slice va vn vc)
    have hz2 := hz.far (p := ⟨g, 4, none⟩) (show w.heap.size + 1 ≠ g by omega) (.slice va vn vc)
    replace hbel := hbel.setCell (p := ⟨g, 4, none⟩) (show w.heap.size ≤ g by omega) (.slice va vn vc)
    have ho2 := own_grown hown (grown_set (g := g) (o := 4) (.slice va vn vc)) hap
    have hcd := hd.cell
    have hfd := hd.frozen
    have hcd2 := hd2.cell
    have hcz := hz2.cell
    have hfz := hz2.frozen
    have lz := hz2.lt
    go_wp2_with fail
    clear hcd hfd hcd2 hcz hfz
    have hgr := doc_kept (w := w7.setCell ⟨g, 4, none⟩ (.slice va vn vc)) (g := w.heap.size + 1) (.int .i64 s) (.int .i64 1) (.int .i64 (1 + k0)) (.int .u32 0) (.slice va vn vc)
    refine bodyPost_ret (v := .agg #[.int .i64 s, .int .i64 1, .int .i64 (1 + k0), .int .u32 0, .slice va vn vc]) (results_cell_row Try.results21 _ _ (w.heap.size + 1) 34 _ (0, 0) _ rfl (doc_put rfl hz2 _ _ _ _ _) Try.underlying34 rfl info_doc) rfl ?_
    have ho3 := own_grown ho2 hgr haz
    have hvn := HVN.out
    clear HVN
    subst hvn
    refine ⟨s, 1, 1 + k0, 0, _, l, rfl, ?_, by omega, by omega, Part1.of ho3, doc_far hbel (by omega) _ _ _ _ _⟩
    rw [docB_eq, HBD.out]
    simp [btw]
    omega
  · have hn1 : 1 < 1 + n0 := by omega
    obtain ⟨p1, p2⟩ := emod_bd z2 4294967296 (by decide)
    have hcb := hbox.cell
    have hcd := hd.cell
    have hfd := hd.frozen
    go_wp2_with fail
    refine (mod2_any z2 4294967296 _ (by decide) (by decide)).mono ?_
    rintro e w' ⟨rfl, rfl⟩
    generalize z2 % 4294967296 = p at *
    have hd3 := doc_set3 hd (.int .u32 p)
    have hb3 := hbox.far (p := ⟨g, 3, none⟩) (show w.heap.size ≠ g by omega) (.int .u32 p)
    have hz3 := hz.far (p := ⟨g, 3, none⟩) (show w.heap.size + 1 ≠ g by omega) (.int .u32 p)
    have hl3 := hbel.setCell (p := ⟨g, 3, none⟩) (show w.heap.size ≤ g by omega) (.int .u32 p)
    have hcd3 := hd3.cell
    go_wp2_with (refine wpList_load_row (by rfl) 32 (.tmp 1) (by rfl) w.heap.size (by rfl) _ _ _ _ hb3 Try.underlying32 rfl info_raw ?_)
    clear hcb hcd hfd hcd3 hd hbox hz hbel
    generalize W5.setCell ⟨g, 3, none⟩ (.int .u32 p) = W6 at *
    have hd := hd3
    have hbox := hb3
    have hz := hz3
    have hbel := hl3
    clear hd3 hb3 hz3 hl3
    refine (lbody_any z0 z1 z2 z3 z4 z5 z6 z7 z8 z9 z10 z11 z12 z13 z14 z15 z16 z17 z18 z19 z20 (1 + k0) s _ (by omega) (by omega) (by omega) (by omega) r12 r18 r19 r20).mono ?_
    rintro e w7 ⟨v, l, rfl, hown, hbd, hb7⟩
    obtain ⟨va, vc, hvv⟩ := own_len hown
    subst hvv
    generalize hvn : l.length = vn at *
    have HVN := Lib.hid hvn
    have HBD := Lib.hid hbd
    clear hbd hvn
    replace hd := hd.below hb7 hd.lt
    replace hz := hz.below hb7 hz.lt
    replace hbel := bnext hbel hb7
    clear hb7 hbox
    have hap := hd.apart hown (by decide)
    have haz := hz.apart hown (by decide)
    have hd2 := doc_set4 hd (.slice va vn vc)
    have hz2 := hz.far (p := ⟨g, 4, none⟩) (show w.heap.size + 1 ≠ g by omega) (.slice va vn vc)
    replace hbel := hbel.setCell (p := ⟨g, 4, none⟩) (show w.heap.size ≤ g by omega) (.slice va vn vc)
    have ho2 := own_grown hown (grown_set (g := g) (o := 4) (.slice va vn vc)) hap
    have hcd := hd.cell
    have hfd := hd.frozen
    have hcd2 := hd2.cell
    have hcz := hz2.cell
    have hfz := hz2.frozen
    have lz := hz2.lt
    go_wp2_with fail
    clear hcd hfd hcd2 hcz hfz
    have hgr := doc_kept (w := w7.setCell ⟨g, 4, none⟩ (.slice va vn vc)) (g := w.heap.size + 1) (.int .i64 s) (.int .i64 (1 + n0)) (.int .i64 (1 + k0)) (.int .u32 p) (.slice va vn vc)
    refine bodyPost_ret (v := .agg #[.int .i64 s, .int .i64 (1 + n0), .int .i64 (1 + k0), .int .u32 p, .slice va vn vc]) (results_cell_row Try.results21 _ _ (w.heap.size + 1) 34 _ (0, 0) _ rfl (doc_put rfl hz2 _ _ _ _ _) Try.underlying34 rfl info_doc) rfl ?_
    have ho3 := own_grown ho2 hgr haz
    have hvn := HVN.out
    clear HVN
    subst hvn
    refine ⟨s, 1 + n0, 1 + k0, p, _, l, rfl, ?_, by omega, by omega, Part1.of ho3, doc_far hbel (by omega) _ _ _ _ _⟩
    rw [docB_eq, HBD.out]
    simp [btw]
    omega
end Go.Proofs.Ytkkjiihdmpngbaa
