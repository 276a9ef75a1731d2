/-
  FactTotal: of two made facts just one comes first or they are equal, and the order is transitive. No conditions.
-/
import Derived.Test.YtplmpipenljonaaFd2
import Derived.Test.YtplmpipenljonaaRf2
import Derived.Test.YtplmpipenljonaaLes
import Derived.Test.YtplmpipenljonaaFrm
import Derived.Deep.DeepCutAuto
namespace Go.Proofs.Ytplmpipenljonaa
open Go.ChangeShapes Go.WideShapes Go.ChangeAt Go.RowKit
set_option linter.unusedVariables false

theorem al_fact3 (i d j e k l : Nat) : ∀ x ∈ [(⟨i, d, 31, #[.int .i64 0, .int .i64 0, .int .i64 0, .bool false, .int .i64 0, .int .i64 0, .int .i64 0, .int .i64 0, .int .i64 0, .int .i64 0, .int .i64 0, .int .i64 0, .int .i64 0, .int .i64 0]⟩ : Al), ⟨j, e, 31, #[.int .i64 0, .int .i64 0, .int .i64 0, .bool false, .int .i64 0, .int .i64 0, .int .i64 0, .int .i64 0, .int .i64 0, .int .i64 0, .int .i64 0, .int .i64 0, .int .i64 0, .int .i64 0]⟩, ⟨k, l, 31, #[.int .i64 0, .int .i64 0, .int .i64 0, .bool false, .int .i64 0, .int .i64 0, .int .i64 0, .int .i64 0, .int .i64 0, .int .i64 0, .int .i64 0, .int .i64 0, .int .i64 0, .int .i64 0]⟩], ∀ w, (Instr.alloc x.t true (.tuple #[])).run Try.prog w = .ok (ptrTo w.heap.size) (w.alloc (.cells x.z x.t)) := by
  intro x hx w
  simp only [List.mem_cons, List.not_mem_nil, or_false] at hx
  rcases hx with rfl | rfl | rfl <;> exact alloc_fact w
def Near3 (w : World) (r s t : Array Value) (wx : World) : Prop := BlkIs wx w.heap.size 27 r ∧ BlkIs wx (w.heap.size + 1) 27 s ∧ BlkIs wx (w.heap.size + 2) 27 t ∧ Below w.heap.size w wx

set_option maxRecDepth 100000 in
set_option maxHeartbeats 12000000 in
theorem ltotal_walk (r0 r1 r2 : Int) (r3 : Bool) (r4 r5 r6 r7 r8 r9 r10 r11 r12 : Int) (s0 s1 s2 : Int) (s3 : Bool) (s4 s5 s6 s7 s8 s9 s10 s11 s12 : Int) (t0 t1 t2 : Int) (t3 : Bool) (t4 t5 t6 t7 t8 t9 t10 t11 t12 : Int) (near : Bool) (w : World) (z1 : -9223372036854775808 ≤ r9) (z2 : r9 ≤ 9223372036854775807)
    (y1 : -9223372036854775808 ≤ s9) (y2 : s9 ≤ 9223372036854775807) (x1 : -9223372036854775808 ≤ t9) (x2 : t9 ≤ 9223372036854775807) :
    Calls Try.prog 7 #[.agg #[.int .i64 r0, .int .i64 r1, .int .i64 r2, .bool r3, .int .i64 r4, .int .i64 r5, .int .i64 r6, .int .i64 r7, .int .i64 r8, .int .i64 r9, .int .i64 r10, .int .i64 r11, .int .i64 r12], .agg #[.int .i64 s0, .int .i64 s1, .int .i64 s2, .bool s3, .int .i64 s4, .int .i64 s5, .int .i64 s6, .int .i64 s7, .int .i64 s8, .int .i64 s9, .int .i64 s10, .int .i64 s11, .int .i64 s12], .agg #[.int .i64 t0, .int .i64 t1, .int .i64 t2, .bool t3, .int .i64 t4, .int .i64 t5, .int .i64 t6, .int .i64 t7, .int .i64 t8, .int .i64 t9, .int .i64 t10, .int .i64 t11, .int .i64 t12], .bool near] w fun e w' => e = .returned (.bool true) ∧ Below w.heap.size w w' := by
  have hst0 : Near3 w #[.int .i64 r0, .int .i64 r1, .int .i64 r2, .bool r3, .int .i64 r4, .int .i64 r5, .int .i64 r6, .int .i64 r7, .int .i64 r8, .int .i64 r9, .int .i64 r10, .int .i64 r11, .int .i64 r12] #[.int .i64 s0, .int .i64 s1, .int .i64 s2, .bool s3, .int .i64 s4, .int .i64 s5, .int .i64 s6, .int .i64 s7, .int .i64 s8, .int .i64 s9, .int .i64 s10, .int .i64 s11, .int .i64 s12] #[.int .i64 t0, .int .i64 t1, .int .i64 t2, .bool t3, .int .i64 t4, .int .i64 t5, .int .i64 t6, .int .i64 t7, .int .i64 t8, .int .i64 t9, .int .i64 t10, .int .i64 t11, .int .i64 t12] (((w.alloc (.cells #[.int .i64 r0, .int .i64 r1, .int .i64 r2, .bool r3, .int .i64 r4, .int .i64 r5, .int .i64 r6, .int .i64 r7, .int .i64 r8, .int .i64 r9, .int .i64 r10, .int .i64 r11, .int .i64 r12] 27)).alloc (.cells #[.int .i64 s0, .int .i64 s1, .int .i64 s2, .bool s3, .int .i64 s4, .int .i64 s5, .int .i64 s6, .int .i64 s7, .int .i64 s8, .int .i64 s9, .int .i64 s10, .int .i64 s11, .int .i64 s12] 27)).alloc (.cells #[.int .i64 t0, .int .i64 t1, .int .i64 t2, .bool t3, .int .i64 t4, .int .i64 t5, .int .i64 t6, .int .i64 t7, .int .i64 t8, .int .i64 t9, .int .i64 t10, .int .i64 t11, .int .i64 t12] 27)) :=
    ⟨((BlkIs.new _ _ _).alloc _).alloc _, (BlkIs.newAt _ _ _ _ (by simp)).alloc _, BlkIs.newAt _ _ _ _ (by simp), (((Below.refl _ _).alloc (Nat.le_refl _) _).alloc (by simp) _).alloc (by simp; omega) _⟩
  go_enter Try.func7, Try.ntmps7
  go_upto_if 13 with fail
  generalize ((w.alloc (.cells #[.int .i64 r0, .int .i64 r1, .int .i64 r2, .bool r3, .int .i64 r4, .int .i64 r5, .int .i64 r6, .int .i64 r7, .int .i64 r8, .int .i64 r9, .int .i64 r10, .int .i64 r11, .int .i64 r12] 27)).alloc (.cells #[.int .i64 s0, .int .i64 s1, .int .i64 s2, .bool s3, .int .i64 s4, .int .i64 s5, .int .i64 s6, .int .i64 s7, .int .i64 s8, .int .i64 s9, .int .i64 s10, .int .i64 s11, .int .i64 s12] 27)).alloc (.cells #[.int .i64 t0, .int .i64 t1, .int .i64 t2, .bool t3, .int .i64 t4, .int .i64 t5, .int .i64 t6, .int .i64 t7, .int .i64 t8, .int .i64 t9, .int .i64 t10, .int .i64 t11, .int .i64 t12] 27) = W at *
  go_cut [] (fun wx => ∃ a b c d e f : Int, Near3 w #[.int .i64 r0, .int .i64 r1, .int .i64 r2, .bool r3, .int .i64 r4, .int .i64 r5, .int .i64 r6, .int .i64 r7, .int .i64 r8, .int .i64 r9, .int .i64 r10, .int .i64 r11, .int .i64 r12] #[.int .i64 a, .int .i64 b, .int .i64 c, .bool s3, .int .i64 s4, .int .i64 s5, .int .i64 s6, .int .i64 s7, .int .i64 s8, .int .i64 s9, .int .i64 s10, .int .i64 s11, .int .i64 s12] #[.int .i64 d, .int .i64 e, .int .i64 f, .bool t3, .int .i64 t4, .int .i64 t5, .int .i64 t6, .int .i64 t7, .int .i64 t8, .int .i64 t9, .int .i64 t10, .int .i64 t11, .int .i64 t12] wx)
  case first =>
    cases near
    · go_wp2
      go_meet
      exact ⟨s0, s1, s2, t0, t1, t2, hst0⟩
    · go_wp2_with fail
      refine wp_region_ml [7, 9, 11] [0, 1, 2, 3, 4, 5, 6, 7, 8, 9, 10, 11] (w.heap.size + 1) (by kernel_rfl) (by kernel_rfl) rfl (by decide) (by kernel_rfl) (fun _ _ _ _ _ h => h) ?_
      simp only [marked, List.getElem?_cons_zero, List.getElem?_cons_succ, List.contains_cons, List.contains_nil, Nat.reduceBEq, Bool.or_false, Bool.or_true, BEq.rfl]
      obtain ⟨hr, hs, ht, hbel⟩ := hst0
      replace hr := hr.drew
      replace hs := hs.drew
      replace ht := ht.drew
      replace hbel := hbel.drew
      generalize W.drew = W1 at *
      have hcr := hr.cell
      have hcs := hs.cell
      have hfs := hs.frozen
      repeat (refine ml_quiet ?_; go_big_quiet_step (fail); refine wpQuiet_nil ?_)
      refine ml_loud rfl ?_
      intro K hK
      go_simp
      refine hK _ _ (w.heap.size + 1) (Nat.le_refl _) ((Below.refl _ _).setCell (by simp) _) ?_
      clear hK K
      repeat (refine ml_quiet ?_; go_big_quiet_step (fail); refine wpQuiet_nil ?_)
      refine ml_loud rfl ?_
      intro K hK
      go_simp
      refine hK _ _ (w.heap.size + 1) (Nat.le_refl _) ((Below.refl _ _).setCell (by simp) _) ?_
      clear hK K
      repeat (refine ml_quiet ?_; go_big_quiet_step (fail); refine wpQuiet_nil ?_)
      refine ml_loud rfl ?_
      intro K hK
      go_simp
      refine hK _ _ (w.heap.size + 1) (Nat.le_refl _) ((Below.refl _ _).setCell (by simp) _) ?_
      clear hK K
      refine ml_nil ?_
      replace hr := ((hr.far (p := ⟨w.heap.size + 1, 0, none⟩) (by simp) (.int .i64 r0)).far (p := ⟨w.heap.size + 1, 1, none⟩) (by simp) (.int .i64 r1)).far (p := ⟨w.heap.size + 1, 2, none⟩) (by simp) (.int .i64 r2)
      replace hs := ((hs.put 0 (.int .i64 r0)).put 1 (.int .i64 r1)).put 2 (.int .i64 r2)
      replace hbel := ((hbel.setCell (p := ⟨w.heap.size + 1, 0, none⟩) (by simp) (.int .i64 r0)).setCell (p := ⟨w.heap.size + 1, 1, none⟩) (by simp) (.int .i64 r1)).setCell (p := ⟨w.heap.size + 1, 2, none⟩) (by simp) (.int .i64 r2)
      replace ht := ((ht.far (p := ⟨w.heap.size + 1, 0, none⟩) (by simp) (.int .i64 r0)).far (p := ⟨w.heap.size + 1, 1, none⟩) (by simp) (.int .i64 r1)).far (p := ⟨w.heap.size + 1, 2, none⟩) (by simp) (.int .i64 r2)
      clear hcr hcs hfs
      generalize ((W1.setCell ⟨w.heap.size + 1, 0, none⟩ (.int .i64 r0)).setCell ⟨w.heap.size + 1, 1, none⟩ (.int .i64 r1)).setCell ⟨w.heap.size + 1, 2, none⟩ (.int .i64 r2) = W2 at *
      go_wp2_with fail
      refine wp_region_ml [7, 9, 11] [0, 1, 2, 3, 4, 5, 6, 7, 8, 9, 10, 11] (w.heap.size + 1) (by kernel_rfl) (by kernel_rfl) rfl (by decide) (by kernel_rfl) (fun _ _ _ _ _ h => h) ?_
      simp only [marked, List.getElem?_cons_zero, List.getElem?_cons_succ, List.contains_cons, List.contains_nil, Nat.reduceBEq, Bool.or_false, Bool.or_true, BEq.rfl]
      replace hr := hr.drew
      replace hs := hs.drew
      replace ht := ht.drew
      replace hbel := hbel.drew
      generalize W2.drew = W3 at *
      have hcr := hr.cell
      have hct := ht.cell
      have hft := ht.frozen
      repeat (refine ml_quiet ?_; go_big_quiet_step (fail); refine wpQuiet_nil ?_)
      refine ml_loud rfl ?_
      intro K hK
      go_simp
      refine hK _ _ (w.heap.size + 1) (Nat.le_refl _) ((Below.refl _ _).setCell (by simp) _) ?_
      clear hK K
      repeat (refine ml_quiet ?_; go_big_quiet_step (fail); refine wpQuiet_nil ?_)
      refine ml_loud rfl ?_
      intro K hK
      go_simp
      refine hK _ _ (w.heap.size + 1) (Nat.le_refl _) ((Below.refl _ _).setCell (by simp) _) ?_
      clear hK K
      repeat (refine ml_quiet ?_; go_big_quiet_step (fail); refine wpQuiet_nil ?_)
      refine ml_loud rfl ?_
      intro K hK
      go_simp
      refine hK _ _ (w.heap.size + 1) (Nat.le_refl _) ((Below.refl _ _).setCell (by simp) _) ?_
      clear hK K
      refine ml_nil ?_
      replace hr := ((hr.far (p := ⟨w.heap.size + 2, 0, none⟩) (by simp) (.int .i64 r0)).far (p := ⟨w.heap.size + 2, 1, none⟩) (by simp) (.int .i64 r1)).far (p := ⟨w.heap.size + 2, 2, none⟩) (by simp) (.int .i64 r2)
      replace ht := ((ht.put 0 (.int .i64 r0)).put 1 (.int .i64 r1)).put 2 (.int .i64 r2)
      replace hbel := ((hbel.setCell (p := ⟨w.heap.size + 2, 0, none⟩) (by simp) (.int .i64 r0)).setCell (p := ⟨w.heap.size + 2, 1, none⟩) (by simp) (.int .i64 r1)).setCell (p := ⟨w.heap.size + 2, 2, none⟩) (by simp) (.int .i64 r2)
      replace hs := ((hs.far (p := ⟨w.heap.size + 2, 0, none⟩) (by simp) (.int .i64 r0)).far (p := ⟨w.heap.size + 2, 1, none⟩) (by simp) (.int .i64 r1)).far (p := ⟨w.heap.size + 2, 2, none⟩) (by simp) (.int .i64 r2)
      go_wp2
      go_meet
      exact ⟨r0, r1, r2, r0, r1, r2, hr, hs, ht, hbel⟩
  case rest =>
    clear hst0
    obtain ⟨q0, q1, q2, p0, p1, p2, hr, hs, ht, hbel⟩ := hcut
    go_wp2_with fail
    refine wp_region_rely [⟨6, 9, 31, #[.int .i64 0, .int .i64 0, .int .i64 0, .bool false, .int .i64 0, .int .i64 0, .int .i64 0, .int .i64 0, .int .i64 0, .int .i64 0, .int .i64 0, .int .i64 0, .int .i64 0, .int .i64 0]⟩, ⟨7, 10, 31, #[.int .i64 0, .int .i64 0, .int .i64 0, .bool false, .int .i64 0, .int .i64 0, .int .i64 0, .int .i64 0, .int .i64 0, .int .i64 0, .int .i64 0, .int .i64 0, .int .i64 0, .int .i64 0]⟩, ⟨8, 11, 31, #[.int .i64 0, .int .i64 0, .int .i64 0, .bool false, .int .i64 0, .int .i64 0, .int .i64 0, .int .i64 0, .int .i64 0, .int .i64 0, .int .i64 0, .int .i64 0, .int .i64 0, .int .i64 0]⟩] [1, 3, 5, 9, 10, 11] [0, 2, 4, 1, 3, 5] [9, 10, 11] #[true, true, true, true, true, true, true, true, true, false, false, false] (by kernel_rfl) (by kernel_rfl) rfl (by decide) (by decide) (by kernel_rfl) (by kernel_rfl) (by kernel_rfl) (by kernel_rfl) (by decide) (by kernel_rfl) (al_fact3 6 9 7 10 8 11) (fun _ _ _ _ _ h => h) (fun _ _ _ _ _ h => h) ?_
    simp only [marked, List.getElem?_cons_zero, List.getElem?_cons_succ, List.contains_cons, List.contains_nil, Nat.reduceBEq, Bool.or_false, Bool.or_true, BEq.rfl]
    obtain ⟨B, hB⟩ : ∃ B, B = wc.heap.size := ⟨_, rfl⟩
    rw [← hB]
    have hBw : w.heap.size ≤ B := by rw [hB]; exact hbel.size
    replace hr := hr.drew
    replace hs := hs.drew
    replace ht := ht.drew
    replace hbel := hbel.drew
    clear hB
    generalize wc.drew = W1 at *
    have hcr := hr.cell
    have hcs := hs.cell
    have hct := ht.cell
    have lr := hr.lt
    have ls := hs.lt
    have lt := ht.lt
    repeat (refine rl_quiet ?_; go_big_quiet_step (fail); refine wpQuiet_nil ?_)
    clear hcr hcs hct lr ls lt hr hs ht
    refine rl_loud rfl ?_
    intro W2 hW1 K hK
    replace hbel := bnext hbel hW1
    clear hW1
    go_simp
    go_at_call 17
    refine (make_any r0 r1 r2 r3 r4 r5 r6 r7 r8 r9 r10 r11 r12 _ z1 z2).mono ?_
    rintro e w3 ⟨⟨g0, g1, g2, g3, g4, g5, g6, g7, g8, g9, g10, g11, g12, g13⟩, rfl, hvf, hb1⟩
    simp only [fcells]
    refine hK _ _ hb1 ?_
    replace hbel := bnext hbel hb1
    clear hK K hb1
    repeat (refine rl_quiet ?_; go_big_quiet_step (fail); refine wpQuiet_nil ?_)
    refine rl_loud rfl ?_
    intro W4 hW1 K hK
    replace hbel := bnext hbel hW1
    clear hW1
    go_simp
    go_at_call 17
    refine (make_any q0 q1 q2 s3 s4 s5 s6 s7 s8 s9 s10 s11 s12 _ y1 y2).mono ?_
    rintro e w5 ⟨⟨h0, h1, h2, h3, h4, h5, h6, h7, h8, h9, h10, h11, h12, h13⟩, rfl, hvg, hb1⟩
    simp only [fcells]
    refine hK _ _ hb1 ?_
    replace hbel := bnext hbel hb1
    clear hK K hb1
    repeat (refine rl_quiet ?_; go_big_quiet_step (fail); refine wpQuiet_nil ?_)
    refine rl_loud rfl ?_
    intro W6 hW1 K hK
    replace hbel := bnext hbel hW1
    clear hW1
    go_simp
    go_at_call 17
    refine (make_any p0 p1 p2 t3 t4 t5 t6 t7 t8 t9 t10 t11 t12 _ x1 x2).mono ?_
    rintro e w7 ⟨⟨k0, k1, k2, k3, k4, k5, k6, k7, k8, k9, k10, k11, k12, k13⟩, rfl, hvh, hb1⟩
    simp only [fcells]
    refine hK _ _ hb1 ?_
    replace hbel := bnext hbel hb1
    clear hK K hb1
    refine rl_nil ?_
    intro W8 hW8 sx hs1 hs2 hM
    replace hbel := bnext hbel hW8
    clear hW8
    obtain ⟨bf, bg, bh, rfl, hBf, hf, hBg, hg, hBh, hh, n1, n2, n3⟩ := made3 hs1 hs2 hM
    clear hs1 hs2 hM
    replace hf : BlkIs W8 bf 31 (fcells zeroFct) := hf
    replace hg : BlkIs W8 bg 31 (fcells zeroFct) := hg
    replace hh : BlkIs W8 bh 31 (fcells zeroFct) := hh
    simp only [sets, ptrTo]
    have hcf : ∀ x, W8.cell? ⟨bf, x, none⟩ = (#[.int .i64 0, .int .i64 0, .int .i64 0, .bool false, .int .i64 0, .int .i64 0, .int .i64 0, .int .i64 0, .int .i64 0, .int .i64 0, .int .i64 0, .int .i64 0, .int .i64 0, .int .i64 0] : Array Value)[x]? := hf.cell
    have hff := hf.frozen
    refine ml_loud rfl ?_
    intro K hK
    go_simp
    refine hK _ _ _ (Nat.le_refl _) (below_put14 (Below.refl _ _) hBf _ _ _ _ _ _ _ _ _ _ _ _ _ _) ?_
    have e1 := f_put14 hf g0 g1 g2 g3 g4 g5 g6 g7 g8 g9 g10 g11 g12 g13
    have e2 := far_put14 hg (Ne.symm n1) g0 g1 g2 g3 g4 g5 g6 g7 g8 g9 g10 g11 g12 g13
    have e3 := far_put14 hh (Ne.symm n2) g0 g1 g2 g3 g4 g5 g6 g7 g8 g9 g10 g11 g12 g13
    have e4 := below_put14 hbel (Nat.le_trans hBw hBf) g0 g1 g2 g3 g4 g5 g6 g7 g8 g9 g10 g11 g12 g13
    clear hK K hcf hff hf hg hh hbel
    revert e1 e2 e3 e4
    generalize ((((((((((((((W8.setCell ⟨bf, 0, none⟩ (.int .i64 g0)).setCell ⟨bf, 1, none⟩ (.int .i64 g1)).setCell ⟨bf, 2, none⟩ (.int .i64 g2)).setCell ⟨bf, 3, none⟩ (.bool g3)).setCell ⟨bf, 4, none⟩ (.int .i64 g4)).setCell ⟨bf, 5, none⟩ (.int .i64 g5)).setCell ⟨bf, 6, none⟩ (.int .i64 g6)).setCell ⟨bf, 7, none⟩ (.int .i64 g7)).setCell ⟨bf, 8, none⟩ (.int .i64 g8)).setCell ⟨bf, 9, none⟩ (.int .i64 g9)).setCell ⟨bf, 10, none⟩ (.int .i64 g10)).setCell ⟨bf, 11, none⟩ (.int .i64 g11)).setCell ⟨bf, 12, none⟩ (.int .i64 g12)).setCell ⟨bf, 13, none⟩ (.int .i64 g13)) = W9
    intro hf hg hh hbel
    have hcf : ∀ x, W9.cell? ⟨bg, x, none⟩ = (#[.int .i64 0, .int .i64 0, .int .i64 0, .bool false, .int .i64 0, .int .i64 0, .int .i64 0, .int .i64 0, .int .i64 0, .int .i64 0, .int .i64 0, .int .i64 0, .int .i64 0, .int .i64 0] : Array Value)[x]? := hg.cell
    have hff := hg.frozen
    refine ml_loud rfl ?_
    intro K hK
    go_simp
    refine hK _ _ _ (Nat.le_refl _) (below_put14 (Below.refl _ _) hBg _ _ _ _ _ _ _ _ _ _ _ _ _ _) ?_
    have e1 := f_put14 hg h0 h1 h2 h3 h4 h5 h6 h7 h8 h9 h10 h11 h12 h13
    have e2 := far_put14 hf n1 h0 h1 h2 h3 h4 h5 h6 h7 h8 h9 h10 h11 h12 h13
    have e3 := far_put14 hh (Ne.symm n3) h0 h1 h2 h3 h4 h5 h6 h7 h8 h9 h10 h11 h12 h13
    have e4 := below_put14 hbel (Nat.le_trans hBw hBg) h0 h1 h2 h3 h4 h5 h6 h7 h8 h9 h10 h11 h12 h13
    clear hK K hcf hff hf hg hh hbel
    revert e1 e2 e3 e4
    generalize ((((((((((((((W9.setCell ⟨bg, 0, none⟩ (.int .i64 h0)).setCell ⟨bg, 1, none⟩ (.int .i64 h1)).setCell ⟨bg, 2, none⟩ (.int .i64 h2)).setCell ⟨bg, 3, none⟩ (.bool h3)).setCell ⟨bg, 4, none⟩ (.int .i64 h4)).setCell ⟨bg, 5, none⟩ (.int .i64 h5)).setCell ⟨bg, 6, none⟩ (.int .i64 h6)).setCell ⟨bg, 7, none⟩ (.int .i64 h7)).setCell ⟨bg, 8, none⟩ (.int .i64 h8)).setCell ⟨bg, 9, none⟩ (.int .i64 h9)).setCell ⟨bg, 10, none⟩ (.int .i64 h10)).setCell ⟨bg, 11, none⟩ (.int .i64 h11)).setCell ⟨bg, 12, none⟩ (.int .i64 h12)).setCell ⟨bg, 13, none⟩ (.int .i64 h13)) = W10
    intro hg hf hh hbel
    have hcf : ∀ x, W10.cell? ⟨bh, x, none⟩ = (#[.int .i64 0, .int .i64 0, .int .i64 0, .bool false, .int .i64 0, .int .i64 0, .int .i64 0, .int .i64 0, .int .i64 0, .int .i64 0, .int .i64 0, .int .i64 0, .int .i64 0, .int .i64 0] : Array Value)[x]? := hh.cell
    have hff := hh.frozen
    refine ml_loud rfl ?_
    intro K hK
    go_simp
    refine hK _ _ _ (Nat.le_refl _) (below_put14 (Below.refl _ _) hBh _ _ _ _ _ _ _ _ _ _ _ _ _ _) ?_
    have e1 := f_put14 hh k0 k1 k2 k3 k4 k5 k6 k7 k8 k9 k10 k11 k12 k13
    have e2 := far_put14 hf n2 k0 k1 k2 k3 k4 k5 k6 k7 k8 k9 k10 k11 k12 k13
    have e3 := far_put14 hg n3 k0 k1 k2 k3 k4 k5 k6 k7 k8 k9 k10 k11 k12 k13
    have e4 := below_put14 hbel (Nat.le_trans hBw hBh) k0 k1 k2 k3 k4 k5 k6 k7 k8 k9 k10 k11 k12 k13
    clear hK K hcf hff hf hg hh hbel
    revert e1 e2 e3 e4
    generalize ((((((((((((((W10.setCell ⟨bh, 0, none⟩ (.int .i64 k0)).setCell ⟨bh, 1, none⟩ (.int .i64 k1)).setCell ⟨bh, 2, none⟩ (.int .i64 k2)).setCell ⟨bh, 3, none⟩ (.bool k3)).setCell ⟨bh, 4, none⟩ (.int .i64 k4)).setCell ⟨bh, 5, none⟩ (.int .i64 k5)).setCell ⟨bh, 6, none⟩ (.int .i64 k6)).setCell ⟨bh, 7, none⟩ (.int .i64 k7)).setCell ⟨bh, 8, none⟩ (.int .i64 k8)).setCell ⟨bh, 9, none⟩ (.int .i64 k9)).setCell ⟨bh, 10, none⟩ (.int .i64 k10)).setCell ⟨bh, 11, none⟩ (.int .i64 k11)).setCell ⟨bh, 12, none⟩ (.int .i64 k12)).setCell ⟨bh, 13, none⟩ (.int .i64 k13)) = W11
    intro hh hf hg hbel
    refine ml_nil ?_
    replace hf : BlkIs W11 bf 31 #[.int .i64 g0, .int .i64 g1, .int .i64 g2, .bool g3, .int .i64 g4, .int .i64 g5, .int .i64 g6, .int .i64 g7, .int .i64 g8, .int .i64 g9, .int .i64 g10, .int .i64 g11, .int .i64 g12, .int .i64 g13] := hf
    replace hg : BlkIs W11 bg 31 #[.int .i64 h0, .int .i64 h1, .int .i64 h2, .bool h3, .int .i64 h4, .int .i64 h5, .int .i64 h6, .int .i64 h7, .int .i64 h8, .int .i64 h9, .int .i64 h10, .int .i64 h11, .int .i64 h12, .int .i64 h13] := hg
    replace hh : BlkIs W11 bh 31 #[.int .i64 k0, .int .i64 k1, .int .i64 k2, .bool k3, .int .i64 k4, .int .i64 k5, .int .i64 k6, .int .i64 k7, .int .i64 k8, .int .i64 k9, .int .i64 k10, .int .i64 k11, .int .i64 k12, .int .i64 k13] := hh
    have hcf := hf.cell
    have hcg := hg.cell
    have hch := hh.cell
    have HFG := Lib.hid (less_any ⟨g0, g1, g2, g3, g4, g5, g6, g7, g8, g9, g10, g11, g12, g13⟩ ⟨h0, h1, h2, h3, h4, h5, h6, h7, h8, h9, h10, h11, h12, h13⟩)
    have HGF := Lib.hid (less_any ⟨h0, h1, h2, h3, h4, h5, h6, h7, h8, h9, h10, h11, h12, h13⟩ ⟨g0, g1, g2, g3, g4, g5, g6, g7, g8, g9, g10, g11, g12, g13⟩)
    have HGH := Lib.hid (less_any ⟨h0, h1, h2, h3, h4, h5, h6, h7, h8, h9, h10, h11, h12, h13⟩ ⟨k0, k1, k2, k3, k4, k5, k6, k7, k8, k9, k10, k11, k12, k13⟩)
    have HFH := Lib.hid (less_any ⟨g0, g1, g2, g3, g4, g5, g6, g7, g8, g9, g10, g11, g12, g13⟩ ⟨k0, k1, k2, k3, k4, k5, k6, k7, k8, k9, k10, k11, k12, k13⟩)
    have HEQ := eq_fact ⟨g0, g1, g2, g3, g4, g5, g6, g7, g8, g9, g10, g11, g12, g13⟩ ⟨h0, h1, h2, h3, h4, h5, h6, h7, h8, h9, h10, h11, h12, h13⟩
    simp only [fcells] at HEQ
    have HAW : Hid (∀ w, Calls Try.prog 11 #[] w fun e w' => e = .returned (.bool true) ∧ Below w.heap.size w w') := awake_any
    have HTR : Hid (lessB ⟨g0, g1, g2, g3, g4, g5, g6, g7, g8, g9, g10, g11, g12, g13⟩ ⟨h0, h1, h2, h3, h4, h5, h6, h7, h8, h9, h10, h11, h12, h13⟩ = true → lessB ⟨h0, h1, h2, h3, h4, h5, h6, h7, h8, h9, h10, h11, h12, h13⟩ ⟨k0, k1, k2, k3, k4, k5, k6, k7, k8, k9, k10, k11, k12, k13⟩ = true → lessB ⟨g0, g1, g2, g3, g4, g5, g6, g7, g8, g9, g10, g11, g12, g13⟩ ⟨k0, k1, k2, k3, k4, k5, k6, k7, k8, k9, k10, k11, k12, k13⟩ = true) := fun a b => less_trans a b
    clear hvh
    rcases less_total hvf hvg with ⟨c1, c2, c3⟩ | ⟨c1, c2, c3⟩ | ⟨c1, c2, c3⟩
    · as_aux_lemma =>
        have ce : eqB ⟨g0, g1, g2, g3, g4, g5, g6, g7, g8, g9, g10, g11, g12, g13⟩ ⟨h0, h1, h2, h3, h4, h5, h6, h7, h8, h9, h10, h11, h12, h13⟩ = false := by rw [Bool.eq_false_iff]; exact fun h => c3 ((eqB_iff _ _).1 h)
        rw [ce] at HEQ
        rw [c1] at HFG HTR
        rw [c2] at HGF
        clear c1 c2 c3 ce hvf hvg
        go_wp2_with fail
        refine (HFG.out _).mono ?_
        rintro e v1 ⟨rfl, hb1⟩
        replace hf := hf.below hb1 hf.lt
        replace hg := hg.below hb1 hg.lt
        replace hh := hh.below hb1 hh.lt
        replace hbel := bnext hbel hb1
        clear hb1 hcf hcg hch
        have hcf := hf.cell
        have hcg := hg.cell
        have hch := hh.cell
        go_wp2_with fail
        refine (HGF.out _).mono ?_
        rintro e v2 ⟨rfl, hb2⟩
        replace hf := hf.below hb2 hf.lt
        replace hg := hg.below hb2 hg.lt
        replace hh := hh.below hb2 hh.lt
        replace hbel := bnext hbel hb2
        clear hb2 hcf hcg hch
        have hcf := hf.cell
        have hcg := hg.cell
        have hch := hh.cell
        go_wp2_with fail
        refine (HAW.out _).mono ?_
        rintro e v3 ⟨rfl, hb3⟩
        replace hf := hf.below hb3 hf.lt
        replace hg := hg.below hb3 hg.lt
        replace hh := hh.below hb3 hh.lt
        replace hbel := bnext hbel hb3
        clear hb3 hcf hcg hch
        have hcf := hf.cell
        have hcg := hg.cell
        have hch := hh.cell
        go_wp2_with fail
        refine (HFG.out _).mono ?_
        rintro e v4 ⟨rfl, hb4⟩
        replace hf := hf.below hb4 hf.lt
        replace hg := hg.below hb4 hg.lt
        replace hh := hh.below hb4 hh.lt
        replace hbel := bnext hbel hb4
        clear hb4 hcf hcg hch
        have hcf := hf.cell
        have hcg := hg.cell
        have hch := hh.cell
        go_wp2_with fail
        refine (HGH.out _).mono ?_
        rintro e v5 ⟨rfl, hb5⟩
        replace hf := hf.below hb5 hf.lt
        replace hg := hg.below hb5 hg.lt
        replace hh := hh.below hb5 hh.lt
        replace hbel := bnext hbel hb5
        clear hb5 hcf hcg hch
        have hcf := hf.cell
        have hcg := hg.cell
        have hch := hh.cell
        rcases c4 : lessB ⟨h0, h1, h2, h3, h4, h5, h6, h7, h8, h9, h10, h11, h12, h13⟩ ⟨k0, k1, k2, k3, k4, k5, k6, k7, k8, k9, k10, k11, k12, k13⟩ with _ | _
        · go_wp2
          go_ret
          exact ⟨rfl, hbel⟩
        · rw [HTR.out (by first | trivial | rfl) c4] at HFH
          go_wp2_with fail
          refine (HFH.out _).mono ?_
          rintro e v6 ⟨rfl, hb6⟩
          replace hf := hf.below hb6 hf.lt
          replace hg := hg.below hb6 hg.lt
          replace hh := hh.below hb6 hh.lt
          replace hbel := bnext hbel hb6
          clear hb6 hcf hcg hch
          have hcf := hf.cell
          have hcg := hg.cell
          have hch := hh.cell
          go_wp2
          go_ret
          exact ⟨rfl, hbel⟩
    · as_aux_lemma =>
        have ce : eqB ⟨g0, g1, g2, g3, g4, g5, g6, g7, g8, g9, g10, g11, g12, g13⟩ ⟨h0, h1, h2, h3, h4, h5, h6, h7, h8, h9, h10, h11, h12, h13⟩ = false := by rw [Bool.eq_false_iff]; exact fun h => c3 ((eqB_iff _ _).1 h)
        rw [ce] at HEQ
        rw [c1] at HFG
        rw [c2] at HGF
        clear c1 c2 c3 ce hvf hvg HTR
        go_wp2_with fail
        refine (HFG.out _).mono ?_
        rintro e v1 ⟨rfl, hb1⟩
        replace hf := hf.below hb1 hf.lt
        replace hg := hg.below hb1 hg.lt
        replace hh := hh.below hb1 hh.lt
        replace hbel := bnext hbel hb1
        clear hb1 hcf hcg hch
        have hcf := hf.cell
        have hcg := hg.cell
        have hch := hh.cell
        go_wp2_with fail
        refine (HGF.out _).mono ?_
        rintro e v2 ⟨rfl, hb2⟩
        replace hf := hf.below hb2 hf.lt
        replace hg := hg.below hb2 hg.lt
        replace hh := hh.below hb2 hh.lt
        replace hbel := bnext hbel hb2
        clear hb2 hcf hcg hch
        have hcf := hf.cell
        have hcg := hg.cell
        have hch := hh.cell
        go_wp2_with fail
        refine (HAW.out _).mono ?_
        rintro e v3 ⟨rfl, hb3⟩
        replace hf := hf.below hb3 hf.lt
        replace hg := hg.below hb3 hg.lt
        replace hh := hh.below hb3 hh.lt
        replace hbel := bnext hbel hb3
        clear hb3 hcf hcg hch
        have hcf := hf.cell
        have hcg := hg.cell
        have hch := hh.cell
        go_wp2_with fail
        refine (HFG.out _).mono ?_
        rintro e v4 ⟨rfl, hb4⟩
        replace hf := hf.below hb4 hf.lt
        replace hg := hg.below hb4 hg.lt
        replace hh := hh.below hb4 hh.lt
        replace hbel := bnext hbel hb4
        clear hb4 hcf hcg hch
        have hcf := hf.cell
        have hcg := hg.cell
        have hch := hh.cell
        go_wp2
        go_ret
        exact ⟨rfl, hbel⟩
    · as_aux_lemma =>
        have ce : eqB ⟨g0, g1, g2, g3, g4, g5, g6, g7, g8, g9, g10, g11, g12, g13⟩ ⟨h0, h1, h2, h3, h4, h5, h6, h7, h8, h9, h10, h11, h12, h13⟩ = true := (eqB_iff _ _).2 c3
        rw [ce] at HEQ
        rw [c1] at HFG
        rw [c2] at HGF
        clear c1 c2 c3 ce hvf hvg HTR
        go_wp2_with fail
        refine (HFG.out _).mono ?_
        rintro e v1 ⟨rfl, hb1⟩
        replace hf := hf.below hb1 hf.lt
        replace hg := hg.below hb1 hg.lt
        replace hh := hh.below hb1 hh.lt
        replace hbel := bnext hbel hb1
        clear hb1 hcf hcg hch
        have hcf := hf.cell
        have hcg := hg.cell
        have hch := hh.cell
        go_wp2_with fail
        refine (HGF.out _).mono ?_
        rintro e v2 ⟨rfl, hb2⟩
        replace hf := hf.below hb2 hf.lt
        replace hg := hg.below hb2 hg.lt
        replace hh := hh.below hb2 hh.lt
        replace hbel := bnext hbel hb2
        clear hb2 hcf hcg hch
        have hcf := hf.cell
        have hcg := hg.cell
        have hch := hh.cell
        go_wp2_with fail
        refine (HAW.out _).mono ?_
        rintro e v3 ⟨rfl, hb3⟩
        replace hf := hf.below hb3 hf.lt
        replace hg := hg.below hb3 hg.lt
        replace hh := hh.below hb3 hh.lt
        replace hbel := bnext hbel hb3
        clear hb3 hcf hcg hch
        have hcf := hf.cell
        have hcg := hg.cell
        have hch := hh.cell
        go_wp2_with fail
        refine (HFG.out _).mono ?_
        rintro e v4 ⟨rfl, hb4⟩
        replace hf := hf.below hb4 hf.lt
        replace hg := hg.below hb4 hg.lt
        replace hh := hh.below hb4 hh.lt
        replace hbel := bnext hbel hb4
        clear hb4 hcf hcg hch
        have hcf := hf.cell
        have hcg := hg.cell
        have hch := hh.cell
        go_wp2
        go_ret
        exact ⟨rfl, hbel⟩

set_option maxRecDepth 100000 in
theorem ltotal_lifted (os : Os) (started : os.Started) (H : Type) (enc : TypeId × Value → H) :
    ReturnsInHanded {} Try.checked os 7 .any (Rows.factTotalSpec.pre6 enc Try.prog Try.f7 Rows.factTotalRow.domain false) (Rows.factTotalSpec.post enc Try.prog Try.f7 false true false false) := by
  refine returnsInHanded_of_change (C := Try.checked) own_knob started (by kernel_rfl) Try.func7
    (ChangeSpec.witness6 (enc := enc) (C := Try.checked) false ⟨#[], #[.agg #[.int .i64 0, .int .i64 0, .int .i64 0, .bool false, .int .i64 0, .int .i64 0, .int .i64 0, .int .i64 0, .int .i64 0, .int .i64 0, .int .i64 0, .int .i64 0, .int .i64 0], .agg #[.int .i64 0, .int .i64 0, .int .i64 0, .bool false, .int .i64 0, .int .i64 0, .int .i64 0, .int .i64 0, .int .i64 0, .int .i64 0, .int .i64 0, .int .i64 0, .int .i64 0], .agg #[.int .i64 0, .int .i64 0, .int .i64 0, .bool false, .int .i64 0, .int .i64 0, .int .i64 0, .int .i64 0, .int .i64 0, .int .i64 0, .int .i64 0, .int .i64 0, .int .i64 0], .bool false], []⟩ 8 (by kernel_rfl) (by kernel_rfl) (by kernel_rfl) (by kernel_rfl)) ?_
  intro W base args ds gs before hval0 hW hcnd _
  have hval : ∀ (j : Nat) t v, Try.f7.params[j]? = some t → args[j]? = some v → Value.okWide Try.prog W .any base t v := hval0
  have hW' := hW
  obtain ⟨p, q, hA0, hV, rfl, hfz, hnd⟩ := hW
  have hA : DataW.TrodAll enc Try.prog W 0 (fun _ => true) true Try.f7.params.toList args.toList ds p := hA0
  rw [Try.params7] at hA hval
  obtain ⟨v0, vs0, d0, ds0, p0, q0, hargs, rfl, rfl, h0, tl0⟩ := trodAll_cons hA
  obtain ⟨v1, vs1, d1, ds1, p1, q1, rfl, rfl, rfl, h1, tl1⟩ := trodAll_cons tl0
  obtain ⟨v2, vs2, d2, ds2, p2, q2, rfl, rfl, rfl, h2, tl2⟩ := trodAll_cons tl1
  obtain ⟨v3, vs3, d3, ds3, p3, q3, rfl, rfl, rfl, h3, tl3⟩ := trodAll_cons tl2
  obtain ⟨rfl, rfl, rfl⟩ := trodAll_nil tl3
  obtain rfl : args = #[v0, v1, v2, v3] := by cases args; simp_all
  obtain ⟨rfl, rfl⟩ := trodVars_none hV
  have k0 := h0
  have lt0 : ∀ x ∈ p0, x.block < W.heap.size := by obtain ⟨m, hm⟩ := k0; exact DataW.trod_lt m _ _ _ hm
  have k1 := h1
  have lt1 : ∀ x ∈ p1, x.block < W.heap.size := by obtain ⟨m, hm⟩ := k1; exact DataW.trod_lt m _ _ _ hm
  have k2 := h2
  have lt2 : ∀ x ∈ p2, x.block < W.heap.size := by obtain ⟨m, hm⟩ := k2; exact DataW.trod_lt m _ _ _ hm
  have k3 := h3
  have lt3 : ∀ x ∈ p3, x.block < W.heap.size := by obtain ⟨m, hm⟩ := k3; exact DataW.trod_lt m _ _ _ hm
  obtain ⟨r0, r1, r2, r3, r4, r5, r6, r7, r8, r9, r10, r11, r12, rfl, _, _, _, _, _, _, _, _, z9, _⟩ := open_hand (hval 0 _ v0 rfl rfl) h0
  obtain ⟨s0, s1, s2, s3, s4, s5, s6, s7, s8, s9, s10, s11, s12, rfl, _, _, _, _, _, _, _, _, y9, _⟩ := open_hand (hval 1 _ v1 rfl rfl) h1
  obtain ⟨t0, t1, t2, t3, t4, t5, t6, t7, t8, t9, t10, t11, t12, rfl, _, _, _, _, _, _, _, _, x9, _⟩ := open_hand (hval 2 _ v2 rfl rfl) h2
  obtain ⟨near, rfl, rfl, rfl⟩ := open_bool Try.underlying4 (hval 3 4 v3 rfl rfl) h3
  clear hA0 hval0
  refine (ltotal_walk r0 r1 r2 r3 r4 r5 r6 r7 r8 r9 r10 r11 r12 s0 s1 s2 s3 s4 s5 s6 s7 s8 s9 s10 s11 s12 t0 t1 t2 t3 t4 t5 t6 t7 t8 t9 t10 t11 t12 near W z9.1 z9.2 y9.1 y9.2 x9.1 x9.2).mono fun e W' ⟨he, bel⟩ => ?_
  subst he
  exact ⟨_, rfl, _, _, _, [], _, [], hW', trodAll_mk1 (shut_bool Try.underlying4 _), (trodAll_cons_mk (Below.trod laid_out (by kernel_rfl) (of_decide_eq_true (by kernel_rfl)) k0 bel lt0) (trodAll_cons_mk (Below.trod laid_out (by kernel_rfl) (of_decide_eq_true (by kernel_rfl)) k1 bel lt1) (trodAll_cons_mk (Below.trod laid_out (by kernel_rfl) (of_decide_eq_true (by kernel_rfl)) k2 bel lt2) (trodAll_cons_mk (Below.trod laid_out (by kernel_rfl) (of_decide_eq_true (by kernel_rfl)) k3 bel lt3) trodAll_mk0)))), rfl, bel.frame _, fun h => by cases h⟩

theorem ltotal_over : Rows.factTotalRow.holds Try.pinned (OpenSpec.ofChange Rows.factTotalSpec) :=
  OpenClaim.holds_of_wide 7 Try.f7 rfl rfl rfl rfl rfl rfl rfl ⟨rfl, rfl, rfl, rfl, rfl⟩ rfl rfl rfl rfl rfl (by kernel_rfl) Try.func7 (by kernel_rfl)
    (of_decide_eq_true (by kernel_rfl)) (by unfold Func.isWrapper; first | (rw [if_pos (by decide +kernel)]; kernel_rfl) | (rw [if_neg (by decide +kernel)]; exact ⟨rfl, rfl⟩))
    (fun os started H enc _ => ltotal_lifted os started H enc)

/-- The statement. -/
theorem ltotal_holds : Rows.FactTotalSaid := ltotal_over
#print axioms ltotal_holds
end Go.Proofs.Ytplmpipenljonaa
