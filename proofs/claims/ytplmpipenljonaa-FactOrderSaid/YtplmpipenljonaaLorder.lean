/-
  FactOrder: fact.Less and the reference's Less agree, both ways round, for a made or spoilt fact and a made fact. No conditions.
-/
import Derived.Test.YtplmpipenljonaaFd2
import Derived.Test.YtplmpipenljonaaRf2
import Derived.Test.YtplmpipenljonaaLes
import Derived.Test.YtplmpipenljonaaFrm
import Derived.Deep.DeepCutAuto
namespace Go.Proofs.Ytplmpipenljonaa
open Go.ChangeShapes Go.WideShapes Go.ChangeAt Go.RowKit
set_option linter.unusedVariables false

theorem al_fact2 (i d j e : Nat) : ∀ x ∈ [(⟨i, d, 31, #[.int .i64 0, .int .i64 0, .int .i64 0, .bool false, .int .i64 0, .int .i64 0, .int .i64 0, .int .i64 0, .int .i64 0, .int .i64 0, .int .i64 0, .int .i64 0, .int .i64 0, .int .i64 0]⟩ : Al), ⟨j, e, 31, #[.int .i64 0, .int .i64 0, .int .i64 0, .bool false, .int .i64 0, .int .i64 0, .int .i64 0, .int .i64 0, .int .i64 0, .int .i64 0, .int .i64 0, .int .i64 0, .int .i64 0, .int .i64 0]⟩], ∀ w, (Instr.alloc x.t true (.tuple #[])).run Try.prog w = .ok (ptrTo w.heap.size) (w.alloc (.cells x.z x.t)) := by
  intro x hx w
  simp only [List.mem_cons, List.not_mem_nil, or_false] at hx
  rcases hx with rfl | rfl <;> exact alloc_fact w

def NearSt (w : World) (r s : Array Value) (wx : World) : Prop := BlkIs wx w.heap.size 27 r ∧ BlkIs wx (w.heap.size + 1) 27 s ∧ Below w.heap.size w wx

set_option maxRecDepth 100000 in
set_option maxHeartbeats 8000000 in
theorem lorder_walk (r0 r1 r2 : Int) (r3 : Bool) (r4 r5 r6 r7 r8 r9 r10 r11 r12 : Int) (s0 s1 s2 : Int) (s3 : Bool) (s4 s5 s6 s7 s8 s9 s10 s11 s12 : Int) (near : Bool) (kind n : Int) (w : World) (z1 : -9223372036854775808 ≤ r9) (z2 : r9 ≤ 9223372036854775807)
    (y1 : -9223372036854775808 ≤ s9) (y2 : s9 ≤ 9223372036854775807) :
    Calls Try.prog 6 #[.agg #[.int .i64 r0, .int .i64 r1, .int .i64 r2, .bool r3, .int .i64 r4, .int .i64 r5, .int .i64 r6, .int .i64 r7, .int .i64 r8, .int .i64 r9, .int .i64 r10, .int .i64 r11, .int .i64 r12], .agg #[.int .i64 s0, .int .i64 s1, .int .i64 s2, .bool s3, .int .i64 s4, .int .i64 s5, .int .i64 s6, .int .i64 s7, .int .i64 s8, .int .i64 s9, .int .i64 s10, .int .i64 s11, .int .i64 s12], .bool near, .int .i64 kind, .int .i64 n] w fun e w' => e = .returned (.bool true) ∧ Below w.heap.size w w' := by
  have hst0 : NearSt w #[.int .i64 r0, .int .i64 r1, .int .i64 r2, .bool r3, .int .i64 r4, .int .i64 r5, .int .i64 r6, .int .i64 r7, .int .i64 r8, .int .i64 r9, .int .i64 r10, .int .i64 r11, .int .i64 r12] #[.int .i64 s0, .int .i64 s1, .int .i64 s2, .bool s3, .int .i64 s4, .int .i64 s5, .int .i64 s6, .int .i64 s7, .int .i64 s8, .int .i64 s9, .int .i64 s10, .int .i64 s11, .int .i64 s12] ((w.alloc (.cells #[.int .i64 r0, .int .i64 r1, .int .i64 r2, .bool r3, .int .i64 r4, .int .i64 r5, .int .i64 r6, .int .i64 r7, .int .i64 r8, .int .i64 r9, .int .i64 r10, .int .i64 r11, .int .i64 r12] 27)).alloc (.cells #[.int .i64 s0, .int .i64 s1, .int .i64 s2, .bool s3, .int .i64 s4, .int .i64 s5, .int .i64 s6, .int .i64 s7, .int .i64 s8, .int .i64 s9, .int .i64 s10, .int .i64 s11, .int .i64 s12] 27)) :=
    ⟨(BlkIs.new _ _ _).alloc _, BlkIs.newAt _ _ _ _ (by simp), ((Below.refl _ _).alloc (Nat.le_refl _) _).alloc (by simp) _⟩
  go_enter Try.func6, Try.ntmps6
  go_upto_if 13 with fail
  generalize (w.alloc (.cells #[.int .i64 r0, .int .i64 r1, .int .i64 r2, .bool r3, .int .i64 r4, .int .i64 r5, .int .i64 r6, .int .i64 r7, .int .i64 r8, .int .i64 r9, .int .i64 r10, .int .i64 r11, .int .i64 r12] 27)).alloc (.cells #[.int .i64 s0, .int .i64 s1, .int .i64 s2, .bool s3, .int .i64 s4, .int .i64 s5, .int .i64 s6, .int .i64 s7, .int .i64 s8, .int .i64 s9, .int .i64 s10, .int .i64 s11, .int .i64 s12] 27) = W at *
  go_cut [] (fun wx => ∃ a b c : Int, NearSt w #[.int .i64 r0, .int .i64 r1, .int .i64 r2, .bool r3, .int .i64 r4, .int .i64 r5, .int .i64 r6, .int .i64 r7, .int .i64 r8, .int .i64 r9, .int .i64 r10, .int .i64 r11, .int .i64 r12] #[.int .i64 a, .int .i64 b, .int .i64 c, .bool s3, .int .i64 s4, .int .i64 s5, .int .i64 s6, .int .i64 s7, .int .i64 s8, .int .i64 s9, .int .i64 s10, .int .i64 s11, .int .i64 s12] wx)
  case first =>
    cases near
    · go_wp2
      go_meet
      exact ⟨s0, s1, s2, hst0⟩
    · go_wp2_with fail
      refine wp_region_ml [7, 9, 11] [0, 1, 2, 3, 4, 5, 6, 7, 8, 9, 10, 11] (w.heap.size + 1) (by kernel_rfl) (by kernel_rfl) rfl (by decide) (by kernel_rfl) (fun _ _ _ _ _ h => h) ?_
      simp only [marked, List.getElem?_cons_zero, List.getElem?_cons_succ, List.contains_cons, List.contains_nil, Nat.reduceBEq, Bool.or_false, Bool.or_true, BEq.rfl]
      obtain ⟨hr, hs, hbel⟩ := hst0
      replace hr := hr.drew
      replace hs := hs.drew
      replace hbel := hbel.drew
      generalize W.drew = W1 at *
      have hcr := hr.cell
      have hcs := hs.cell
      have hfs := hs.frozen
      repeat (refine ml_quiet ?_; go_big_quiet_step (fail); refine wpQuiet_nil ?_)
      refine ml_loud rfl ?_
      intro K hK
      go_simp
      refine hK _ _ (w.heap.size + 1) (Nat.le_refl _) ((Below.refl _ _).setCell (by simp) _) ?_
      clear hK K
      repeat (refine ml_quiet ?_; go_big_quiet_step (fail); refine wpQuiet_nil ?_)
      refine ml_loud rfl ?_
      intro K hK
      go_simp
      refine hK _ _ (w.heap.size + 1) (Nat.le_refl _) ((Below.refl _ _).setCell (by simp) _) ?_
      clear hK K
      repeat (refine ml_quiet ?_; go_big_quiet_step (fail); refine wpQuiet_nil ?_)
      refine ml_loud rfl ?_
      intro K hK
      go_simp
      refine hK _ _ (w.heap.size + 1) (Nat.le_refl _) ((Below.refl _ _).setCell (by simp) _) ?_
      clear hK K
      refine ml_nil ?_
      go_wp2
      go_meet
      refine ⟨r0, r1, r2, ((hr.far (by simp) _).far (by simp) _).far (by simp) _, ((hs.put 0 (.int .i64 r0)).put 1 (.int .i64 r1)).put 2 (.int .i64 r2), ((hbel.setCell (by simp) _).setCell (by simp) _).setCell (by simp) _⟩
  case rest =>
    clear hst0
    obtain ⟨q0, q1, q2, hr, hs, hbel⟩ := hcut
    go_wp2_with fail
    refine wp_region_rely [⟨6, 11, 31, #[.int .i64 0, .int .i64 0, .int .i64 0, .bool false, .int .i64 0, .int .i64 0, .int .i64 0, .int .i64 0, .int .i64 0, .int .i64 0, .int .i64 0, .int .i64 0, .int .i64 0, .int .i64 0]⟩, ⟨7, 12, 31, #[.int .i64 0, .int .i64 0, .int .i64 0, .bool false, .int .i64 0, .int .i64 0, .int .i64 0, .int .i64 0, .int .i64 0, .int .i64 0, .int .i64 0, .int .i64 0, .int .i64 0, .int .i64 0]⟩] [3, 5, 8, 9] [0, 1, 2, 4, 3, 5] [8, 9] #[true, true, true, true, true, true, true, true, false, false] (by kernel_rfl) (by kernel_rfl) rfl (by decide) (by decide) (by kernel_rfl) (by kernel_rfl) (by kernel_rfl) (by kernel_rfl) (by decide) (by kernel_rfl) (al_fact2 6 11 7 12) (fun _ _ _ _ _ h => h) (fun _ _ _ _ _ h => h) ?_
    simp only [marked, List.getElem?_cons_zero, List.getElem?_cons_succ, List.contains_cons, List.contains_nil, Nat.reduceBEq, Bool.or_false, Bool.or_true, BEq.rfl]
    obtain ⟨B, hB⟩ : ∃ B, B = wc.heap.size := ⟨_, rfl⟩
    rw [← hB]
    have hBw : w.heap.size ≤ B := by rw [hB]; exact hbel.size
    replace hr := hr.drew
    replace hs := hs.drew
    replace hbel := hbel.drew
    clear hB
    generalize wc.drew = W1 at *
    have hcr := hr.cell
    have hcs := hs.cell
    have lr := hr.lt
    have ls := hs.lt
    repeat (refine rl_quiet ?_; go_big_quiet_step (fail); refine wpQuiet_nil ?_)
    refine rl_loud rfl ?_
    intro W2 hW2 K hK
    replace hbel := bnext hbel hW2
    clear hW2 hcr hcs lr ls hr hs
    go_simp
    go_at_call 14
    refine (spoilt_any r0 r1 r2 r3 r4 r5 r6 r7 r8 r9 r10 r11 r12 kind n _ z1 z2).mono ?_
    rintro e w3 ⟨⟨g0, g1, g2, g3, g4, g5, g6, g7, g8, g9, g10, g11, g12, g13⟩, rfl, hb3⟩
    simp only [fcells]
    refine hK _ _ hb3 ?_
    replace hbel := bnext hbel hb3
    clear hK K hb3
    repeat (refine rl_quiet ?_; go_big_quiet_step (fail); refine wpQuiet_nil ?_)
    refine rl_loud rfl ?_
    intro W4 hW4 K hK
    replace hbel := bnext hbel hW4
    clear hW4
    go_simp
    go_at_call 17
    refine (make_any q0 q1 q2 s3 s4 s5 s6 s7 s8 s9 s10 s11 s12 _ y1 y2).mono ?_
    rintro e w5 ⟨⟨h0, h1, h2, h3, h4, h5, h6, h7, h8, h9, h10, h11, h12, h13⟩, rfl, hvh, hb5⟩
    simp only [fcells]
    refine hK _ _ hb5 ?_
    replace hbel := bnext hbel hb5
    clear hK K hb5 hvh
    refine rl_nil ?_
    intro W6 hW6 sx hs1 hs2 hM
    replace hbel := bnext hbel hW6
    clear hW6
    obtain ⟨bf, bg, rfl, hBf, hf, hBg, hg, hne⟩ := made2 hs1 hs2 hM
    clear hs1 hs2 hM
    replace hf : BlkIs W6 bf 31 (fcells zeroFct) := hf
    replace hg : BlkIs W6 bg 31 (fcells zeroFct) := hg
    have hcf : ∀ x, W6.cell? ⟨bf, x, none⟩ = (#[.int .i64 0, .int .i64 0, .int .i64 0, .bool false, .int .i64 0, .int .i64 0, .int .i64 0, .int .i64 0, .int .i64 0, .int .i64 0, .int .i64 0, .int .i64 0, .int .i64 0, .int .i64 0] : Array Value)[x]? := hf.cell
    have hff := hf.frozen
    simp only [sets, ptrTo]
    refine ml_loud rfl ?_
    intro K hK
    go_simp
    refine hK _ _ _ (Nat.le_refl _) (below_put14 (Below.refl _ _) hBf _ _ _ _ _ _ _ _ _ _ _ _ _ _) ?_
    replace hf := f_put14 hf g0 g1 g2 g3 g4 g5 g6 g7 g8 g9 g10 g11 g12 g13
    replace hg := far_put14 hg (Ne.symm hne) g0 g1 g2 g3 g4 g5 g6 g7 g8 g9 g10 g11 g12 g13
    replace hbel := below_put14 hbel (Nat.le_trans hBw hBf) g0 g1 g2 g3 g4 g5 g6 g7 g8 g9 g10 g11 g12 g13
    clear hK K hcf hff
    revert hf hg hbel
    generalize ((((((((((((((W6.setCell ⟨bf, 0, none⟩ (.int .i64 g0)).setCell ⟨bf, 1, none⟩ (.int .i64 g1)).setCell ⟨bf, 2, none⟩ (.int .i64 g2)).setCell ⟨bf, 3, none⟩ (.bool g3)).setCell ⟨bf, 4, none⟩ (.int .i64 g4)).setCell ⟨bf, 5, none⟩ (.int .i64 g5)).setCell ⟨bf, 6, none⟩ (.int .i64 g6)).setCell ⟨bf, 7, none⟩ (.int .i64 g7)).setCell ⟨bf, 8, none⟩ (.int .i64 g8)).setCell ⟨bf, 9, none⟩ (.int .i64 g9)).setCell ⟨bf, 10, none⟩ (.int .i64 g10)).setCell ⟨bf, 11, none⟩ (.int .i64 g11)).setCell ⟨bf, 12, none⟩ (.int .i64 g12)).setCell ⟨bf, 13, none⟩ (.int .i64 g13)) = W7
    intro hf hg hbel
    have hcf : ∀ x, W7.cell? ⟨bg, x, none⟩ = (#[.int .i64 0, .int .i64 0, .int .i64 0, .bool false, .int .i64 0, .int .i64 0, .int .i64 0, .int .i64 0, .int .i64 0, .int .i64 0, .int .i64 0, .int .i64 0, .int .i64 0, .int .i64 0] : Array Value)[x]? := hg.cell
    have hff := hg.frozen
    refine ml_loud rfl ?_
    intro K hK
    go_simp
    refine hK _ _ _ (Nat.le_refl _) (below_put14 (Below.refl _ _) hBg _ _ _ _ _ _ _ _ _ _ _ _ _ _) ?_
    replace hg := f_put14 hg h0 h1 h2 h3 h4 h5 h6 h7 h8 h9 h10 h11 h12 h13
    replace hf := far_put14 hf hne h0 h1 h2 h3 h4 h5 h6 h7 h8 h9 h10 h11 h12 h13
    replace hbel := below_put14 hbel (Nat.le_trans hBw hBg) h0 h1 h2 h3 h4 h5 h6 h7 h8 h9 h10 h11 h12 h13
    clear hK K hcf hff
    revert hf hg hbel
    generalize ((((((((((((((W7.setCell ⟨bg, 0, none⟩ (.int .i64 h0)).setCell ⟨bg, 1, none⟩ (.int .i64 h1)).setCell ⟨bg, 2, none⟩ (.int .i64 h2)).setCell ⟨bg, 3, none⟩ (.bool h3)).setCell ⟨bg, 4, none⟩ (.int .i64 h4)).setCell ⟨bg, 5, none⟩ (.int .i64 h5)).setCell ⟨bg, 6, none⟩ (.int .i64 h6)).setCell ⟨bg, 7, none⟩ (.int .i64 h7)).setCell ⟨bg, 8, none⟩ (.int .i64 h8)).setCell ⟨bg, 9, none⟩ (.int .i64 h9)).setCell ⟨bg, 10, none⟩ (.int .i64 h10)).setCell ⟨bg, 11, none⟩ (.int .i64 h11)).setCell ⟨bg, 12, none⟩ (.int .i64 h12)).setCell ⟨bg, 13, none⟩ (.int .i64 h13)) = W8
    intro hg hf hbel
    refine ml_nil ?_
    go_wp2_with fail
    refine wp_region_ml [0, 4, 7, 13, 16] [0, 1, 2, 3, 5, 6, 4, 7, 8, 9, 10, 11, 12, 14, 15, 13, 16, 17, 18, 19] W8.drew.heap.size (by kernel_rfl) (by kernel_rfl) rfl (by decide) (by kernel_rfl) (fun _ _ _ _ _ h => h) ?_
    simp only [marked, List.getElem?_cons_zero, List.getElem?_cons_succ, List.contains_cons, List.contains_nil, Nat.reduceBEq, Bool.or_false, Bool.or_true, BEq.rfl]
    replace hf : BlkIs W8.drew bf 31 #[.int .i64 g0, .int .i64 g1, .int .i64 g2, .bool g3, .int .i64 g4, .int .i64 g5, .int .i64 g6, .int .i64 g7, .int .i64 g8, .int .i64 g9, .int .i64 g10, .int .i64 g11, .int .i64 g12, .int .i64 g13] := hf.drew
    replace hg : BlkIs W8.drew bg 31 #[.int .i64 h0, .int .i64 h1, .int .i64 h2, .bool h3, .int .i64 h4, .int .i64 h5, .int .i64 h6, .int .i64 h7, .int .i64 h8, .int .i64 h9, .int .i64 h10, .int .i64 h11, .int .i64 h12, .int .i64 h13] := hg.drew
    replace hbel := hbel.drew
    generalize W8.drew = W9 at *
    have hcf := hf.cell
    have hcg := hg.cell
    have lf := hf.lt
    have lg := hg.lt
    repeat (refine ml_quiet ?_; go_big_quiet_step (fail); refine wpQuiet_nil ?_)
    refine ml_loud rfl ?_
    intro K hK
    go_simp
    go_at_call 11
    refine (awake_any _).mono ?_
    rintro e w10 ⟨rfl, hb10⟩
    refine hK _ _ w10.heap.size hb10.size hb10 ?_
    clear hK K
    replace hf := hf.below hb10 hf.lt
    replace hg := hg.below hb10 hg.lt
    replace hbel := bnext hbel hb10
    clear hb10 hcf hcg lf lg
    have hcf := hf.cell
    have hcg := hg.cell
    have lf := hf.lt
    have lg := hg.lt
    repeat (refine ml_quiet ?_; go_big_quiet_step (fail); refine wpQuiet_nil ?_)
    refine ml_loud rfl ?_
    intro K hK
    go_simp
    go_at_call 20
    refine (less_any ⟨g0, g1, g2, g3, g4, g5, g6, g7, g8, g9, g10, g11, g12, g13⟩ ⟨h0, h1, h2, h3, h4, h5, h6, h7, h8, h9, h10, h11, h12, h13⟩ _).mono ?_
    rintro e w11 ⟨rfl, hb11⟩
    refine hK _ _ w11.heap.size hb11.size hb11 ?_
    clear hK K
    replace hf := hf.below hb11 hf.lt
    replace hg := hg.below hb11 hg.lt
    replace hbel := bnext hbel hb11
    clear hb11 hcf hcg lf lg
    have hcf := hf.cell
    have hcg := hg.cell
    have lf := hf.lt
    have lg := hg.lt
    repeat (refine ml_quiet ?_; go_big_quiet_step (fail); refine wpQuiet_nil ?_)
    refine ml_loud rfl ?_
    intro K hK
    go_simp
    go_at_call 21
    refine (rless_any ⟨g0, g1, g2, g3, g4, g5, g6, g7, g8, g9, g10, g11, g12, g13⟩ ⟨h0, h1, h2, h3, h4, h5, h6, h7, h8, h9, h10, h11, h12, h13⟩ _).mono ?_
    rintro e w12 ⟨rfl, hb12⟩
    rw [← less_eq]
    refine hK _ _ w12.heap.size hb12.size hb12 ?_
    clear hK K
    replace hf := hf.below hb12 hf.lt
    replace hg := hg.below hb12 hg.lt
    replace hbel := bnext hbel hb12
    clear hb12 hcf hcg lf lg
    have hcf := hf.cell
    have hcg := hg.cell
    have lf := hf.lt
    have lg := hg.lt
    generalize lessB ⟨g0, g1, g2, g3, g4, g5, g6, g7, g8, g9, g10, g11, g12, g13⟩ ⟨h0, h1, h2, h3, h4, h5, h6, h7, h8, h9, h10, h11, h12, h13⟩ = R1
    repeat (refine ml_quiet ?_; go_big_quiet_step (fail); refine wpQuiet_nil ?_)
    refine ml_loud rfl ?_
    intro K hK
    go_simp
    go_at_call 20
    refine (less_any ⟨h0, h1, h2, h3, h4, h5, h6, h7, h8, h9, h10, h11, h12, h13⟩ ⟨g0, g1, g2, g3, g4, g5, g6, g7, g8, g9, g10, g11, g12, g13⟩ _).mono ?_
    rintro e w13 ⟨rfl, hb13⟩
    refine hK _ _ w13.heap.size hb13.size hb13 ?_
    clear hK K
    replace hf := hf.below hb13 hf.lt
    replace hg := hg.below hb13 hg.lt
    replace hbel := bnext hbel hb13
    clear hb13 hcf hcg lf lg
    have hcf := hf.cell
    have hcg := hg.cell
    have lf := hf.lt
    have lg := hg.lt
    repeat (refine ml_quiet ?_; go_big_quiet_step (fail); refine wpQuiet_nil ?_)
    refine ml_loud rfl ?_
    intro K hK
    go_simp
    go_at_call 21
    refine (rless_any ⟨h0, h1, h2, h3, h4, h5, h6, h7, h8, h9, h10, h11, h12, h13⟩ ⟨g0, g1, g2, g3, g4, g5, g6, g7, g8, g9, g10, g11, g12, g13⟩ _).mono ?_
    rintro e w14 ⟨rfl, hb14⟩
    rw [← less_eq]
    refine hK _ _ w14.heap.size hb14.size hb14 ?_
    clear hK K
    replace hf := hf.below hb14 hf.lt
    replace hg := hg.below hb14 hg.lt
    replace hbel := bnext hbel hb14
    clear hb14 hcf hcg lf lg
    have hcf := hf.cell
    have hcg := hg.cell
    have lf := hf.lt
    have lg := hg.lt
    generalize lessB ⟨h0, h1, h2, h3, h4, h5, h6, h7, h8, h9, h10, h11, h12, h13⟩ ⟨g0, g1, g2, g3, g4, g5, g6, g7, g8, g9, g10, g11, g12, g13⟩ = R2
    repeat (refine ml_quiet ?_; go_big_quiet_step (fail); refine wpQuiet_nil ?_)
    refine ml_nil ?_
    go_wp2
    go_ret
    exact ⟨rfl, hbel⟩

set_option maxRecDepth 100000 in
theorem lorder_lifted (os : Os) (started : os.Started) (H : Type) (enc : TypeId × Value → H) :
    ReturnsInHanded {} Try.checked os 6 .any (Rows.factOrderSpec.pre6 enc Try.prog Try.f6 Rows.factOrderRow.domain false) (Rows.factOrderSpec.post enc Try.prog Try.f6 false true false false) := by
  refine returnsInHanded_of_change (C := Try.checked) own_knob started (by kernel_rfl) Try.func6
    (ChangeSpec.witness6 (enc := enc) (C := Try.checked) false ⟨#[], #[.agg #[.int .i64 0, .int .i64 0, .int .i64 0, .bool false, .int .i64 0, .int .i64 0, .int .i64 0, .int .i64 0, .int .i64 0, .int .i64 0, .int .i64 0, .int .i64 0, .int .i64 0], .agg #[.int .i64 0, .int .i64 0, .int .i64 0, .bool false, .int .i64 0, .int .i64 0, .int .i64 0, .int .i64 0, .int .i64 0, .int .i64 0, .int .i64 0, .int .i64 0, .int .i64 0], .bool false, .int .i64 0, .int .i64 0], []⟩ 8 (by kernel_rfl) (by kernel_rfl) (by kernel_rfl) (by kernel_rfl)) ?_
  intro W base args ds gs before hval0 hW hcnd _
  have hval : ∀ (j : Nat) t v, Try.f6.params[j]? = some t → args[j]? = some v → Value.okWide Try.prog W .any base t v := hval0
  have hW' := hW
  obtain ⟨p, q, hA0, hV, rfl, hfz, hnd⟩ := hW
  have hA : DataW.TrodAll enc Try.prog W 0 (fun _ => true) true Try.f6.params.toList args.toList ds p := hA0
  rw [Try.params6] at hA hval
  obtain ⟨v0, vs0, d0, ds0, p0, q0, hargs, rfl, rfl, h0, tl0⟩ := trodAll_cons hA
  obtain ⟨v1, vs1, d1, ds1, p1, q1, rfl, rfl, rfl, h1, tl1⟩ := trodAll_cons tl0
  obtain ⟨v2, vs2, d2, ds2, p2, q2, rfl, rfl, rfl, h2, tl2⟩ := trodAll_cons tl1
  obtain ⟨v3, vs3, d3, ds3, p3, q3, rfl, rfl, rfl, h3, tl3⟩ := trodAll_cons tl2
  obtain ⟨v4, vs4, d4, ds4, p4, q4, rfl, rfl, rfl, h4, tl4⟩ := trodAll_cons tl3
  obtain ⟨rfl, rfl, rfl⟩ := trodAll_nil tl4
  obtain rfl : args = #[v0, v1, v2, v3, v4] := by cases args; simp_all
  obtain ⟨rfl, rfl⟩ := trodVars_none hV
  have k0 := h0
  have lt0 : ∀ x ∈ p0, x.block < W.heap.size := by obtain ⟨m, hm⟩ := k0; exact DataW.trod_lt m _ _ _ hm
  have k1 := h1
  have lt1 : ∀ x ∈ p1, x.block < W.heap.size := by obtain ⟨m, hm⟩ := k1; exact DataW.trod_lt m _ _ _ hm
  have k2 := h2
  have lt2 : ∀ x ∈ p2, x.block < W.heap.size := by obtain ⟨m, hm⟩ := k2; exact DataW.trod_lt m _ _ _ hm
  have k3 := h3
  have lt3 : ∀ x ∈ p3, x.block < W.heap.size := by obtain ⟨m, hm⟩ := k3; exact DataW.trod_lt m _ _ _ hm
  have k4 := h4
  have lt4 : ∀ x ∈ p4, x.block < W.heap.size := by obtain ⟨m, hm⟩ := k4; exact DataW.trod_lt m _ _ _ hm
  obtain ⟨r0, r1, r2, r3, r4, r5, r6, r7, r8, r9, r10, r11, r12, rfl, _, _, _, _, _, _, _, _, z9, _⟩ := open_hand (hval 0 _ v0 rfl rfl) h0
  obtain ⟨s0, s1, s2, s3, s4, s5, s6, s7, s8, s9, s10, s11, s12, rfl, _, _, _, _, _, _, _, _, y9, _⟩ := open_hand (hval 1 _ v1 rfl rfl) h1
  obtain ⟨near, rfl, rfl, rfl⟩ := open_bool Try.underlying4 (hval 2 4 v2 rfl rfl) h2
  obtain ⟨a, rfl, rfl, rfl, w1⟩ := open_int Try.underlying3 (hval 3 3 v3 rfl rfl) h3
  obtain ⟨b, rfl, rfl, rfl, w2⟩ := open_int Try.underlying3 (hval 4 3 v4 rfl rfl) h4
  clear hA0 hval0
  refine (lorder_walk r0 r1 r2 r3 r4 r5 r6 r7 r8 r9 r10 r11 r12 s0 s1 s2 s3 s4 s5 s6 s7 s8 s9 s10 s11 s12 near a b W z9.1 z9.2 y9.1 y9.2).mono fun e W' ⟨he, bel⟩ => ?_
  subst he
  exact ⟨_, rfl, _, _, _, [], _, [], hW', trodAll_mk1 (shut_bool Try.underlying4 _), (trodAll_cons_mk (Below.trod laid_out (by kernel_rfl) (of_decide_eq_true (by kernel_rfl)) k0 bel lt0) (trodAll_cons_mk (Below.trod laid_out (by kernel_rfl) (of_decide_eq_true (by kernel_rfl)) k1 bel lt1) (trodAll_cons_mk (Below.trod laid_out (by kernel_rfl) (of_decide_eq_true (by kernel_rfl)) k2 bel lt2) (trodAll_cons_mk (Below.trod laid_out (by kernel_rfl) (of_decide_eq_true (by kernel_rfl)) k3 bel lt3) (trodAll_cons_mk (Below.trod laid_out (by kernel_rfl) (of_decide_eq_true (by kernel_rfl)) k4 bel lt4) trodAll_mk0))))), rfl, bel.frame _, fun h => by cases h⟩

theorem lorder_over : Rows.factOrderRow.holds Try.pinned (OpenSpec.ofChange Rows.factOrderSpec) :=
  OpenClaim.holds_of_wide 6 Try.f6 rfl rfl rfl rfl rfl rfl rfl ⟨rfl, rfl, rfl, rfl, rfl⟩ rfl rfl rfl rfl rfl (by kernel_rfl) Try.func6 (by kernel_rfl)
    (of_decide_eq_true (by kernel_rfl)) (by unfold Func.isWrapper; first | (rw [if_pos (by decide +kernel)]; kernel_rfl) | (rw [if_neg (by decide +kernel)]; exact ⟨rfl, rfl⟩))
    (fun os started H enc _ => lorder_lifted os started H enc)

/-- The statement. -/
theorem lorder_holds : Rows.FactOrderSaid := lorder_over
#print axioms lorder_holds
end Go.Proofs.Ytplmpipenljonaa
