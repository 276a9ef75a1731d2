/-
  Lines made of numbers: the contract of Lines. Conditions: none.
-/
import Derived.Test.YtnlcgiemhegmcaaFrn
import Derived.Test.YtnlcgiemhegmcaaRel
namespace Go.Proofs.Ytnlcgiemhegmcaa
open Go.RowKit
set_option linter.unusedVariables false

def LinPost (w : World) (e : Ending) (w' : World) : Prop :=
  ∃ v L, e = .returned v ∧ w'.ownsRow w.heap.size 36 5 v L.length (rowL L) ∧ L.length ≤ 20 ∧ LnsR L ∧ Below w.heap.size w w'
theorem alloc_line (w : World) : (Instr.alloc 36 true (.tuple #[])).run Try.prog w = .ok (ptrTo w.heap.size) (w.alloc (.cells #[.int .i64 0, .int .i64 0, .int .i64 0, .int .i64 0, .int .i64 0] 36)) := by
  go_simp
  rfl
theorem al_line (i d : Nat) : ∀ x ∈ [(⟨i, d, 36, #[.int .i64 0, .int .i64 0, .int .i64 0, .int .i64 0, .int .i64 0]⟩ : Al)], ∀ w, (Instr.alloc x.t true (.tuple #[])).run Try.prog w = .ok (ptrTo w.heap.size) (w.alloc (.cells x.z x.t)) := by
  intro x hx w
  simp only [List.mem_cons, List.not_mem_nil, or_false] at hx
  subst hx
  exact alloc_line w
/-- What is known in a round of Lines. -/
structure LiR (w : World) (v : Value) (L : List Ln) (g : Nat) (x : Ln) (W : World) : Prop where
  bel : Below w.heap.size w W
  own : W.ownsRow w.heap.size 36 5 v L.length (rowL L)
  line : BlkIs W g 36 #[.int .i64 x.s, .int .i64 x.b, .int .i64 x.it, .int .i64 x.n, .int .i64 x.d]
  far : some g ≠ v.ownBlock
  lo : w.heap.size ≤ g
theorem LiR.below {w : World} {v : Value} {L : List Ln} {g : Nat} {x : Ln} {W W' : World} (h : LiR w v L g x W) (hb : Below W.heap.size W W') : LiR w v L g x W' :=
  ⟨bnext h.bel hb, own_below h.own hb (fun k hk => own_lt h.own hk.symm), h.line.below hb h.line.lt, h.far, h.lo⟩

theorem own_setCell {w : World} {base n size : Nat} {e : TypeId} {v : Value} {xs : List Value} (h : w.ownsRow base e size v n xs) {p : Addr} (hp : some p.block ≠ v.ownBlock) (u : Value) : (w.setCell p u).ownsRow base e size v n xs := by
  obtain ⟨h1, h2⟩ := h
  refine ⟨h1, ?_⟩
  rcases h2 with h2 | ⟨g, cap, cur, rfl, h3, hh, rest⟩
  · exact .inl h2
  · exact .inr ⟨g, cap, cur, rfl, h3, (Below.heap_setCell w p u g (fun e => hp (by rw [← e]; rfl))).trans hh, rest⟩
theorem cell_far5 {W : World} {b g : Nat} (h : b ≠ g) (q : Nat) (x0 x1 x2 x3 x4 : Value) : (((((W.setCell ⟨g, 0, none⟩ x0).setCell ⟨g, 1, none⟩ x1).setCell ⟨g, 2, none⟩ x2).setCell ⟨g, 3, none⟩ x3).setCell ⟨g, 4, none⟩ x4).cell? ⟨b, q, none⟩ = W.cell? ⟨b, q, none⟩ :=
  World.cell?_of_block (a := ⟨b, q, none⟩) ((Below.heap_setCell _ _ _ b h).trans ((Below.heap_setCell _ _ _ b h).trans ((Below.heap_setCell _ _ _ b h).trans ((Below.heap_setCell _ _ _ b h).trans (Below.heap_setCell _ _ _ b h)))))
theorem row1 (s b it n d : Int) (j : Nat) : (#[.int .i64 s, .int .i64 b, .int .i64 it, .int .i64 n, .int .i64 d] : Array Value)[j]? = (rowL [⟨s, b, it, n, d⟩])[j]? := by simp [rowL, lcells]
theorem LnsR_snoc {L : List Ln} (h : LnsR L) {x : Ln} (h1 : -9223372036854775808 ≤ x.s ∧ x.s ≤ 9223372036854775807) (h2 : -9223372036854775808 ≤ x.b ∧ x.b ≤ 9223372036854775807) (h3 : -9223372036854775808 ≤ x.it ∧ x.it ≤ 9223372036854775807) : LnsR (L ++ [x]) := by
  intro i hi
  by_cases hl : i < L.length
  · have e : ln (L ++ [x]) i = ln L i := by unfold ln; simp [List.getD, hl, List.getElem?_append_left hl]
    rw [e]
    exact h i hl
  · obtain rfl : i = L.length := by rw [List.length_append] at hi; simp at hi; omega
    have e : ln (L ++ [x]) L.length = x := by unfold ln; simp [List.getD]
    rw [e]
    exact ⟨h1, h2, h3⟩
set_option maxRecDepth 100000 in
set_option maxHeartbeats 4000000 in
theorem lines_any (R : List Ln) (v0 : Value) (w : World) (hL : Lns w.heap.size w v0 R) (hn : R.length ≤ 9223372036854775807) :
    Calls Try.prog 8 #[v0] w (LinPost w) := by
  obtain ⟨a, c, rfl, hc, hcell⟩ := hL
  have HC := Lib.hid hcell
  clear hcell
  go_enter Try.func8, Try.ntmps8
  go_wp2
  go_loopw [3, 4] (fun v t wr => ∃ (i : Nat) (L : List Ln), i ≤ R.length ∧ i ≤ 20 ∧ t = .int .i64 (i : Int) ∧ L.length ≤ i ∧ LnsR L ∧ wr.ownsRow w.heap.size 36 5 v L.length (rowL L) ∧ Below w.heap.size w wr) (fun _ t _ => 20 - (intOf t).toNat)
  case atStart => exact ⟨0, [], Nat.zero_le _, Nat.zero_le _, rfl, Nat.le_refl _, (fun i hi => by simp at hi), World.ownsRow_nil _ _ _ _, Below.refl _ _⟩
  case round =>
    obtain ⟨i, L, hi, hi2, rfl, hLi, hLR, hown, hbel⟩ := hrel
    have HLR := Lib.hid hLR
    clear hLR
    by_cases hlt : i < R.length ∧ i < 20
    · obtain ⟨hlt, hlt2⟩ := hlt
      obtain ⟨bk, o, rfl, hbk, hcl⟩ := HC.out (by omega)
      obtain ⟨q0, q1, q2, q3, q4⟩ := hcl i hlt
      have e : ∀ q, wr.cell? ⟨bk, q, none⟩ = w.cell? ⟨bk, q, none⟩ := fun q => hbel.cell (p := ⟨bk, q, none⟩) hbk
      rw [← e] at q0 q1 q2 q3 q4
      clear e hcl
      have hbk2 : bk < wr.heap.size := Nat.lt_of_lt_of_le hbk hbel.size
      generalize (ln R i).s = rs at *
      generalize (ln R i).b = rb at *
      generalize (ln R i).it = ri at *
      generalize (ln R i).n = rn at *
      generalize (ln R i).d = rd at *
      go_upto_region 5 with (fail)
      obtain ⟨B, hB⟩ : ∃ B, B = wr.heap.size := ⟨_, rfl⟩
      refine wp_region_rely [⟨28, 5, 36, #[.int .i64 0, .int .i64 0, .int .i64 0, .int .i64 0, .int .i64 0]⟩] [5, 11, 18, 25, 29] [0, 1, 2, 3, 4, 6, 7, 8, 9, 10, 13, 14, 15, 16, 17, 20, 21, 22, 23, 24, 5, 11, 12, 18, 19, 25, 26, 27] [29] #[true, true, true, true, true, true, true, true, true, true, true, true, true, true, true, true, true, true, true, true, true, true, true, true, true, true, true, true, true, false] (by kernel_rfl) (by kernel_rfl) rfl (by decide) (by decide) (by kernel_rfl) (by kernel_rfl) (by kernel_rfl) (by kernel_rfl) (by decide) (by kernel_rfl) (al_line 28 5) (fun _ _ _ _ _ h => h) (fun _ _ _ _ _ h => h) ?_
      simp only [marked, List.getElem?_cons_zero, List.getElem?_cons_succ, List.contains_cons, List.contains_nil, Nat.reduceBEq, Bool.or_false, Bool.or_true, BEq.rfl]
      rw [← hB]
      have hBw : w.heap.size ≤ B := by rw [hB]; exact hbel.size
      have hown' : wr.drew.ownsRow w.heap.size 36 5 u3 L.length (rowL L) := hown
      have hlt3 : ∀ g, some g = u3.ownBlock → g < B := fun g hg => by rw [hB]; exact own_lt hown hg
      replace q0 : wr.drew.cell? ⟨bk, o + i * 5, none⟩ = some (.int .i64 rs) := q0
      replace q1 : wr.drew.cell? ⟨bk, o + i * 5 + 1, none⟩ = some (.int .i64 rb) := q1
      replace q2 : wr.drew.cell? ⟨bk, o + i * 5 + 2, none⟩ = some (.int .i64 ri) := q2
      replace q3 : wr.drew.cell? ⟨bk, o + i * 5 + 3, none⟩ = some (.int .i64 rn) := q3
      replace q4 : wr.drew.cell? ⟨bk, o + i * 5 + 4, none⟩ = some (.int .i64 rd) := q4
      have hbk3 : bk < wr.drew.heap.size := hbk2
      replace hbel := hbel.drew
      clear hown hB
      generalize wr.drew = W1 at *
      repeat (refine rl_quiet ?_; go_big_quiet_step (fail); refine wpQuiet_nil ?_)
      refine rl_loud rfl ?_
      intro W2 hW2 K hK
      replace hbel := bnext hbel hW2
      replace hown' := own_below hown' hW2 (fun k hk => own_lt hown' hk.symm)
      replace q0 := (hW2.cell (p := ⟨bk, o + i * 5, none⟩) hbk3).trans q0
      replace q1 := (hW2.cell (p := ⟨bk, o + i * 5 + 1, none⟩) hbk3).trans q1
      replace q2 := (hW2.cell (p := ⟨bk, o + i * 5 + 2, none⟩) hbk3).trans q2
      replace q3 := (hW2.cell (p := ⟨bk, o + i * 5 + 3, none⟩) hbk3).trans q3
      replace q4 := (hW2.cell (p := ⟨bk, o + i * 5 + 4, none⟩) hbk3).trans q4
      replace hbk3 := Nat.lt_of_lt_of_le hbk3 hW2.size
      clear hW2
      go_simp
      go_at_call 13
      refine (mod2_any rs 2 _ (by omega) (by omega)).mono ?_
      rintro e w' ⟨rfl, rfl⟩
      obtain ⟨rs1, rs2⟩ := emod_bd rs 2 (by omega)
      generalize rs % 2 = yrs at *
      refine hK _ _ (Below.refl _ _) ?_
      clear hK K
      repeat (refine rl_quiet ?_; go_big_quiet_step (fail); refine wpQuiet_nil ?_)
      refine rl_loud rfl ?_
      intro W3 hW3 K hK
      replace hbel := bnext hbel hW3
      replace hown' := own_below hown' hW3 (fun k hk => own_lt hown' hk.symm)
      replace q0 := (hW3.cell (p := ⟨bk, o + i * 5, none⟩) hbk3).trans q0
      replace q1 := (hW3.cell (p := ⟨bk, o + i * 5 + 1, none⟩) hbk3).trans q1
      replace q2 := (hW3.cell (p := ⟨bk, o + i * 5 + 2, none⟩) hbk3).trans q2
      replace q3 := (hW3.cell (p := ⟨bk, o + i * 5 + 3, none⟩) hbk3).trans q3
      replace q4 := (hW3.cell (p := ⟨bk, o + i * 5 + 4, none⟩) hbk3).trans q4
      replace hbk3 := Nat.lt_of_lt_of_le hbk3 hW3.size
      clear hW3
      go_simp
      go_at_call 13
      refine (mod2_any rb 2 _ (by omega) (by omega)).mono ?_
      rintro e w' ⟨rfl, rfl⟩
      obtain ⟨rb1, rb2⟩ := emod_bd rb 2 (by omega)
      generalize rb % 2 = yrb at *
      refine hK _ _ (Below.refl _ _) ?_
      clear hK K
      repeat (refine rl_quiet ?_; go_big_quiet_step (fail); refine wpQuiet_nil ?_)
      refine rl_loud rfl ?_
      intro W4 hW4 K hK
      replace hbel := bnext hbel hW4
      replace hown' := own_below hown' hW4 (fun k hk => own_lt hown' hk.symm)
      replace q0 := (hW4.cell (p := ⟨bk, o + i * 5, none⟩) hbk3).trans q0
      replace q1 := (hW4.cell (p := ⟨bk, o + i * 5 + 1, none⟩) hbk3).trans q1
      replace q2 := (hW4.cell (p := ⟨bk, o + i * 5 + 2, none⟩) hbk3).trans q2
      replace q3 := (hW4.cell (p := ⟨bk, o + i * 5 + 3, none⟩) hbk3).trans q3
      replace q4 := (hW4.cell (p := ⟨bk, o + i * 5 + 4, none⟩) hbk3).trans q4
      replace hbk3 := Nat.lt_of_lt_of_le hbk3 hW4.size
      clear hW4
      go_simp
      go_at_call 13
      refine (mod2_any ri 10 _ (by omega) (by omega)).mono ?_
      rintro e w' ⟨rfl, rfl⟩
      obtain ⟨ri1, ri2⟩ := emod_bd ri 10 (by omega)
      generalize ri % 10 = yri at *
      refine hK _ _ (Below.refl _ _) ?_
      clear hK K
      repeat (refine rl_quiet ?_; go_big_quiet_step (fail); refine wpQuiet_nil ?_)
      refine rl_loud rfl ?_
      intro W5 hW5 K hK
      replace hbel := bnext hbel hW5
      replace hown' := own_below hown' hW5 (fun k hk => own_lt hown' hk.symm)
      replace q0 := (hW5.cell (p := ⟨bk, o + i * 5, none⟩) hbk3).trans q0
      replace q1 := (hW5.cell (p := ⟨bk, o + i * 5 + 1, none⟩) hbk3).trans q1
      replace q2 := (hW5.cell (p := ⟨bk, o + i * 5 + 2, none⟩) hbk3).trans q2
      replace q3 := (hW5.cell (p := ⟨bk, o + i * 5 + 3, none⟩) hbk3).trans q3
      replace q4 := (hW5.cell (p := ⟨bk, o + i * 5 + 4, none⟩) hbk3).trans q4
      replace hbk3 := Nat.lt_of_lt_of_le hbk3 hW5.size
      clear hW5
      go_simp
      go_at_call 13
      refine (mod2_any rn 200 _ (by omega) (by omega)).mono ?_
      rintro e w' ⟨rfl, rfl⟩
      obtain ⟨rn1, rn2⟩ := emod_bd rn 200 (by omega)
      generalize rn % 200 = yrn at *
      refine hK _ _ (Below.refl _ _) ?_
      clear hK K
      repeat (refine rl_quiet ?_; go_big_quiet_step (fail); refine wpQuiet_nil ?_)
      refine rl_nil ?_
      intro W6 hW6 sx hs1 hs2 hM
      replace hbel := bnext hbel hW6
      replace hown' := own_below hown' hW6 (fun k hk => own_lt hown' hk.symm)
      replace q0 := (hW6.cell (p := ⟨bk, o + i * 5, none⟩) hbk3).trans q0
      replace q3 := (hW6.cell (p := ⟨bk, o + i * 5 + 3, none⟩) hbk3).trans q3
      replace q4 := (hW6.cell (p := ⟨bk, o + i * 5 + 4, none⟩) hbk3).trans q4
      replace hbk3 := Nat.lt_of_lt_of_le hbk3 hW6.size
      clear hW6 q1 q2
      obtain ⟨g, rfl, hg, hf⟩ := made1 hs1 hs2 hM
      clear hs1 hs2 hM
      have hcf := hf.cell
      have hff := hf.frozen
      simp only [sets, ptrTo]
      refine ml_loud rfl ?_
      intro K hK
      go_simp
      refine hK _ _ _ (Nat.le_refl _) (((((Below.refl _ _).setCell hg _).setCell hg _).setCell hg _).setCell hg _ |>.setCell hg _) ?_
      clear hK K hcf hff
      refine ml_nil ?_
      have hgo : some g ≠ u3.ownBlock := fun h => by have := hlt3 g h; omega
      have hwg : w.heap.size ≤ g := by omega
      have hkk : bk ≠ g := by omega
      refine world_gen (fun W => LiR w u3 L g ⟨yrs, 1 + yrb, 1 + yri, yrn, 1⟩ W ∧ W.cell? ⟨bk, o + i * 5 + 3, none⟩ = some (.int .i64 rn) ∧ W.cell? ⟨bk, o + i * 5 + 4, none⟩ = some (.int .i64 rd) ∧ bk < W.heap.size) ⟨⟨?_, ?_, ?_, hgo, hwg⟩, ?_, ?_, ?_⟩ ?_
      · exact (((((hbel.setCell hwg _).setCell hwg _).setCell hwg _).setCell hwg _).setCell hwg _)
      · exact own_setCell (own_setCell (own_setCell (own_setCell (own_setCell hown' hgo _) hgo _) hgo _) hgo _) hgo _
      · exact (((((hf.put 0 _).put 1 _).put 2 _).put 3 _).put 4 _)
      · exact (cell_far5 hkk _ _ _ _ _ _).trans q3
      · exact (cell_far5 hkk _ _ _ _ _ _).trans q4
      · simpa using hbk3
      rintro W7 ⟨hLi7, q3', q4', hbk7⟩
      clear q0 q3 q4 hbk3 hf hbel hown' hlt3 hg hgo hkk
      obtain ⟨c0, c1, c2, c3, c4⟩ := lcell (s := yrs) (b := 1 + yrb) (it := 1 + yri) (n := yrn) (d := 1) hLi7.line
      rcases h3 : ((1 + yri : Int) == 3) with _ | _
      · rcases h5 : ((1 + yri : Int) == 5) with _ | _
        · go_wp2_with fail
          refine (mod2_any rd 9 _ (by omega) (by omega)).mono ?_
          rintro e w' ⟨rfl, rfl⟩
          rcases h8 : (rd % 9 == 8) with _ | _
          · have hown8 := hLi7.own
            have hz8 := hLi7.bel.size
            go_wp2_with (at_builtin; go_loud (refine wpList_appL (by rfl) _ _ (by rfl) w.heap.size u3 L [⟨yrs, 1 + yrb, 1 + yri, yrn, 1⟩] _ (by rfl) (hown8.alloc _) W7.heap.size 0 1 (by rfl) (fun j hj => by rw [Nat.zero_add, (BlkIs.new W7 _ _).cell j]; exact row1 _ _ _ _ _ j) (by simp; omega) (by simp; omega) ?_); intro v9 w9 hown9 hg9 hloc9)
            have hb9 : Below w.heap.size w w9 := (hLi7.bel.alloc hz8 _).trans ⟨hg9.os, hg9.tape, hg9.output, hg9.size, fun k hk => hg9.block k (by simp; omega) (by
              intro hh
              rcases hown8.2 with ⟨hv, _⟩ | ⟨g', cap, cur, hv, hgb, _⟩
              · rw [hv] at hh; cases hh
              · rw [hv] at hh
                simp only [Value.ownBlock, Option.some.injEq] at hh
                omega)⟩
            go_roundw
            case rel => exact ⟨i + 1, L ++ [⟨yrs, 1 + yrb, 1 + yri, yrn, 1⟩], by omega, by omega, by go_num, by simp; omega, LnsR_snoc HLR.out (by dsimp only; omega) (by dsimp only; omega) (by dsimp only; omega), hown9, hb9⟩
            case measure => simp [intOf]; omega
          · go_wp2_with fail
            refine wp_region_ml [10, 12] [0, 1, 2, 3, 4, 5, 6, 7, 8, 9, 10, 11, 12] w.heap.size (by kernel_rfl) (by kernel_rfl) rfl (by decide) (by kernel_rfl) (fun _ _ _ _ _ h => h) ?_
            simp only [marked, List.getElem?_cons_zero, List.getElem?_cons_succ, List.contains_cons, List.contains_nil, Nat.reduceBEq, Bool.or_false, Bool.or_true, BEq.rfl]
            replace hLi7 := hLi7.below (Below.refl _ _).drew
            replace q3' : W7.drew.cell? ⟨bk, o + i * 5 + 3, none⟩ = some (.int .i64 rn) := q3'
            replace q4' : W7.drew.cell? ⟨bk, o + i * 5 + 4, none⟩ = some (.int .i64 rd) := q4'
            clear c0 c1 c2 c3 c4
            generalize W7.drew = W8 at *
            repeat (refine ml_quiet ?_; go_big_quiet_step (fail); refine wpQuiet_nil ?_)
            refine ml_loud rfl ?_
            intro K hK
            go_simp
            go_at_call 18
            refine (cut_any _ _ _).mono ?_
            rintro e W9 ⟨xn, xd, rfl, hn0, hn1, hvf, hb9⟩
            have hz7 := hLi7.bel.size
            refine hK _ _ w.heap.size (Nat.le_refl _) (hb9.mono hz7) ?_
            clear hK K hvf
            replace hLi7 := hLi7.below hb9
            clear hb9 q3' q4'
            repeat (refine ml_quiet ?_; go_big_quiet_step (fail); refine wpQuiet_nil ?_)
            have f3 := hLi7.line.frozen 3
            have f4 := hLi7.line.frozen 4
            obtain ⟨c0, c1, c2, c3, c4⟩ := lcell (s := yrs) (b := 1 + yrb) (it := 1 + yri) (n := yrn) (d := 1) hLi7.line
            refine ml_loud rfl ?_
            intro K hK
            go_simp
            refine hK _ _ w.heap.size (Nat.le_refl _) (((Below.refl _ _).setCell hwg _).setCell hwg _) ?_
            clear hK K
            refine ml_nil ?_
            refine world_gen (LiR w u3 L g ⟨yrs, 1 + yrb, 1 + yri, xn, xd⟩) ⟨(hLi7.bel.setCell hwg _).setCell hwg _, own_setCell (own_setCell hLi7.own hLi7.far _) hLi7.far _, (hLi7.line.put 3 _).put 4 _, hLi7.far, hwg⟩ ?_
            intro W10 hLi10
            clear hLi7 c0 c1 c2 c3 c4 f3 f4
            obtain ⟨c0, c1, c2, c3, c4⟩ := lcell (s := yrs) (b := 1 + yrb) (it := 1 + yri) (n := xn) (d := xd) hLi10.line
            have hown8 := hLi10.own
            have hz8 := hLi10.bel.size
            go_wp2_with (at_builtin; go_loud (refine wpList_appL (by rfl) _ _ (by rfl) w.heap.size u3 L [⟨yrs, 1 + yrb, 1 + yri, xn, xd⟩] _ (by rfl) (hown8.alloc _) W10.heap.size 0 1 (by rfl) (fun j hj => by rw [Nat.zero_add, (BlkIs.new W10 _ _).cell j]; exact row1 _ _ _ _ _ j) (by simp; omega) (by simp; omega) ?_); intro v9 w9 hown9 hg9 hloc9)
            have hb9 : Below w.heap.size w w9 := (hLi10.bel.alloc hz8 _).trans ⟨hg9.os, hg9.tape, hg9.output, hg9.size, fun k hk => hg9.block k (by simp; omega) (by
              intro hh
              rcases hown8.2 with ⟨hv, _⟩ | ⟨g', cap, cur, hv, hgb, _⟩
              · rw [hv] at hh; cases hh
              · rw [hv] at hh
                simp only [Value.ownBlock, Option.some.injEq] at hh
                omega)⟩
            go_roundw
            case rel => exact ⟨i + 1, L ++ [⟨yrs, 1 + yrb, 1 + yri, xn, xd⟩], by omega, by omega, by go_num, by simp; omega, LnsR_snoc HLR.out (by dsimp only; omega) (by dsimp only; omega) (by dsimp only; omega), hown9, hb9⟩
            case measure => simp [intOf]; omega
        · go_wp2_with fail
          refine wp_region_ml [10, 12] [0, 1, 2, 3, 4, 5, 6, 7, 8, 9, 10, 11, 12] w.heap.size (by kernel_rfl) (by kernel_rfl) rfl (by decide) (by kernel_rfl) (fun _ _ _ _ _ h => h) ?_
          simp only [marked, List.getElem?_cons_zero, List.getElem?_cons_succ, List.contains_cons, List.contains_nil, Nat.reduceBEq, Bool.or_false, Bool.or_true, BEq.rfl]
          replace hLi7 := hLi7.below (Below.refl _ _).drew
          replace q3' : W7.drew.cell? ⟨bk, o + i * 5 + 3, none⟩ = some (.int .i64 rn) := q3'
          replace q4' : W7.drew.cell? ⟨bk, o + i * 5 + 4, none⟩ = some (.int .i64 rd) := q4'
          clear c0 c1 c2 c3 c4
          generalize W7.drew = W8 at *
          repeat (refine ml_quiet ?_; go_big_quiet_step (fail); refine wpQuiet_nil ?_)
          refine ml_loud rfl ?_
          intro K hK
          go_simp
          go_at_call 18
          refine (cut_any _ _ _).mono ?_
          rintro e W9 ⟨xn, xd, rfl, hn0, hn1, hvf, hb9⟩
          have hz7 := hLi7.bel.size
          refine hK _ _ w.heap.size (Nat.le_refl _) (hb9.mono hz7) ?_
          clear hK K hvf
          replace hLi7 := hLi7.below hb9
          clear hb9 q3' q4'
          repeat (refine ml_quiet ?_; go_big_quiet_step (fail); refine wpQuiet_nil ?_)
          have f3 := hLi7.line.frozen 3
          have f4 := hLi7.line.frozen 4
          obtain ⟨c0, c1, c2, c3, c4⟩ := lcell (s := yrs) (b := 1 + yrb) (it := 1 + yri) (n := yrn) (d := 1) hLi7.line
          refine ml_loud rfl ?_
          intro K hK
          go_simp
          refine hK _ _ w.heap.size (Nat.le_refl _) (((Below.refl _ _).setCell hwg _).setCell hwg _) ?_
          clear hK K
          refine ml_nil ?_
          refine world_gen (LiR w u3 L g ⟨yrs, 1 + yrb, 1 + yri, xn, xd⟩) ⟨(hLi7.bel.setCell hwg _).setCell hwg _, own_setCell (own_setCell hLi7.own hLi7.far _) hLi7.far _, (hLi7.line.put 3 _).put 4 _, hLi7.far, hwg⟩ ?_
          intro W10 hLi10
          clear hLi7 c0 c1 c2 c3 c4 f3 f4
          obtain ⟨c0, c1, c2, c3, c4⟩ := lcell (s := yrs) (b := 1 + yrb) (it := 1 + yri) (n := xn) (d := xd) hLi10.line
          have hown8 := hLi10.own
          have hz8 := hLi10.bel.size
          go_wp2_with (at_builtin; go_loud (refine wpList_appL (by rfl) _ _ (by rfl) w.heap.size u3 L [⟨yrs, 1 + yrb, 1 + yri, xn, xd⟩] _ (by rfl) (hown8.alloc _) W10.heap.size 0 1 (by rfl) (fun j hj => by rw [Nat.zero_add, (BlkIs.new W10 _ _).cell j]; exact row1 _ _ _ _ _ j) (by simp; omega) (by simp; omega) ?_); intro v9 w9 hown9 hg9 hloc9)
          have hb9 : Below w.heap.size w w9 := (hLi10.bel.alloc hz8 _).trans ⟨hg9.os, hg9.tape, hg9.output, hg9.size, fun k hk => hg9.block k (by simp; omega) (by
            intro hh
            rcases hown8.2 with ⟨hv, _⟩ | ⟨g', cap, cur, hv, hgb, _⟩
            · rw [hv] at hh; cases hh
            · rw [hv] at hh
              simp only [Value.ownBlock, Option.some.injEq] at hh
              omega)⟩
          go_roundw
          case rel => exact ⟨i + 1, L ++ [⟨yrs, 1 + yrb, 1 + yri, xn, xd⟩], by omega, by omega, by go_num, by simp; omega, LnsR_snoc HLR.out (by dsimp only; omega) (by dsimp only; omega) (by dsimp only; omega), hown9, hb9⟩
          case measure => simp [intOf]; omega
      · go_wp2_with fail
        refine wp_region_ml [10, 12] [0, 1, 2, 3, 4, 5, 6, 7, 8, 9, 10, 11, 12] w.heap.size (by kernel_rfl) (by kernel_rfl) rfl (by decide) (by kernel_rfl) (fun _ _ _ _ _ h => h) ?_
        simp only [marked, List.getElem?_cons_zero, List.getElem?_cons_succ, List.contains_cons, List.contains_nil, Nat.reduceBEq, Bool.or_false, Bool.or_true, BEq.rfl]
        replace hLi7 := hLi7.below (Below.refl _ _).drew
        replace q3' : W7.drew.cell? ⟨bk, o + i * 5 + 3, none⟩ = some (.int .i64 rn) := q3'
        replace q4' : W7.drew.cell? ⟨bk, o + i * 5 + 4, none⟩ = some (.int .i64 rd) := q4'
        clear c0 c1 c2 c3 c4
        generalize W7.drew = W8 at *
        repeat (refine ml_quiet ?_; go_big_quiet_step (fail); refine wpQuiet_nil ?_)
        refine ml_loud rfl ?_
        intro K hK
        go_simp
        go_at_call 18
        refine (cut_any _ _ _).mono ?_
        rintro e W9 ⟨xn, xd, rfl, hn0, hn1, hvf, hb9⟩
        have hz7 := hLi7.bel.size
        refine hK _ _ w.heap.size (Nat.le_refl _) (hb9.mono hz7) ?_
        clear hK K hvf
        replace hLi7 := hLi7.below hb9
        clear hb9 q3' q4'
        repeat (refine ml_quiet ?_; go_big_quiet_step (fail); refine wpQuiet_nil ?_)
        have f3 := hLi7.line.frozen 3
        have f4 := hLi7.line.frozen 4
        obtain ⟨c0, c1, c2, c3, c4⟩ := lcell (s := yrs) (b := 1 + yrb) (it := 1 + yri) (n := yrn) (d := 1) hLi7.line
        refine ml_loud rfl ?_
        intro K hK
        go_simp
        refine hK _ _ w.heap.size (Nat.le_refl _) (((Below.refl _ _).setCell hwg _).setCell hwg _) ?_
        clear hK K
        refine ml_nil ?_
        refine world_gen (LiR w u3 L g ⟨yrs, 1 + yrb, 1 + yri, xn, xd⟩) ⟨(hLi7.bel.setCell hwg _).setCell hwg _, own_setCell (own_setCell hLi7.own hLi7.far _) hLi7.far _, (hLi7.line.put 3 _).put 4 _, hLi7.far, hwg⟩ ?_
        intro W10 hLi10
        clear hLi7 c0 c1 c2 c3 c4 f3 f4
        obtain ⟨c0, c1, c2, c3, c4⟩ := lcell (s := yrs) (b := 1 + yrb) (it := 1 + yri) (n := xn) (d := xd) hLi10.line
        have hown8 := hLi10.own
        have hz8 := hLi10.bel.size
        go_wp2_with (at_builtin; go_loud (refine wpList_appL (by rfl) _ _ (by rfl) w.heap.size u3 L [⟨yrs, 1 + yrb, 1 + yri, xn, xd⟩] _ (by rfl) (hown8.alloc _) W10.heap.size 0 1 (by rfl) (fun j hj => by rw [Nat.zero_add, (BlkIs.new W10 _ _).cell j]; exact row1 _ _ _ _ _ j) (by simp; omega) (by simp; omega) ?_); intro v9 w9 hown9 hg9 hloc9)
        have hb9 : Below w.heap.size w w9 := (hLi10.bel.alloc hz8 _).trans ⟨hg9.os, hg9.tape, hg9.output, hg9.size, fun k hk => hg9.block k (by simp; omega) (by
          intro hh
          rcases hown8.2 with ⟨hv, _⟩ | ⟨g', cap, cur, hv, hgb, _⟩
          · rw [hv] at hh; cases hh
          · rw [hv] at hh
            simp only [Value.ownBlock, Option.some.injEq] at hh
            omega)⟩
        go_roundw
        case rel => exact ⟨i + 1, L ++ [⟨yrs, 1 + yrb, 1 + yri, xn, xd⟩], by omega, by omega, by go_num, by simp; omega, LnsR_snoc HLR.out (by dsimp only; omega) (by dsimp only; omega) (by dsimp only; omega), hown9, hb9⟩
        case measure => simp [intOf]; omega
    · have hc2 : Hid (R.length ≤ i ∨ 20 ≤ i) := by show _ ∨ _; omega
      have hd : (decide (i < R.length) && decide ((i : Int) < 20)) = false := by
        cases h1 : decide (i < R.length) <;> simp at h1 ⊢
        omega
      rcases hd1 : decide (i < R.length) with _ | _
      · go_wp2
        all_goals
          first
          | (go_ret; exact ⟨_, L, rfl, hown, by omega, HLR.out, hbel⟩)
          | (exfalso; omega)
      · have h20 : decide ((i : Int) < 20) = false := by rw [hd1] at hd; simpa using hd
        go_wp2
        all_goals
          first
          | (go_ret; exact ⟨_, L, rfl, hown, by omega, HLR.out, hbel⟩)
          | (exfalso; omega)
end Go.Proofs.Ytnlcgiemhegmcaa
