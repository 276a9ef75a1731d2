/-
  An entry is sound, as the reference says it: the contract of the reference's sound. Conditions: at most a million lines.
-/
import Derived.Test.YtnlcgiemhegmcaaAc2
namespace Go.Proofs.Ytnlcgiemhegmcaa
open Go.RowKit
set_option linter.unusedVariables false

def RsPost (L : List Ln) (s b : Int) (w : World) (e : Ending) (w' : World) : Prop := e = .returned (.bool (soundB (grp L s b))) ∧ Below w.heap.size w w'
/-- The variables that hold the values so far. -/
structure VarR (w : World) (ps : List (Nat × Int)) (W : World) : Prop where
  bel : Below w.heap.size w W
  var : ∀ q ∈ ps, ∃ y, BlkIs W q.1 34 #[.int .i64 q.2, y]
theorem VarR.below {w : World} {ps : List (Nat × Int)} {W W' : World} (h : VarR w ps W) (hb : Below W.heap.size W W') : VarR w ps W' :=
  ⟨bnext h.bel hb, fun q hq => by obtain ⟨y, hy⟩ := h.var q hq; exact ⟨y, hy.below hb hy.lt⟩⟩
theorem VarR.push {w : World} {ps : List (Nat × Int)} {W : World} (h : VarR w ps W) (x : Int) (y : Value) : VarR w ((W.heap.size, x) :: ps) (W.alloc (.cells #[.int .i64 x, y] 34)) := by
  have h' := h.below ((Below.refl _ _).alloc (Nat.le_refl _) (.cells #[.int .i64 x, y] 34))
  refine ⟨h'.bel, fun q hq => ?_⟩
  rcases List.mem_cons.1 hq with rfl | hq
  · exact ⟨y, BlkIs.new W _ _⟩
  · exact h'.var q hq
theorem VarR.cell {w : World} {ps : List (Nat × Int)} {W : World} (h : VarR w ps W) {p : Nat} {x : Int} (hq : (p, x) ∈ ps) : W.cell? ⟨p, 0, none⟩ = some (.int .i64 x) := by
  obtain ⟨y, hy⟩ := h.var _ hq
  exact hy.cell 0

set_option maxRecDepth 100000 in
set_option maxHeartbeats 4000000 in
theorem rsound_any (L : List Ln) (v0 : Value) (s b : Int) (w : World) (hL : Lns w.heap.size w v0 L) (hn : L.length ≤ 1000000) :
    Calls Try.prog 21 #[v0, .int .i64 s, .int .i64 b] w (RsPost L s b w) := by
  have HL := Lib.hid hL
  obtain ⟨a, c, rfl, hc, hcell⟩ := hL
  have HC := Lib.hid hcell
  clear hcell
  go_enter Try.func21, Try.ntmps21
  go_wp2
  go_loopw [7] (fun t wr => ∃ (i : Nat), i ≤ L.length ∧ t = .int .i64 (i : Int) ∧ Hid (((L.take i).all fun l => !inG s b l || okL L s b l) = true) ∧ Below w.heap.size w wr) (fun t _ => L.length - (intOf t).toNat)
  case atStart => exact ⟨0, Nat.zero_le _, rfl, rfl, Below.refl _ _⟩
  case round =>
    obtain ⟨i, hi, rfl, hok, hbel⟩ := hrel
    by_cases hlt : i < L.length
    · obtain ⟨bk, o, rfl, hbk, hcl⟩ := HC.out (by omega)
      obtain ⟨q0, q1, q2, q3, q4⟩ := hcl i hlt
      have e : ∀ q, wr.cell? ⟨bk, q, none⟩ = w.cell? ⟨bk, q, none⟩ := fun q => hbel.cell (p := ⟨bk, q, none⟩) hbk
      rw [← e] at q0 q1 q2 q3 q4
      clear e
      obtain ⟨y, hy⟩ : ∃ y, y = ln L i := ⟨_, rfl⟩
      have HT : Hid (((L.take (i + 1)).all fun l => !inG s b l || okL L s b l) = (!inG s b y || okL L s b y)) := by
        show _ = _
        rw [take_ln hlt, ← hy, List.all_append, hok.out]
        simp
      have HM : Hid (y ∈ L) := by show _ ∈ _; rw [hy]; unfold ln; simp [List.getD, hlt]
      rw [← hy] at q0 q1 q2 q3 q4
      have HCL : Hid (∀ i < L.length, w.cell? ⟨bk, o + i * 5, none⟩ = some (.int .i64 (ln L i).s) ∧ w.cell? ⟨bk, o + i * 5 + 1, none⟩ = some (.int .i64 (ln L i).b) ∧ w.cell? ⟨bk, o + i * 5 + 2, none⟩ = some (.int .i64 (ln L i).it) ∧ w.cell? ⟨bk, o + i * 5 + 3, none⟩ = some (.int .i64 (ln L i).n) ∧ w.cell? ⟨bk, o + i * 5 + 4, none⟩ = some (.int .i64 (ln L i).d)) := hcl
      clear hcl
      have HY := Lib.hid hy
      clear hy
      rcases h1 : (y.s == s) with _ | _
      · have HI : Hid (inG s b y = false) := by unfold inG; rw [h1]; rfl
        have h1' : (y.s != s) = true := by simp [bne, h1]
        go_wp2
        go_roundw
        case rel => exact ⟨i + 1, by omega, by go_num, by rw [HT.out, HI.out]; rfl, hbel⟩
        case measure => simp [intOf]; omega
      have h1' : (y.s != s) = false := by simp [bne, h1]
      rcases h2 : (y.b == b) with _ | _
      · have HI : Hid (inG s b y = false) := by unfold inG; rw [h1, h2]; rfl
        have h2' : (y.b != b) = true := by simp [bne, h2]
        go_wp2
        go_roundw
        case rel => exact ⟨i + 1, by omega, by go_num, by rw [HT.out, HI.out]; rfl, hbel⟩
        case measure => simp [intOf]; omega
      have h2' : (y.b != b) = false := by simp [bne, h2]
      have HI : Hid (inG s b y = true) := by unfold inG; rw [h1, h2]; rfl
      go_wp2_with fail
      refine (item_any L _ s b y.it _ ((HL.out.below hbel).mono hbel.size) hn).mono ?_
      rintro e w1 ⟨rfl, hb1⟩
      replace hbel := bnext hbel hb1
      rcases hd : decide (1 < (mt L s b y.it).length) with _ | _
      · clear q0 q1 q2 q3 q4
        obtain ⟨q0, q1, q2, q3, q4⟩ := HCL.out i hlt
        have e : ∀ q, w1.cell? ⟨bk, q, none⟩ = w.cell? ⟨bk, q, none⟩ := fun q => hbel.cell (p := ⟨bk, q, none⟩) hbk
        rw [← e, ← HY.out] at q0 q1 q2 q3 q4
        clear e
        have hz1 := hbel.size
        have hbk1 : bk < w1.heap.size := by omega
        rcases hfi : fitB y.it y.n y.d with _ | _
        · have HW : Hid (wrongB (grp L s b) = true) := by
            show _ = _
            rw [wrong_ok]
            simp only [Bool.not_eq_true', List.all_eq_false]
            exact ⟨y, HM.out, by rw [HI.out]; simp [okL, hfi]⟩
          go_wp2_with (go_at_call 28; refine (value_any _ _ _ _ _ _).mono ?_; rintro e w2 ⟨rfl, hb2⟩)
          go_ret
          exact ⟨ret_bool (by simp [soundB, HW.out]), (hbel.alloc hz1 _).trans (hb2.mono (by simp; omega))⟩
        · have HO : Hid (okL L s b y = true) := by show _ = _; simp only [okL, hd, hfi]; rfl
          go_wp2_with (go_at_call 28; refine (value_any _ _ _ _ _ _).mono ?_; rintro e w2 ⟨rfl, hb2⟩)
          go_roundw
          case rel => exact ⟨i + 1, by omega, by go_num, by rw [HT.out, HO.out]; simp [Hid], (hbel.alloc hz1 _).trans (hb2.mono (by simp; omega))⟩
          case measure => simp [intOf]; omega
      · have HW : Hid (wrongB (grp L s b) = true) := by
          show _ = _
          rw [wrong_ok]
          simp only [Bool.not_eq_true', List.all_eq_false]
          exact ⟨y, HM.out, by rw [HI.out]; simp [okL, hd]⟩
        go_wp2
        go_ret
        exact ⟨ret_bool (by simp [soundB, HW.out]), hbel.alloc (by have := hbel.size; omega) _⟩
    · obtain rfl : i = L.length := by omega
      have HW : Hid (wrongB (grp L s b) = false) := by
        show _ = _
        have := hok.out
        rw [List.take_length] at this
        rw [wrong_ok, this]
        rfl
      have hV : VarR w [] wr := ⟨hbel, fun q hq => by cases hq⟩
      clear hok hlt hi HC
      go_wp2_with fail
      refine (item_any L _ s b 1 _ ((HL.out.below hV.bel).mono hV.bel.size) hn).mono ?_
      rintro e w1 ⟨rfl, hb1⟩
      replace hV := hV.below hb1
      clear hb1
      have hf : fB L s b 1 = decide (0 < (mt L s b 1).length) := rfl
      have hv : nV L s b 1 = (hdV (mt L s b 1)).1 := rfl
      rw [← hf, ← hv]
      clear hf hv
      go_upto_region 9 with (fail)
      refine world_gen (VarR w ((w1.heap.size, nV L s b 1) :: [])) (hV.push _ _) ?_
      clear hV
      generalize w1.heap.size = p1
      clear w1
      intro W hV
      go_wp2_with fail
      refine (item_any L _ s b 2 _ ((HL.out.below hV.bel).mono hV.bel.size) hn).mono ?_
      rintro e w1 ⟨rfl, hb1⟩
      replace hV := hV.below hb1
      clear hb1
      have hf : fB L s b 2 = decide (0 < (mt L s b 2).length) := rfl
      have hv : nV L s b 2 = (hdV (mt L s b 2)).1 := rfl
      rw [← hf, ← hv]
      clear hf hv
      go_upto_region 10 with (fail)
      refine world_gen (VarR w ((w1.heap.size, nV L s b 2) :: _)) (hV.push _ _) ?_
      clear hV
      generalize w1.heap.size = p2
      clear w1
      intro W hV
      go_wp2_with fail
      refine (item_any L _ s b 4 _ ((HL.out.below hV.bel).mono hV.bel.size) hn).mono ?_
      rintro e w1 ⟨rfl, hb1⟩
      replace hV := hV.below hb1
      clear hb1
      have hf : fB L s b 4 = decide (0 < (mt L s b 4).length) := rfl
      have hv : nV L s b 4 = (hdV (mt L s b 4)).1 := rfl
      rw [← hf, ← hv]
      clear hf hv
      go_upto_region 11 with (fail)
      refine world_gen (VarR w ((w1.heap.size, nV L s b 4) :: _)) (hV.push _ _) ?_
      clear hV
      generalize w1.heap.size = p4
      clear w1
      intro W hV
      go_wp2_with fail
      refine (item_any L _ s b 6 _ ((HL.out.below hV.bel).mono hV.bel.size) hn).mono ?_
      rintro e w1 ⟨rfl, hb1⟩
      replace hV := hV.below hb1
      clear hb1
      have hf : fB L s b 6 = decide (0 < (mt L s b 6).length) := rfl
      have hv : nV L s b 6 = (hdV (mt L s b 6)).1 := rfl
      rw [← hf, ← hv]
      clear hf hv
      go_upto_region 12 with (fail)
      refine world_gen (VarR w ((w1.heap.size, nV L s b 6) :: _)) (hV.push _ _) ?_
      clear hV
      generalize w1.heap.size = p6
      clear w1
      intro W hV
      go_wp2_with fail
      refine (item_any L _ s b 7 _ ((HL.out.below hV.bel).mono hV.bel.size) hn).mono ?_
      rintro e w1 ⟨rfl, hb1⟩
      replace hV := hV.below hb1
      clear hb1
      have hf : fB L s b 7 = decide (0 < (mt L s b 7).length) := rfl
      have hv : nV L s b 7 = (hdV (mt L s b 7)).1 := rfl
      rw [← hf, ← hv]
      clear hf hv
      go_upto_region 13 with (fail)
      refine world_gen (VarR w ((w1.heap.size, nV L s b 7) :: _)) (hV.push _ _) ?_
      clear hV
      generalize w1.heap.size = p7
      clear w1
      intro W hV
      go_wp2_with fail
      refine (item_any L _ s b 8 _ ((HL.out.below hV.bel).mono hV.bel.size) hn).mono ?_
      rintro e w1 ⟨rfl, hb1⟩
      replace hV := hV.below hb1
      clear hb1
      have hf : fB L s b 8 = decide (0 < (mt L s b 8).length) := rfl
      have hv : nV L s b 8 = (hdV (mt L s b 8)).1 := rfl
      rw [← hf, ← hv]
      clear hf hv
      go_upto_region 14 with (fail)
      refine world_gen (VarR w ((w1.heap.size, nV L s b 8) :: _)) (hV.push _ _) ?_
      clear hV
      generalize w1.heap.size = p8
      clear w1
      intro W hV
      go_wp2_with fail
      refine (item_any L _ s b 5 _ ((HL.out.below hV.bel).mono hV.bel.size) hn).mono ?_
      rintro e w1 ⟨rfl, hb1⟩
      replace hV := hV.below hb1
      clear hb1
      have hf : fB L s b 5 = decide (0 < (mt L s b 5).length) := rfl
      have hv : nV L s b 5 = (hdV (mt L s b 5)).1 := rfl
      rw [← hf, ← hv]
      clear hf hv
      go_upto_region 15 with (fail)
      refine world_gen (VarR w ((w1.heap.size, nV L s b 5) :: _)) (hV.push _ _) ?_
      clear hV
      generalize w1.heap.size = p5
      clear w1
      intro W hV
      have E : Hid (soundB (grp L s b) = arithF (fB L s b 1) (fB L s b 2) (fB L s b 4) (fB L s b 5) (fB L s b 6) (fB L s b 7) (fB L s b 8) (nV L s b 1) (nV L s b 2) (nV L s b 4) (nV L s b 6) (nV L s b 7) (nV L s b 8)) := by
        show _ = _
        unfold soundB
        rw [HW.out, arith_F]
        rfl
      obtain ⟨b11, b12⟩ := nV_bd HW.out 1
      obtain ⟨b61, b62⟩ := nV_bd HW.out 6
      have v1 := hV.cell (p := p1) (x := nV L s b 1) (by simp)
      have v2 := hV.cell (p := p2) (x := nV L s b 2) (by simp)
      have v4 := hV.cell (p := p4) (x := nV L s b 4) (by simp)
      have v6 := hV.cell (p := p6) (x := nV L s b 6) (by simp)
      have v7 := hV.cell (p := p7) (x := nV L s b 7) (by simp)
      have v8 := hV.cell (p := p8) (x := nV L s b 8) (by simp)
      have hB := hV.bel
      clear hV HW hbel HL
      generalize nV L s b 1 = n1 at *
      generalize nV L s b 2 = n2 at *
      generalize nV L s b 4 = n4 at *
      generalize nV L s b 6 = n6 at *
      generalize nV L s b 7 = n7 at *
      generalize nV L s b 8 = n8 at *
      generalize fB L s b 1 = f1 at *
      generalize fB L s b 2 = f2 at *
      generalize fB L s b 4 = f4 at *
      generalize fB L s b 5 = f5 at *
      generalize fB L s b 6 = f6 at *
      generalize fB L s b 7 = f7 at *
      generalize fB L s b 8 = f8 at *
      have HMX : Hid (max (n1 - n6) n4 = if n1 - n6 < n4 then n4 else n1 - n6) := by
        show _ = _
        split <;> omega
      go_wp2
      all_goals
        go_ret
        refine ⟨ret_bool ?_, hB⟩
        rw [E.out]
        simp only [arithF, HMX.out]
        clear E HMX v1 v2 v4 v6 v7 v8 hB
        clear hn hc
        first | (simp_all; done) | (simp_all; omega)
end Go.Proofs.Ytnlcgiemhegmcaa
