/-
  Statements that are consistent: the contracts of Consistent, the program's and the reference's. Conditions: numbers that are not great; at most a million positions.
-/
import Derived.Test.YtnlcgiemhegmcaaAd2
namespace Go.Proofs.Ytnlcgiemhegmcaa
open Go.RowKit
set_option linter.unusedVariables false

/-- A position: state, currency, due, paid, sent, received, outstanding. -/
structure Po where
  s : Int
  c : Int
  d : Int
  p : Int
  t : Int
  r : Int
  o : Int
deriving Inhabited
def po (L : List Po) (i : Nat) : Po := L.getD i default
def pcells (x : Po) : Array Value := #[.int .i64 x.s, .int .i64 x.c, .int .i64 x.d, .int .i64 x.p, .int .i64 x.t, .int .i64 x.r, .int .i64 x.o]
def Poss (B : Nat) (w : World) (v : Value) (L : List Po) : Prop :=
  ∃ (a : Option Addr) (c : Nat), v = .slice a L.length c ∧ L.length ≤ c ∧ (0 < L.length → ∃ b o, a = some ⟨b, o, none⟩ ∧ b < B ∧ ∀ i, i < L.length → ∀ j, j < 7 → w.cell? ⟨b, o + i * 7 + j, none⟩ = (pcells (po L i))[j]?)
theorem Poss.below {B : Nat} {w w' : World} {v : Value} {L : List Po} (h : Poss B w v L) (hb : Below B w w') : Poss B w' v L := by
  obtain ⟨a, c, hv, hc, h⟩ := h
  refine ⟨a, c, hv, hc, fun hl => ?_⟩
  obtain ⟨b, o, ha, hB, hcell⟩ := h hl
  exact ⟨b, o, ha, hB, fun i hi j hj => (hb.cell (p := ⟨b, o + i * 7 + j, none⟩) hB).trans (hcell i hi j hj)⟩
theorem Poss.mono {B B' : Nat} {w : World} {v : Value} {L : List Po} (h : Poss B w v L) (hB : B ≤ B') : Poss B' w v L := by
  obtain ⟨a, c, hv, hc, h⟩ := h
  refine ⟨a, c, hv, hc, fun hl => ?_⟩
  obtain ⟨b, o, ha, hb, hcell⟩ := h hl
  exact ⟨b, o, ha, by omega, hcell⟩
def PoBd (L : List Po) : Prop := ∀ i, i < L.length → (-4000000000000000 ≤ (po L i).d ∧ (po L i).d ≤ 4000000000000000) ∧ (-4000000000000000 ≤ (po L i).p ∧ (po L i).p ≤ 4000000000000000) ∧ (-4000000000000000 ≤ (po L i).t ∧ (po L i).t ≤ 4000000000000000) ∧ (-4000000000000000 ≤ (po L i).r ∧ (po L i).r ≤ 4000000000000000)
def balB (x : Po) : Bool := x.o == x.d - (x.p + x.t - x.r)
def consAt (L : List Po) (i : Nat) : Bool := (i == 0 || decide ((po L (i - 1)).s < (po L i).s)) && balB (po L i)
def consTo (L : List Po) (i : Nat) : Bool := (List.range i).all (consAt L)
def consB (L : List Po) : Bool := consTo L L.length
theorem consTo_succ (L : List Po) (i : Nat) : consTo L (i + 1) = (consTo L i && consAt L i) := by simp [consTo, List.range_succ]
theorem consTo_all {L : List Po} {i : Nat} (hi : i < L.length) (h : consAt L i = false) : consB L = false := by
  unfold consB consTo
  rw [List.all_eq_false]
  exact ⟨i, by simpa using hi, by simp [h]⟩

set_option maxRecDepth 100000 in
set_option maxHeartbeats 4000000 in
theorem cons_any (L : List Po) (v0 : Value) (w : World) (hL : Poss w.heap.size w v0 L) (hB : PoBd L) (hn : L.length ≤ 1000000) :
    Calls Try.prog 15 #[v0] w fun e w' => e = .returned (.bool (consB L)) ∧ Below w.heap.size w w' := by
  obtain ⟨a, c, rfl, hc, hcell⟩ := hL
  have HC := Lib.hid hcell
  have HB := Lib.hid hB
  clear hcell hB
  go_enter Try.func15, Try.ntmps15
  go_wp2
  go_loopw [7] (fun t wr => ∃ (i : Nat), i ≤ L.length ∧ t = .int .i64 (i : Int) ∧ Hid (consTo L i = true) ∧ Below w.heap.size w wr) (fun t _ => L.length - (intOf t).toNat)
  case atStart => exact ⟨0, Nat.zero_le _, rfl, rfl, Below.refl _ _⟩
  case round =>
    obtain ⟨i, hi, rfl, hok, hbel⟩ := hrel
    by_cases hlt : i < L.length
    ·
      obtain ⟨bk, o, rfl, hbk, hcl⟩ := HC.out (by omega)
      have e : ∀ q, wr.cell? ⟨bk, q, none⟩ = w.cell? ⟨bk, q, none⟩ := fun q => hbel.cell (p := ⟨bk, q, none⟩) hbk
      obtain ⟨⟨d1, d2⟩, ⟨p1, p2⟩, ⟨t1, t2⟩, r1, r2⟩ := HB.out i hlt
      have q0 := hcl i hlt 0 (by omega)
      have q1 := hcl i hlt 1 (by omega)
      have q2 := hcl i hlt 2 (by omega)
      have q3 := hcl i hlt 3 (by omega)
      have q4 := hcl i hlt 4 (by omega)
      have q5 := hcl i hlt 5 (by omega)
      have q6 := hcl i hlt 6 (by omega)
      rw [← e] at q0 q1 q2 q3 q4 q5 q6
      simp only [pcells, List.getElem?_toArray, List.getElem?_cons_zero, List.getElem?_cons_succ, Nat.add_zero] at q0 q1 q2 q3 q4 q5 q6
      have HP : Hid (∀ j, j + 1 = i → wr.cell? ⟨bk, o + j * 7, none⟩ = some (.int .i64 (po L j).s)) := by
        intro j hj
        rw [e]
        have := hcl j (by omega) 0 (by omega)
        simpa [pcells] using this
      clear e hcl
      have HA : Hid (consAt L i = ((i == 0 || decide ((po L (i - 1)).s < (po L i).s)) && balB (po L i))) := rfl
      have HS := Lib.hid (consTo_succ L i)
      have HN := Lib.hid (fun h => consTo_all (L := L) (i := i) hlt h)
      have HBL : Hid (balB (po L i) = ((po L i).o == (po L i).d - ((po L i).p + (po L i).t - (po L i).r))) := rfl
      generalize (po L i).d = xd at *
      generalize (po L i).p = xp at *
      generalize (po L i).t = xt at *
      generalize (po L i).r = xr at *
      generalize (po L i).o = xo at *
      have m1 : IntKind.i64.wrap (xp + xt) = xp + xt := IntWalk.i64_in _ (by omega)
      have m2 : IntKind.i64.wrap (xp + xt - xr) = xp + xt - xr := IntWalk.i64_in _ (by omega)
      have m3 : IntKind.i64.wrap (xd - (xp + xt - xr)) = xd - (xp + xt - xr) := IntWalk.i64_in _ (by omega)
      have hsz := hbel.size
      have hbk1 : bk < wr.heap.size := by omega
      go_upto_region 4 with (fail)
      rcases i with _ | j
      · replace HA : Hid (consAt L 0 = balB (po L 0)) := HA.out.trans (by simp)
        rcases hq : (xo != xd - (xp + xt - xr)) with _ | _
        · have HO : Hid (consAt L (0) = true) := HA.out.trans (by rw [HBL.out]; simpa [bne] using hq)
          go_quiet (fail)
          clear m1 m2 m3 q0 q1 q2 q3 q4 q5 q6
          go_wp2
          go_roundw
          case rel => exact ⟨0 + 1, by omega, by go_num, by rw [HS.out, hok.out, HO.out]; rfl, bdrewN (hbel.alloc hsz _) _⟩
          case measure => simp [intOf]; omega
        · have HO : Hid (consAt L (0) = false) := HA.out.trans (by rw [HBL.out]; simpa [bne] using hq)
          go_quiet (fail)
          clear m1 m2 m3 q0 q1 q2 q3 q4 q5 q6
          go_wp2
          go_ret
          exact ⟨ret_bool (HN.out HO.out).symm, bdrewN (hbel.alloc hsz _) _⟩
      · have pp := HP.out j rfl
        have hw : IntKind.i64.wrap (j : Int) = (j : Int) := IntWalk.i64_in _ (by omega)
        have hjl : j < L.length := by omega
        have hjl2 : (j : Int) < (L.length : Int) := by omega
        have HJ : Hid ((j + 1 == 0 || decide ((po L (j + 1 - 1)).s < (po L (j + 1)).s)) = decide ((po L j).s < (po L (j + 1)).s)) := by simp [Hid]
        have HA2 : Hid (consAt L (j + 1) = (decide ((po L j).s < (po L (j + 1)).s) && balB (po L (j + 1)))) := HA.out.trans (by rw [HJ.out])
        clear HA HJ
        generalize (po L (j + 1)).s = s1 at *
        generalize (po L j).s = s0 at *
        rcases hs : decide (s1 ≤ s0) with _ | _
        · have HA : Hid (consAt L (j + 1) = balB (po L (j + 1))) := HA2.out.trans (by rw [show decide (s0 < s1) = true by simp at hs ⊢; omega, Bool.true_and])
          clear HA2
          rcases hq : (xo != xd - (xp + xt - xr)) with _ | _
          · have HO : Hid (consAt L (j + 1) = true) := HA.out.trans (by rw [HBL.out]; simpa [bne] using hq)
            go_quiet (fail)
            clear m1 m2 m3 q0 q1 q2 q3 q4 q5 q6
            go_wp2
            go_roundw
            case rel => exact ⟨j + 1 + 1, by omega, by go_num, by rw [HS.out, hok.out, HO.out]; rfl, bdrewN (hbel.alloc hsz _) _⟩
            case measure => simp [intOf]; omega
          · have HO : Hid (consAt L (j + 1) = false) := HA.out.trans (by rw [HBL.out]; simpa [bne] using hq)
            go_quiet (fail)
            clear m1 m2 m3 q0 q1 q2 q3 q4 q5 q6
            go_wp2
            go_ret
            exact ⟨ret_bool (HN.out HO.out).symm, bdrewN (hbel.alloc hsz _) _⟩
        · have HO : Hid (consAt L (j + 1) = false) := HA2.out.trans (by rw [show decide (s0 < s1) = false by simp at hs ⊢; omega, Bool.false_and])
          go_quiet (fail)
          clear m1 m2 m3 q0 q1 q2 q3 q4 q5 q6 pp hw
          go_wp2
          go_ret
          exact ⟨ret_bool (HN.out HO.out).symm, bdrewN (hbel.alloc hsz _) _⟩
    · obtain rfl : i = L.length := by omega
      go_wp2
      go_ret
      exact ⟨ret_bool hok.out.symm, hbel⟩
set_option maxRecDepth 100000 in
set_option maxHeartbeats 4000000 in
theorem rcons_any (L : List Po) (v0 : Value) (w : World) (hL : Poss w.heap.size w v0 L) (hB : PoBd L) (hn : L.length ≤ 1000000) :
    Calls Try.prog 17 #[v0] w fun e w' => e = .returned (.bool (consB L)) ∧ Below w.heap.size w w' := by
  obtain ⟨a, c, rfl, hc, hcell⟩ := hL
  have HC := Lib.hid hcell
  have HB := Lib.hid hB
  clear hcell hB
  go_enter Try.func17, Try.ntmps17
  go_wp2
  go_loopw [3] (fun t wr => ∃ (i : Nat), i ≤ L.length ∧ t = .int .i64 (i : Int) ∧ Hid (consTo L i = true) ∧ Below w.heap.size w wr) (fun t _ => L.length - (intOf t).toNat)
  case atStart => exact ⟨0, Nat.zero_le _, rfl, rfl, Below.refl _ _⟩
  case round =>
    obtain ⟨i, hi, rfl, hok, hbel⟩ := hrel
    by_cases hlt : i < L.length
    ·
      obtain ⟨bk, o, rfl, hbk, hcl⟩ := HC.out (by omega)
      have e : ∀ q, wr.cell? ⟨bk, q, none⟩ = w.cell? ⟨bk, q, none⟩ := fun q => hbel.cell (p := ⟨bk, q, none⟩) hbk
      obtain ⟨⟨d1, d2⟩, ⟨p1, p2⟩, ⟨t1, t2⟩, r1, r2⟩ := HB.out i hlt
      have q0 := hcl i hlt 0 (by omega)
      have q1 := hcl i hlt 1 (by omega)
      have q2 := hcl i hlt 2 (by omega)
      have q3 := hcl i hlt 3 (by omega)
      have q4 := hcl i hlt 4 (by omega)
      have q5 := hcl i hlt 5 (by omega)
      have q6 := hcl i hlt 6 (by omega)
      rw [← e] at q0 q1 q2 q3 q4 q5 q6
      simp only [pcells, List.getElem?_toArray, List.getElem?_cons_zero, List.getElem?_cons_succ, Nat.add_zero] at q0 q1 q2 q3 q4 q5 q6
      have HP : Hid (∀ j, j + 1 = i → wr.cell? ⟨bk, o + j * 7, none⟩ = some (.int .i64 (po L j).s)) := by
        intro j hj
        rw [e]
        have := hcl j (by omega) 0 (by omega)
        simpa [pcells] using this
      clear e hcl
      have HA : Hid (consAt L i = ((i == 0 || decide ((po L (i - 1)).s < (po L i).s)) && balB (po L i))) := rfl
      have HS := Lib.hid (consTo_succ L i)
      have HN := Lib.hid (fun h => consTo_all (L := L) (i := i) hlt h)
      have HBL : Hid (balB (po L i) = ((po L i).o == (po L i).d - ((po L i).p + (po L i).t - (po L i).r))) := rfl
      generalize (po L i).d = xd at *
      generalize (po L i).p = xp at *
      generalize (po L i).t = xt at *
      generalize (po L i).r = xr at *
      generalize (po L i).o = xo at *
      have m1 : IntKind.i64.wrap (xp + xt) = xp + xt := IntWalk.i64_in _ (by omega)
      have m2 : IntKind.i64.wrap (xp + xt - xr) = xp + xt - xr := IntWalk.i64_in _ (by omega)
      have m3 : IntKind.i64.wrap (xd - (xp + xt - xr)) = xd - (xp + xt - xr) := IntWalk.i64_in _ (by omega)
      have hsz := hbel.size
      have hbk1 : bk < wr.heap.size := by omega
      go_upto_region 4 with (fail)
      rcases i with _ | j
      · replace HA : Hid (consAt L 0 = balB (po L 0)) := HA.out.trans (by simp)
        rcases hq : (xo != xd - (xp + xt - xr)) with _ | _
        · have HO : Hid (consAt L (0) = true) := HA.out.trans (by rw [HBL.out]; simpa [bne] using hq)
          go_quiet (fail)
          clear m1 m2 m3 q0 q1 q2 q3 q4 q5 q6
          go_wp2
          go_roundw
          case rel => exact ⟨0 + 1, by omega, by go_num, by rw [HS.out, hok.out, HO.out]; rfl, bdrewN hbel _⟩
          case measure => simp [intOf]; omega
        · have HO : Hid (consAt L (0) = false) := HA.out.trans (by rw [HBL.out]; simpa [bne] using hq)
          go_quiet (fail)
          clear m1 m2 m3 q0 q1 q2 q3 q4 q5 q6
          go_wp2
          go_ret
          exact ⟨ret_bool (HN.out HO.out).symm, bdrewN hbel _⟩
      · have pp := HP.out j rfl
        have hw : IntKind.i64.wrap (j : Int) = (j : Int) := IntWalk.i64_in _ (by omega)
        have hjl : j < L.length := by omega
        have hjl2 : (j : Int) < (L.length : Int) := by omega
        have HJ : Hid ((j + 1 == 0 || decide ((po L (j + 1 - 1)).s < (po L (j + 1)).s)) = decide ((po L j).s < (po L (j + 1)).s)) := by simp [Hid]
        have HA2 : Hid (consAt L (j + 1) = (decide ((po L j).s < (po L (j + 1)).s) && balB (po L (j + 1)))) := HA.out.trans (by rw [HJ.out])
        clear HA HJ
        generalize (po L (j + 1)).s = s1 at *
        generalize (po L j).s = s0 at *
        rcases hs : decide (s1 ≤ s0) with _ | _
        · have HA : Hid (consAt L (j + 1) = balB (po L (j + 1))) := HA2.out.trans (by rw [show decide (s0 < s1) = true by simp at hs ⊢; omega, Bool.true_and])
          clear HA2
          rcases hq : (xo != xd - (xp + xt - xr)) with _ | _
          · have HO : Hid (consAt L (j + 1) = true) := HA.out.trans (by rw [HBL.out]; simpa [bne] using hq)
            go_quiet (fail)
            clear m1 m2 m3 q0 q1 q2 q3 q4 q5 q6
            go_wp2
            go_roundw
            case rel => exact ⟨j + 1 + 1, by omega, by go_num, by rw [HS.out, hok.out, HO.out]; rfl, bdrewN hbel _⟩
            case measure => simp [intOf]; omega
          · have HO : Hid (consAt L (j + 1) = false) := HA.out.trans (by rw [HBL.out]; simpa [bne] using hq)
            go_quiet (fail)
            clear m1 m2 m3 q0 q1 q2 q3 q4 q5 q6
            go_wp2
            go_ret
            exact ⟨ret_bool (HN.out HO.out).symm, bdrewN hbel _⟩
        · have HO : Hid (consAt L (j + 1) = false) := HA2.out.trans (by rw [show decide (s0 < s1) = false by simp at hs ⊢; omega, Bool.false_and])
          go_quiet (fail)
          clear m1 m2 m3 q0 q1 q2 q3 q4 q5 q6 pp hw
          go_wp2
          go_ret
          exact ⟨ret_bool (HN.out HO.out).symm, bdrewN hbel _⟩
    · obtain rfl : i = L.length := by omega
      go_wp2
      go_ret
      exact ⟨ret_bool hok.out.symm, hbel⟩
end Go.Proofs.Ytnlcgiemhegmcaa
