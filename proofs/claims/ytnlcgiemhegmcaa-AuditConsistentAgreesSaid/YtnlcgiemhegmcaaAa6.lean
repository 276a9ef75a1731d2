/-
  An entry is sound: the contract of sound. Conditions: where the entry is not wrong, its values are in their ranges.
-/
import Derived.Test.YtnlcgiemhegmcaaAa5
namespace Go.Proofs.Ytnlcgiemhegmcaa
open Go.RowKit
set_option linter.unusedVariables false

def c4 (U : Int → Option Int) : Bool := match U 1, U 6, U 4, U 7 with | some i, some d, some p, some n => n == max (i - d) p | _, _, _, _ => true
def c2 (U : Int → Option Int) : Bool := match U 1, U 6 with | some i, some d => decide (d ≤ i) | _, _ => true
def cP (U : Int → Option Int) : Bool := match U 4, U 2 with | some p, some t => decide (p ≤ t) | _, _ => true
def cN (U : Int → Option Int) : Bool := match U 7, U 8 with | some n, some c => decide (n < c) | _, _ => true
theorem arith_c (V : Int → Option (Int × Int)) : arithB V = (((V 5).isSome || (c4 (U1 V) && c2 (U1 V))) && (cP (U1 V) && cN (U1 V))) := by
  rw [arith_U]
  have e : (V 5).isSome = (U1 V 5).isSome := by unfold U1; cases V 5 <;> rfl
  rw [e]
  rfl
theorem c4_some {U : Int → Option Int} {a b c d : Int} (h1 : U 1 = some a) (h2 : U 6 = some b) (h3 : U 4 = some c) (h4 : U 7 = some d) : c4 U = (d == max (a - b) c) := by simp [c4, h1, h2, h3, h4]
theorem c4_none {U : Int → Option Int} (h : U 1 = none ∨ U 6 = none ∨ U 4 = none ∨ U 7 = none) : c4 U = true := by
  unfold c4
  rcases h with h | h | h | h <;> rw [h] <;> cases U 1 <;> cases U 6 <;> cases U 4 <;> simp
theorem c2_some {U : Int → Option Int} {a b : Int} (h1 : U 1 = some a) (h2 : U 6 = some b) : c2 U = decide (b ≤ a) := by simp [c2, h1, h2]
theorem c2_none {U : Int → Option Int} (h : U 1 = none ∨ U 6 = none) : c2 U = true := by
  unfold c2
  rcases h with h | h <;> rw [h] <;> cases U 1 <;> simp
theorem cP_some {U : Int → Option Int} {a b : Int} (h1 : U 4 = some a) (h2 : U 2 = some b) : cP U = decide (a ≤ b) := by simp [cP, h1, h2]
theorem cP_none {U : Int → Option Int} (h : U 4 = none ∨ U 2 = none) : cP U = true := by
  unfold cP
  rcases h with h | h <;> rw [h] <;> cases U 4 <;> simp
theorem cN_some {U : Int → Option Int} {a b : Int} (h1 : U 7 = some a) (h2 : U 8 = some b) : cN U = decide (a < b) := by simp [cN, h1, h2]
theorem cN_none {U : Int → Option Int} (h : U 7 = none ∨ U 8 = none) : cN U = true := by
  unfold cN
  rcases h with h | h <;> rw [h] <;> cases U 7 <;> simp
def SoundPost (b : Bool) (V : Int → Option (Int × Int)) (w : World) (e : Ending) (w' : World) : Prop := e = .returned (.bool (!b && arithB V)) ∧ Below w.heap.size w w'

set_option maxRecDepth 100000 in
set_option maxHeartbeats 4000000 in
theorem sound_any (g m k : Nat) (j : Int) (b : Bool) (V : Int → Option (Int × Int)) (w : World) (hg : BlkIs w g 53 (ecells j m b)) (hm : MapF w Try.prog 3 m k (iF V))
    (hV : b = false → ∀ x a, U1 V x = some a → 0 ≤ a ∧ a ≤ 1000000000000000) :
    Calls Try.prog 20 #[.pointer (some ⟨g, 0, none⟩)] w (SoundPost b V w) := by
  have hR : SndR g m k j b V w w := ⟨hg, hm, Below.refl _ _⟩
  obtain ⟨hc0, hc1, hc2, hf2⟩ := ecell hg
  rcases b with _ | _
  · have HV := Lib.hid (hV rfl)
    clear hV
    have hl5 := look_items hm 5 (by decide) (by decide)
    rcases h5 : (V 5).isSome with _ | _
    · rw [h5] at hl5
      have H5 := Lib.hid h5
      clear h5 hg hm
      go_enter Try.func20, Try.ntmps20
      go_wp2_with fail
      refine (val4_any (hR.alloc _) (by simp)).mono ?_
      rintro e w1 ⟨hR1, hpost⟩
      clear hR hl5 hc0 hc1 hc2 hf2
      rcases hpost with ⟨a, b, c, d, gb, cap, u1, u6, u4, u7, rfl, k0, k1, k2, k3⟩ | ⟨hn, rfl⟩
      · have E4 := Lib.hid (c4_some u1 u6 u4 u7)
        have B1 := HV.out 1 a u1
        have B6 := HV.out 6 b u6
        clear u1 u6 u4 u7
        obtain ⟨B10, B11⟩ := B1
        obtain ⟨B60, B61⟩ := B6
        go_wp2_with fail
        by_cases hx : a - b < c
        ·
          rcases hq : (d != c) with _ | _
          · go_quiet (fail)
            clear k0 k1 k2 k3
            refine world_gen (SndR g m k j false V w) (hR1.below (bdrewN (Below.refl _ _) _)) ?_
            intro W hR
            clear hR1
            have hq' : d = c := by simpa using hq
            clear hq
            have HQ := Lib.hid hq'
            clear hq'
            replace E4 : Hid (c4 (U1 V) = true) := E4.out.trans (by rw [HQ.out]; simp; omega)
            go_wp2_with fail
            refine (val2_any 1 6 (by decide) (by decide) (by decide) (by decide) (hR) (by simp)).mono ?_
            rintro e w1 ⟨hR1, hpost⟩
            clear hR
            rcases hpost with ⟨a, b, gb, cap, ua, ub, rfl, k0, k1⟩ | ⟨hn, rfl⟩
            ·
              have E2 := Lib.hid (c2_some ua ub)
              clear ua ub
              go_wp2_with fail
              by_cases hq : a < b
              ·
                go_quiet (fail)
                clear k0 k1
                refine world_gen (SndR g m k j false V w) (hR1.below (bdrewN (Below.refl _ _) _)) ?_
                intro W hR
                clear hR1
                go_wp2
                go_ret
                refine ⟨ret_bool ?_, hR.bel⟩
                rw [arith_c, H5.out]
                (try rw [E4.out])
                (try rw [E2.out])
                (try rw [EP.out])
                (try rw [EN.out])
                simp
                (try omega)
              · have hq' : b ≤ a := by omega
                go_quiet (fail)
                clear k0 k1
                refine world_gen (SndR g m k j false V w) (hR1.below (bdrewN (Below.refl _ _) _)) ?_
                intro W hR
                clear hR1
                go_wp2_with fail
                refine (val2_any 4 2 (by decide) (by decide) (by decide) (by decide) (hR) (by simp)).mono ?_
                rintro e w1 ⟨hR1, hpost⟩
                clear hR
                rcases hpost with ⟨a, b, gb, cap, ua, ub, rfl, k0, k1⟩ | ⟨hn, rfl⟩
                ·
                  have EP := Lib.hid (cP_some ua ub)
                  clear ua ub
                  go_wp2_with fail
                  by_cases hq : b < a
                  ·
                    go_quiet (fail)
                    clear k0 k1
                    refine world_gen (SndR g m k j false V w) (hR1.below (bdrewN (Below.refl _ _) _)) ?_
                    intro W hR
                    clear hR1
                    go_wp2
                    go_ret
                    refine ⟨ret_bool ?_, hR.bel⟩
                    rw [arith_c, H5.out]
                    (try rw [E4.out])
                    (try rw [E2.out])
                    (try rw [EP.out])
                    (try rw [EN.out])
                    simp
                    (try omega)
                  · have hq' : a ≤ b := by omega
                    go_quiet (fail)
                    clear k0 k1
                    refine world_gen (SndR g m k j false V w) (hR1.below (bdrewN (Below.refl _ _) _)) ?_
                    intro W hR
                    clear hR1
                    go_wp2_with fail
                    refine (val2_any 7 8 (by decide) (by decide) (by decide) (by decide) (hR) (by simp)).mono ?_
                    rintro e w1 ⟨hR1, hpost⟩
                    clear hR
                    rcases hpost with ⟨a, b, gb, cap, ua, ub, rfl, k0, k1⟩ | ⟨hn, rfl⟩
                    ·
                      have EN := Lib.hid (cN_some ua ub)
                      clear ua ub
                      go_wp2_with fail
                      by_cases hq : b ≤ a
                      ·
                        go_quiet (fail)
                        clear k0 k1
                        refine world_gen (SndR g m k j false V w) (hR1.below (bdrewN (Below.refl _ _) _)) ?_
                        intro W hR
                        clear hR1
                        go_wp2
                        go_ret
                        refine ⟨ret_bool ?_, hR.bel⟩
                        rw [arith_c, H5.out]
                        (try rw [E4.out])
                        (try rw [E2.out])
                        (try rw [EP.out])
                        (try rw [EN.out])
                        simp
                        (try omega)
                      · have hq' : a < b := by omega
                        go_quiet (fail)
                        clear k0 k1
                        refine world_gen (SndR g m k j false V w) (hR1.below (bdrewN (Below.refl _ _) _)) ?_
                        intro W hR
                        clear hR1
                        go_wp2
                        go_ret
                        refine ⟨ret_bool ?_, hR.bel⟩
                        rw [arith_c, H5.out]
                        (try rw [E4.out])
                        (try rw [E2.out])
                        (try rw [EP.out])
                        (try rw [EN.out])
                        simp
                        (try omega)
                    ·
                      have EN := Lib.hid (cN_none hn)
                      clear hn
                      go_wp2_with fail
                      go_quiet (fail)
                      refine world_gen (SndR g m k j false V w) (hR1.below (bdrewN (Below.refl _ _) _)) ?_
                      intro W hR
                      clear hR1
                      go_wp2
                      go_ret
                      refine ⟨ret_bool ?_, hR.bel⟩
                      rw [arith_c, H5.out]
                      (try rw [E4.out])
                      (try rw [E2.out])
                      (try rw [EP.out])
                      (try rw [EN.out])
                      simp
                      (try omega)
                ·
                  have EP := Lib.hid (cP_none hn)
                  clear hn
                  go_wp2_with fail
                  go_quiet (fail)
                  refine world_gen (SndR g m k j false V w) (hR1.below (bdrewN (Below.refl _ _) _)) ?_
                  intro W hR
                  clear hR1
                  go_wp2_with fail
                  refine (val2_any 7 8 (by decide) (by decide) (by decide) (by decide) (hR) (by simp)).mono ?_
                  rintro e w1 ⟨hR1, hpost⟩
                  clear hR
                  rcases hpost with ⟨a, b, gb, cap, ua, ub, rfl, k0, k1⟩ | ⟨hn, rfl⟩
                  ·
                    have EN := Lib.hid (cN_some ua ub)
                    clear ua ub
                    go_wp2_with fail
                    by_cases hq : b ≤ a
                    ·
                      go_quiet (fail)
                      clear k0 k1
                      refine world_gen (SndR g m k j false V w) (hR1.below (bdrewN (Below.refl _ _) _)) ?_
                      intro W hR
                      clear hR1
                      go_wp2
                      go_ret
                      refine ⟨ret_bool ?_, hR.bel⟩
                      rw [arith_c, H5.out]
                      (try rw [E4.out])
                      (try rw [E2.out])
                      (try rw [EP.out])
                      (try rw [EN.out])
                      simp
                      (try omega)
                    · have hq' : a < b := by omega
                      go_quiet (fail)
                      clear k0 k1
                      refine world_gen (SndR g m k j false V w) (hR1.below (bdrewN (Below.refl _ _) _)) ?_
                      intro W hR
                      clear hR1
                      go_wp2
                      go_ret
                      refine ⟨ret_bool ?_, hR.bel⟩
                      rw [arith_c, H5.out]
                      (try rw [E4.out])
                      (try rw [E2.out])
                      (try rw [EP.out])
                      (try rw [EN.out])
                      simp
                      (try omega)
                  ·
                    have EN := Lib.hid (cN_none hn)
                    clear hn
                    go_wp2_with fail
                    go_quiet (fail)
                    refine world_gen (SndR g m k j false V w) (hR1.below (bdrewN (Below.refl _ _) _)) ?_
                    intro W hR
                    clear hR1
                    go_wp2
                    go_ret
                    refine ⟨ret_bool ?_, hR.bel⟩
                    rw [arith_c, H5.out]
                    (try rw [E4.out])
                    (try rw [E2.out])
                    (try rw [EP.out])
                    (try rw [EN.out])
                    simp
                    (try omega)
            ·
              have E2 := Lib.hid (c2_none hn)
              clear hn
              go_wp2_with fail
              go_quiet (fail)
              refine world_gen (SndR g m k j false V w) (hR1.below (bdrewN (Below.refl _ _) _)) ?_
              intro W hR
              clear hR1
              go_wp2_with fail
              refine (val2_any 4 2 (by decide) (by decide) (by decide) (by decide) (hR) (by simp)).mono ?_
              rintro e w1 ⟨hR1, hpost⟩
              clear hR
              rcases hpost with ⟨a, b, gb, cap, ua, ub, rfl, k0, k1⟩ | ⟨hn, rfl⟩
              ·
                have EP := Lib.hid (cP_some ua ub)
                clear ua ub
                go_wp2_with fail
                by_cases hq : b < a
                ·
                  go_quiet (fail)
                  clear k0 k1
                  refine world_gen (SndR g m k j false V w) (hR1.below (bdrewN (Below.refl _ _) _)) ?_
                  intro W hR
                  clear hR1
                  go_wp2
                  go_ret
                  refine ⟨ret_bool ?_, hR.bel⟩
                  rw [arith_c, H5.out]
                  (try rw [E4.out])
                  (try rw [E2.out])
                  (try rw [EP.out])
                  (try rw [EN.out])
                  simp
                  (try omega)
                · have hq' : a ≤ b := by omega
                  go_quiet (fail)
                  clear k0 k1
                  refine world_gen (SndR g m k j false V w) (hR1.below (bdrewN (Below.refl _ _) _)) ?_
                  intro W hR
                  clear hR1
                  go_wp2_with fail
                  refine (val2_any 7 8 (by decide) (by decide) (by decide) (by decide) (hR) (by simp)).mono ?_
                  rintro e w1 ⟨hR1, hpost⟩
                  clear hR
                  rcases hpost with ⟨a, b, gb, cap, ua, ub, rfl, k0, k1⟩ | ⟨hn, rfl⟩
                  ·
                    have EN := Lib.hid (cN_some ua ub)
                    clear ua ub
                    go_wp2_with fail
                    by_cases hq : b ≤ a
                    ·
                      go_quiet (fail)
                      clear k0 k1
                      refine world_gen (SndR g m k j false V w) (hR1.below (bdrewN (Below.refl _ _) _)) ?_
                      intro W hR
                      clear hR1
                      go_wp2
                      go_ret
                      refine ⟨ret_bool ?_, hR.bel⟩
                      rw [arith_c, H5.out]
                      (try rw [E4.out])
                      (try rw [E2.out])
                      (try rw [EP.out])
                      (try rw [EN.out])
                      simp
                      (try omega)
                    · have hq' : a < b := by omega
                      go_quiet (fail)
                      clear k0 k1
                      refine world_gen (SndR g m k j false V w) (hR1.below (bdrewN (Below.refl _ _) _)) ?_
                      intro W hR
                      clear hR1
                      go_wp2
                      go_ret
                      refine ⟨ret_bool ?_, hR.bel⟩
                      rw [arith_c, H5.out]
                      (try rw [E4.out])
                      (try rw [E2.out])
                      (try rw [EP.out])
                      (try rw [EN.out])
                      simp
                      (try omega)
                  ·
                    have EN := Lib.hid (cN_none hn)
                    clear hn
                    go_wp2_with fail
                    go_quiet (fail)
                    refine world_gen (SndR g m k j false V w) (hR1.below (bdrewN (Below.refl _ _) _)) ?_
                    intro W hR
                    clear hR1
                    go_wp2
                    go_ret
                    refine ⟨ret_bool ?_, hR.bel⟩
                    rw [arith_c, H5.out]
                    (try rw [E4.out])
                    (try rw [E2.out])
                    (try rw [EP.out])
                    (try rw [EN.out])
                    simp
                    (try omega)
              ·
                have EP := Lib.hid (cP_none hn)
                clear hn
                go_wp2_with fail
                go_quiet (fail)
                refine world_gen (SndR g m k j false V w) (hR1.below (bdrewN (Below.refl _ _) _)) ?_
                intro W hR
                clear hR1
                go_wp2_with fail
                refine (val2_any 7 8 (by decide) (by decide) (by decide) (by decide) (hR) (by simp)).mono ?_
                rintro e w1 ⟨hR1, hpost⟩
                clear hR
                rcases hpost with ⟨a, b, gb, cap, ua, ub, rfl, k0, k1⟩ | ⟨hn, rfl⟩
                ·
                  have EN := Lib.hid (cN_some ua ub)
                  clear ua ub
                  go_wp2_with fail
                  by_cases hq : b ≤ a
                  ·
                    go_quiet (fail)
                    clear k0 k1
                    refine world_gen (SndR g m k j false V w) (hR1.below (bdrewN (Below.refl _ _) _)) ?_
                    intro W hR
                    clear hR1
                    go_wp2
                    go_ret
                    refine ⟨ret_bool ?_, hR.bel⟩
                    rw [arith_c, H5.out]
                    (try rw [E4.out])
                    (try rw [E2.out])
                    (try rw [EP.out])
                    (try rw [EN.out])
                    simp
                    (try omega)
                  · have hq' : a < b := by omega
                    go_quiet (fail)
                    clear k0 k1
                    refine world_gen (SndR g m k j false V w) (hR1.below (bdrewN (Below.refl _ _) _)) ?_
                    intro W hR
                    clear hR1
                    go_wp2
                    go_ret
                    refine ⟨ret_bool ?_, hR.bel⟩
                    rw [arith_c, H5.out]
                    (try rw [E4.out])
                    (try rw [E2.out])
                    (try rw [EP.out])
                    (try rw [EN.out])
                    simp
                    (try omega)
                ·
                  have EN := Lib.hid (cN_none hn)
                  clear hn
                  go_wp2_with fail
                  go_quiet (fail)
                  refine world_gen (SndR g m k j false V w) (hR1.below (bdrewN (Below.refl _ _) _)) ?_
                  intro W hR
                  clear hR1
                  go_wp2
                  go_ret
                  refine ⟨ret_bool ?_, hR.bel⟩
                  rw [arith_c, H5.out]
                  (try rw [E4.out])
                  (try rw [E2.out])
                  (try rw [EP.out])
                  (try rw [EN.out])
                  simp
                  (try omega)
          · go_quiet (fail)
            clear k0 k1 k2 k3
            refine world_gen (SndR g m k j false V w) (hR1.below (bdrewN (Below.refl _ _) _)) ?_
            intro W hR
            clear hR1
            have hq' : ¬ d = c := by simpa using hq
            replace E4 : Hid (c4 (U1 V) = false) := E4.out.trans (by simp; omega)
            go_wp2
            go_ret
            refine ⟨ret_bool ?_, hR.bel⟩
            rw [arith_c, H5.out]
            (try rw [E4.out])
            (try rw [E2.out])
            (try rw [EP.out])
            (try rw [EN.out])
            simp
            (try omega)
        ·
          have hx' : c ≤ a - b := by omega
          rcases hq : (d != (a - b)) with _ | _
          · go_quiet (fail)
            clear k0 k1 k2 k3
            refine world_gen (SndR g m k j false V w) (hR1.below (bdrewN (Below.refl _ _) _)) ?_
            intro W hR
            clear hR1
            have hq' : d = (a - b) := by simpa using hq
            clear hq
            have HQ := Lib.hid hq'
            clear hq'
            replace E4 : Hid (c4 (U1 V) = true) := E4.out.trans (by rw [HQ.out]; simp; omega)
            go_wp2_with fail
            refine (val2_any 1 6 (by decide) (by decide) (by decide) (by decide) (hR) (by simp)).mono ?_
            rintro e w1 ⟨hR1, hpost⟩
            clear hR
            rcases hpost with ⟨a, b, gb, cap, ua, ub, rfl, k0, k1⟩ | ⟨hn, rfl⟩
            ·
              have E2 := Lib.hid (c2_some ua ub)
              clear ua ub
              go_wp2_with fail
              by_cases hq : a < b
              ·
                go_quiet (fail)
                clear k0 k1
                refine world_gen (SndR g m k j false V w) (hR1.below (bdrewN (Below.refl _ _) _)) ?_
                intro W hR
                clear hR1
                go_wp2
                go_ret
                refine ⟨ret_bool ?_, hR.bel⟩
                rw [arith_c, H5.out]
                (try rw [E4.out])
                (try rw [E2.out])
                (try rw [EP.out])
                (try rw [EN.out])
                simp
                (try omega)
              · have hq' : b ≤ a := by omega
                go_quiet (fail)
                clear k0 k1
                refine world_gen (SndR g m k j false V w) (hR1.below (bdrewN (Below.refl _ _) _)) ?_
                intro W hR
                clear hR1
                go_wp2_with fail
                refine (val2_any 4 2 (by decide) (by decide) (by decide) (by decide) (hR) (by simp)).mono ?_
                rintro e w1 ⟨hR1, hpost⟩
                clear hR
                rcases hpost with ⟨a, b, gb, cap, ua, ub, rfl, k0, k1⟩ | ⟨hn, rfl⟩
                ·
                  have EP := Lib.hid (cP_some ua ub)
                  clear ua ub
                  go_wp2_with fail
                  by_cases hq : b < a
                  ·
                    go_quiet (fail)
                    clear k0 k1
                    refine world_gen (SndR g m k j false V w) (hR1.below (bdrewN (Below.refl _ _) _)) ?_
                    intro W hR
                    clear hR1
                    go_wp2
                    go_ret
                    refine ⟨ret_bool ?_, hR.bel⟩
                    rw [arith_c, H5.out]
                    (try rw [E4.out])
                    (try rw [E2.out])
                    (try rw [EP.out])
                    (try rw [EN.out])
                    simp
                    (try omega)
                  · have hq' : a ≤ b := by omega
                    go_quiet (fail)
                    clear k0 k1
                    refine world_gen (SndR g m k j false V w) (hR1.below (bdrewN (Below.refl _ _) _)) ?_
                    intro W hR
                    clear hR1
                    go_wp2_with fail
                    refine (val2_any 7 8 (by decide) (by decide) (by decide) (by decide) (hR) (by simp)).mono ?_
                    rintro e w1 ⟨hR1, hpost⟩
                    clear hR
                    rcases hpost with ⟨a, b, gb, cap, ua, ub, rfl, k0, k1⟩ | ⟨hn, rfl⟩
                    ·
                      have EN := Lib.hid (cN_some ua ub)
                      clear ua ub
                      go_wp2_with fail
                      by_cases hq : b ≤ a
                      ·
                        go_quiet (fail)
                        clear k0 k1
                        refine world_gen (SndR g m k j false V w) (hR1.below (bdrewN (Below.refl _ _) _)) ?_
                        intro W hR
                        clear hR1
                        go_wp2
                        go_ret
                        refine ⟨ret_bool ?_, hR.bel⟩
                        rw [arith_c, H5.out]
                        (try rw [E4.out])
                        (try rw [E2.out])
                        (try rw [EP.out])
                        (try rw [EN.out])
                        simp
                        (try omega)
                      · have hq' : a < b := by omega
                        go_quiet (fail)
                        clear k0 k1
                        refine world_gen (SndR g m k j false V w) (hR1.below (bdrewN (Below.refl _ _) _)) ?_
                        intro W hR
                        clear hR1
                        go_wp2
                        go_ret
                        refine ⟨ret_bool ?_, hR.bel⟩
                        rw [arith_c, H5.out]
                        (try rw [E4.out])
                        (try rw [E2.out])
                        (try rw [EP.out])
                        (try rw [EN.out])
                        simp
                        (try omega)
                    ·
                      have EN := Lib.hid (cN_none hn)
                      clear hn
                      go_wp2_with fail
                      go_quiet (fail)
                      refine world_gen (SndR g m k j false V w) (hR1.below (bdrewN (Below.refl _ _) _)) ?_
                      intro W hR
                      clear hR1
                      go_wp2
                      go_ret
                      refine ⟨ret_bool ?_, hR.bel⟩
                      rw [arith_c, H5.out]
                      (try rw [E4.out])
                      (try rw [E2.out])
                      (try rw [EP.out])
                      (try rw [EN.out])
                      simp
                      (try omega)
                ·
                  have EP := Lib.hid (cP_none hn)
                  clear hn
                  go_wp2_with fail
                  go_quiet (fail)
                  refine world_gen (SndR g m k j false V w) (hR1.below (bdrewN (Below.refl _ _) _)) ?_
                  intro W hR
                  clear hR1
                  go_wp2_with fail
                  refine (val2_any 7 8 (by decide) (by decide) (by decide) (by decide) (hR) (by simp)).mono ?_
                  rintro e w1 ⟨hR1, hpost⟩
                  clear hR
                  rcases hpost with ⟨a, b, gb, cap, ua, ub, rfl, k0, k1⟩ | ⟨hn, rfl⟩
                  ·
                    have EN := Lib.hid (cN_some ua ub)
                    clear ua ub
                    go_wp2_with fail
                    by_cases hq : b ≤ a
                    ·
                      go_quiet (fail)
                      clear k0 k1
                      refine world_gen (SndR g m k j false V w) (hR1.below (bdrewN (Below.refl _ _) _)) ?_
                      intro W hR
                      clear hR1
                      go_wp2
                      go_ret
                      refine ⟨ret_bool ?_, hR.bel⟩
                      rw [arith_c, H5.out]
                      (try rw [E4.out])
                      (try rw [E2.out])
                      (try rw [EP.out])
                      (try rw [EN.out])
                      simp
                      (try omega)
                    · have hq' : a < b := by omega
                      go_quiet (fail)
                      clear k0 k1
                      refine world_gen (SndR g m k j false V w) (hR1.below (bdrewN (Below.refl _ _) _)) ?_
                      intro W hR
                      clear hR1
                      go_wp2
                      go_ret
                      refine ⟨ret_bool ?_, hR.bel⟩
                      rw [arith_c, H5.out]
                      (try rw [E4.out])
                      (try rw [E2.out])
                      (try rw [EP.out])
                      (try rw [EN.out])
                      simp
                      (try omega)
                  ·
                    have EN := Lib.hid (cN_none hn)
                    clear hn
                    go_wp2_with fail
                    go_quiet (fail)
                    refine world_gen (SndR g m k j false V w) (hR1.below (bdrewN (Below.refl _ _) _)) ?_
                    intro W hR
                    clear hR1
                    go_wp2
                    go_ret
                    refine ⟨ret_bool ?_, hR.bel⟩
                    rw [arith_c, H5.out]
                    (try rw [E4.out])
                    (try rw [E2.out])
                    (try rw [EP.out])
                    (try rw [EN.out])
                    simp
                    (try omega)
            ·
              have E2 := Lib.hid (c2_none hn)
              clear hn
              go_wp2_with fail
              go_quiet (fail)
              refine world_gen (SndR g m k j false V w) (hR1.below (bdrewN (Below.refl _ _) _)) ?_
              intro W hR
              clear hR1
              go_wp2_with fail
              refine (val2_any 4 2 (by decide) (by decide) (by decide) (by decide) (hR) (by simp)).mono ?_
              rintro e w1 ⟨hR1, hpost⟩
              clear hR
              rcases hpost with ⟨a, b, gb, cap, ua, ub, rfl, k0, k1⟩ | ⟨hn, rfl⟩
              ·
                have EP := Lib.hid (cP_some ua ub)
                clear ua ub
                go_wp2_with fail
                by_cases hq : b < a
                ·
                  go_quiet (fail)
                  clear k0 k1
                  refine world_gen (SndR g m k j false V w) (hR1.below (bdrewN (Below.refl _ _) _)) ?_
                  intro W hR
                  clear hR1
                  go_wp2
                  go_ret
                  refine ⟨ret_bool ?_, hR.bel⟩
                  rw [arith_c, H5.out]
                  (try rw [E4.out])
                  (try rw [E2.out])
                  (try rw [EP.out])
                  (try rw [EN.out])
                  simp
                  (try omega)
                · have hq' : a ≤ b := by omega
                  go_quiet (fail)
                  clear k0 k1
                  refine world_gen (SndR g m k j false V w) (hR1.below (bdrewN (Below.refl _ _) _)) ?_
                  intro W hR
                  clear hR1
                  go_wp2_with fail
                  refine (val2_any 7 8 (by decide) (by decide) (by decide) (by decide) (hR) (by simp)).mono ?_
                  rintro e w1 ⟨hR1, hpost⟩
                  clear hR
                  rcases hpost with ⟨a, b, gb, cap, ua, ub, rfl, k0, k1⟩ | ⟨hn, rfl⟩
                  ·
                    have EN := Lib.hid (cN_some ua ub)
                    clear ua ub
                    go_wp2_with fail
                    by_cases hq : b ≤ a
                    ·
                      go_quiet (fail)
                      clear k0 k1
                      refine world_gen (SndR g m k j false V w) (hR1.below (bdrewN (Below.refl _ _) _)) ?_
                      intro W hR
                      clear hR1
                      go_wp2
                      go_ret
                      refine ⟨ret_bool ?_, hR.bel⟩
                      rw [arith_c, H5.out]
                      (try rw [E4.out])
                      (try rw [E2.out])
                      (try rw [EP.out])
                      (try rw [EN.out])
                      simp
                      (try omega)
                    · have hq' : a < b := by omega
                      go_quiet (fail)
                      clear k0 k1
                      refine world_gen (SndR g m k j false V w) (hR1.below (bdrewN (Below.refl _ _) _)) ?_
                      intro W hR
                      clear hR1
                      go_wp2
                      go_ret
                      refine ⟨ret_bool ?_, hR.bel⟩
                      rw [arith_c, H5.out]
                      (try rw [E4.out])
                      (try rw [E2.out])
                      (try rw [EP.out])
                      (try rw [EN.out])
                      simp
                      (try omega)
                  ·
                    have EN := Lib.hid (cN_none hn)
                    clear hn
                    go_wp2_with fail
                    go_quiet (fail)
                    refine world_gen (SndR g m k j false V w) (hR1.below (bdrewN (Below.refl _ _) _)) ?_
                    intro W hR
                    clear hR1
                    go_wp2
                    go_ret
                    refine ⟨ret_bool ?_, hR.bel⟩
                    rw [arith_c, H5.out]
                    (try rw [E4.out])
                    (try rw [E2.out])
                    (try rw [EP.out])
                    (try rw [EN.out])
                    simp
                    (try omega)
              ·
                have EP := Lib.hid (cP_none hn)
                clear hn
                go_wp2_with fail
                go_quiet (fail)
                refine world_gen (SndR g m k j false V w) (hR1.below (bdrewN (Below.refl _ _) _)) ?_
                intro W hR
                clear hR1
                go_wp2_with fail
                refine (val2_any 7 8 (by decide) (by decide) (by decide) (by decide) (hR) (by simp)).mono ?_
                rintro e w1 ⟨hR1, hpost⟩
                clear hR
                rcases hpost with ⟨a, b, gb, cap, ua, ub, rfl, k0, k1⟩ | ⟨hn, rfl⟩
                ·
                  have EN := Lib.hid (cN_some ua ub)
                  clear ua ub
                  go_wp2_with fail
                  by_cases hq : b ≤ a
                  ·
                    go_quiet (fail)
                    clear k0 k1
                    refine world_gen (SndR g m k j false V w) (hR1.below (bdrewN (Below.refl _ _) _)) ?_
                    intro W hR
                    clear hR1
                    go_wp2
                    go_ret
                    refine ⟨ret_bool ?_, hR.bel⟩
                    rw [arith_c, H5.out]
                    (try rw [E4.out])
                    (try rw [E2.out])
                    (try rw [EP.out])
                    (try rw [EN.out])
                    simp
                    (try omega)
                  · have hq' : a < b := by omega
                    go_quiet (fail)
                    clear k0 k1
                    refine world_gen (SndR g m k j false V w) (hR1.below (bdrewN (Below.refl _ _) _)) ?_
                    intro W hR
                    clear hR1
                    go_wp2
                    go_ret
                    refine ⟨ret_bool ?_, hR.bel⟩
                    rw [arith_c, H5.out]
                    (try rw [E4.out])
                    (try rw [E2.out])
                    (try rw [EP.out])
                    (try rw [EN.out])
                    simp
                    (try omega)
                ·
                  have EN := Lib.hid (cN_none hn)
                  clear hn
                  go_wp2_with fail
                  go_quiet (fail)
                  refine world_gen (SndR g m k j false V w) (hR1.below (bdrewN (Below.refl _ _) _)) ?_
                  intro W hR
                  clear hR1
                  go_wp2
                  go_ret
                  refine ⟨ret_bool ?_, hR.bel⟩
                  rw [arith_c, H5.out]
                  (try rw [E4.out])
                  (try rw [E2.out])
                  (try rw [EP.out])
                  (try rw [EN.out])
                  simp
                  (try omega)
          · go_quiet (fail)
            clear k0 k1 k2 k3
            refine world_gen (SndR g m k j false V w) (hR1.below (bdrewN (Below.refl _ _) _)) ?_
            intro W hR
            clear hR1
            have hq' : ¬ d = (a - b) := by simpa using hq
            replace E4 : Hid (c4 (U1 V) = false) := E4.out.trans (by simp; omega)
            go_wp2
            go_ret
            refine ⟨ret_bool ?_, hR.bel⟩
            rw [arith_c, H5.out]
            (try rw [E4.out])
            (try rw [E2.out])
            (try rw [EP.out])
            (try rw [EN.out])
            simp
            (try omega)
      ·
        have E4 := Lib.hid (c4_none hn)
        clear hn
        go_wp2_with fail
        go_quiet (fail)
        refine world_gen (SndR g m k j false V w) (hR1.below (bdrewN (Below.refl _ _) _)) ?_
        intro W hR
        clear hR1
        go_wp2_with fail
        refine (val2_any 1 6 (by decide) (by decide) (by decide) (by decide) (hR) (by simp)).mono ?_
        rintro e w1 ⟨hR1, hpost⟩
        clear hR
        rcases hpost with ⟨a, b, gb, cap, ua, ub, rfl, k0, k1⟩ | ⟨hn, rfl⟩
        ·
          have E2 := Lib.hid (c2_some ua ub)
          clear ua ub
          go_wp2_with fail
          by_cases hq : a < b
          ·
            go_quiet (fail)
            clear k0 k1
            refine world_gen (SndR g m k j false V w) (hR1.below (bdrewN (Below.refl _ _) _)) ?_
            intro W hR
            clear hR1
            go_wp2
            go_ret
            refine ⟨ret_bool ?_, hR.bel⟩
            rw [arith_c, H5.out]
            (try rw [E4.out])
            (try rw [E2.out])
            (try rw [EP.out])
            (try rw [EN.out])
            simp
            (try omega)
          · have hq' : b ≤ a := by omega
            go_quiet (fail)
            clear k0 k1
            refine world_gen (SndR g m k j false V w) (hR1.below (bdrewN (Below.refl _ _) _)) ?_
            intro W hR
            clear hR1
            go_wp2_with fail
            refine (val2_any 4 2 (by decide) (by decide) (by decide) (by decide) (hR) (by simp)).mono ?_
            rintro e w1 ⟨hR1, hpost⟩
            clear hR
            rcases hpost with ⟨a, b, gb, cap, ua, ub, rfl, k0, k1⟩ | ⟨hn, rfl⟩
            ·
              have EP := Lib.hid (cP_some ua ub)
              clear ua ub
              go_wp2_with fail
              by_cases hq : b < a
              ·
                go_quiet (fail)
                clear k0 k1
                refine world_gen (SndR g m k j false V w) (hR1.below (bdrewN (Below.refl _ _) _)) ?_
                intro W hR
                clear hR1
                go_wp2
                go_ret
                refine ⟨ret_bool ?_, hR.bel⟩
                rw [arith_c, H5.out]
                (try rw [E4.out])
                (try rw [E2.out])
                (try rw [EP.out])
                (try rw [EN.out])
                simp
                (try omega)
              · have hq' : a ≤ b := by omega
                go_quiet (fail)
                clear k0 k1
                refine world_gen (SndR g m k j false V w) (hR1.below (bdrewN (Below.refl _ _) _)) ?_
                intro W hR
                clear hR1
                go_wp2_with fail
                refine (val2_any 7 8 (by decide) (by decide) (by decide) (by decide) (hR) (by simp)).mono ?_
                rintro e w1 ⟨hR1, hpost⟩
                clear hR
                rcases hpost with ⟨a, b, gb, cap, ua, ub, rfl, k0, k1⟩ | ⟨hn, rfl⟩
                ·
                  have EN := Lib.hid (cN_some ua ub)
                  clear ua ub
                  go_wp2_with fail
                  by_cases hq : b ≤ a
                  ·
                    go_quiet (fail)
                    clear k0 k1
                    refine world_gen (SndR g m k j false V w) (hR1.below (bdrewN (Below.refl _ _) _)) ?_
                    intro W hR
                    clear hR1
                    go_wp2
                    go_ret
                    refine ⟨ret_bool ?_, hR.bel⟩
                    rw [arith_c, H5.out]
                    (try rw [E4.out])
                    (try rw [E2.out])
                    (try rw [EP.out])
                    (try rw [EN.out])
                    simp
                    (try omega)
                  · have hq' : a < b := by omega
                    go_quiet (fail)
                    clear k0 k1
                    refine world_gen (SndR g m k j false V w) (hR1.below (bdrewN (Below.refl _ _) _)) ?_
                    intro W hR
                    clear hR1
                    go_wp2
                    go_ret
                    refine ⟨ret_bool ?_, hR.bel⟩
                    rw [arith_c, H5.out]
                    (try rw [E4.out])
                    (try rw [E2.out])
                    (try rw [EP.out])
                    (try rw [EN.out])
                    simp
                    (try omega)
                ·
                  have EN := Lib.hid (cN_none hn)
                  clear hn
                  go_wp2_with fail
                  go_quiet (fail)
                  refine world_gen (SndR g m k j false V w) (hR1.below (bdrewN (Below.refl _ _) _)) ?_
                  intro W hR
                  clear hR1
                  go_wp2
                  go_ret
                  refine ⟨ret_bool ?_, hR.bel⟩
                  rw [arith_c, H5.out]
                  (try rw [E4.out])
                  (try rw [E2.out])
                  (try rw [EP.out])
                  (try rw [EN.out])
                  simp
                  (try omega)
            ·
              have EP := Lib.hid (cP_none hn)
              clear hn
              go_wp2_with fail
              go_quiet (fail)
              refine world_gen (SndR g m k j false V w) (hR1.below (bdrewN (Below.refl _ _) _)) ?_
              intro W hR
              clear hR1
              go_wp2_with fail
              refine (val2_any 7 8 (by decide) (by decide) (by decide) (by decide) (hR) (by simp)).mono ?_
              rintro e w1 ⟨hR1, hpost⟩
              clear hR
              rcases hpost with ⟨a, b, gb, cap, ua, ub, rfl, k0, k1⟩ | ⟨hn, rfl⟩
              ·
                have EN := Lib.hid (cN_some ua ub)
                clear ua ub
                go_wp2_with fail
                by_cases hq : b ≤ a
                ·
                  go_quiet (fail)
                  clear k0 k1
                  refine world_gen (SndR g m k j false V w) (hR1.below (bdrewN (Below.refl _ _) _)) ?_
                  intro W hR
                  clear hR1
                  go_wp2
                  go_ret
                  refine ⟨ret_bool ?_, hR.bel⟩
                  rw [arith_c, H5.out]
                  (try rw [E4.out])
                  (try rw [E2.out])
                  (try rw [EP.out])
                  (try rw [EN.out])
                  simp
                  (try omega)
                · have hq' : a < b := by omega
                  go_quiet (fail)
                  clear k0 k1
                  refine world_gen (SndR g m k j false V w) (hR1.below (bdrewN (Below.refl _ _) _)) ?_
                  intro W hR
                  clear hR1
                  go_wp2
                  go_ret
                  refine ⟨ret_bool ?_, hR.bel⟩
                  rw [arith_c, H5.out]
                  (try rw [E4.out])
                  (try rw [E2.out])
                  (try rw [EP.out])
                  (try rw [EN.out])
                  simp
                  (try omega)
              ·
                have EN := Lib.hid (cN_none hn)
                clear hn
                go_wp2_with fail
                go_quiet (fail)
                refine world_gen (SndR g m k j false V w) (hR1.below (bdrewN (Below.refl _ _) _)) ?_
                intro W hR
                clear hR1
                go_wp2
                go_ret
                refine ⟨ret_bool ?_, hR.bel⟩
                rw [arith_c, H5.out]
                (try rw [E4.out])
                (try rw [E2.out])
                (try rw [EP.out])
                (try rw [EN.out])
                simp
                (try omega)
        ·
          have E2 := Lib.hid (c2_none hn)
          clear hn
          go_wp2_with fail
          go_quiet (fail)
          refine world_gen (SndR g m k j false V w) (hR1.below (bdrewN (Below.refl _ _) _)) ?_
          intro W hR
          clear hR1
          go_wp2_with fail
          refine (val2_any 4 2 (by decide) (by decide) (by decide) (by decide) (hR) (by simp)).mono ?_
          rintro e w1 ⟨hR1, hpost⟩
          clear hR
          rcases hpost with ⟨a, b, gb, cap, ua, ub, rfl, k0, k1⟩ | ⟨hn, rfl⟩
          ·
            have EP := Lib.hid (cP_some ua ub)
            clear ua ub
            go_wp2_with fail
            by_cases hq : b < a
            ·
              go_quiet (fail)
              clear k0 k1
              refine world_gen (SndR g m k j false V w) (hR1.below (bdrewN (Below.refl _ _) _)) ?_
              intro W hR
              clear hR1
              go_wp2
              go_ret
              refine ⟨ret_bool ?_, hR.bel⟩
              rw [arith_c, H5.out]
              (try rw [E4.out])
              (try rw [E2.out])
              (try rw [EP.out])
              (try rw [EN.out])
              simp
              (try omega)
            · have hq' : a ≤ b := by omega
              go_quiet (fail)
              clear k0 k1
              refine world_gen (SndR g m k j false V w) (hR1.below (bdrewN (Below.refl _ _) _)) ?_
              intro W hR
              clear hR1
              go_wp2_with fail
              refine (val2_any 7 8 (by decide) (by decide) (by decide) (by decide) (hR) (by simp)).mono ?_
              rintro e w1 ⟨hR1, hpost⟩
              clear hR
              rcases hpost with ⟨a, b, gb, cap, ua, ub, rfl, k0, k1⟩ | ⟨hn, rfl⟩
              ·
                have EN := Lib.hid (cN_some ua ub)
                clear ua ub
                go_wp2_with fail
                by_cases hq : b ≤ a
                ·
                  go_quiet (fail)
                  clear k0 k1
                  refine world_gen (SndR g m k j false V w) (hR1.below (bdrewN (Below.refl _ _) _)) ?_
                  intro W hR
                  clear hR1
                  go_wp2
                  go_ret
                  refine ⟨ret_bool ?_, hR.bel⟩
                  rw [arith_c, H5.out]
                  (try rw [E4.out])
                  (try rw [E2.out])
                  (try rw [EP.out])
                  (try rw [EN.out])
                  simp
                  (try omega)
                · have hq' : a < b := by omega
                  go_quiet (fail)
                  clear k0 k1
                  refine world_gen (SndR g m k j false V w) (hR1.below (bdrewN (Below.refl _ _) _)) ?_
                  intro W hR
                  clear hR1
                  go_wp2
                  go_ret
                  refine ⟨ret_bool ?_, hR.bel⟩
                  rw [arith_c, H5.out]
                  (try rw [E4.out])
                  (try rw [E2.out])
                  (try rw [EP.out])
                  (try rw [EN.out])
                  simp
                  (try omega)
              ·
                have EN := Lib.hid (cN_none hn)
                clear hn
                go_wp2_with fail
                go_quiet (fail)
                refine world_gen (SndR g m k j false V w) (hR1.below (bdrewN (Below.refl _ _) _)) ?_
                intro W hR
                clear hR1
                go_wp2
                go_ret
                refine ⟨ret_bool ?_, hR.bel⟩
                rw [arith_c, H5.out]
                (try rw [E4.out])
                (try rw [E2.out])
                (try rw [EP.out])
                (try rw [EN.out])
                simp
                (try omega)
          ·
            have EP := Lib.hid (cP_none hn)
            clear hn
            go_wp2_with fail
            go_quiet (fail)
            refine world_gen (SndR g m k j false V w) (hR1.below (bdrewN (Below.refl _ _) _)) ?_
            intro W hR
            clear hR1
            go_wp2_with fail
            refine (val2_any 7 8 (by decide) (by decide) (by decide) (by decide) (hR) (by simp)).mono ?_
            rintro e w1 ⟨hR1, hpost⟩
            clear hR
            rcases hpost with ⟨a, b, gb, cap, ua, ub, rfl, k0, k1⟩ | ⟨hn, rfl⟩
            ·
              have EN := Lib.hid (cN_some ua ub)
              clear ua ub
              go_wp2_with fail
              by_cases hq : b ≤ a
              ·
                go_quiet (fail)
                clear k0 k1
                refine world_gen (SndR g m k j false V w) (hR1.below (bdrewN (Below.refl _ _) _)) ?_
                intro W hR
                clear hR1
                go_wp2
                go_ret
                refine ⟨ret_bool ?_, hR.bel⟩
                rw [arith_c, H5.out]
                (try rw [E4.out])
                (try rw [E2.out])
                (try rw [EP.out])
                (try rw [EN.out])
                simp
                (try omega)
              · have hq' : a < b := by omega
                go_quiet (fail)
                clear k0 k1
                refine world_gen (SndR g m k j false V w) (hR1.below (bdrewN (Below.refl _ _) _)) ?_
                intro W hR
                clear hR1
                go_wp2
                go_ret
                refine ⟨ret_bool ?_, hR.bel⟩
                rw [arith_c, H5.out]
                (try rw [E4.out])
                (try rw [E2.out])
                (try rw [EP.out])
                (try rw [EN.out])
                simp
                (try omega)
            ·
              have EN := Lib.hid (cN_none hn)
              clear hn
              go_wp2_with fail
              go_quiet (fail)
              refine world_gen (SndR g m k j false V w) (hR1.below (bdrewN (Below.refl _ _) _)) ?_
              intro W hR
              clear hR1
              go_wp2
              go_ret
              refine ⟨ret_bool ?_, hR.bel⟩
              rw [arith_c, H5.out]
              (try rw [E4.out])
              (try rw [E2.out])
              (try rw [EP.out])
              (try rw [EN.out])
              simp
              (try omega)
    · rw [h5] at hl5
      have H5 := Lib.hid h5
      clear h5 hg hm
      go_enter Try.func20, Try.ntmps20
      go_wp2_with fail
      refine (val2_any 4 2 (by decide) (by decide) (by decide) (by decide) (hR.alloc _) (by simp)).mono ?_
      rintro e w1 ⟨hR1, hpost⟩
      clear hR
      rcases hpost with ⟨a, b, gb, cap, ua, ub, rfl, k0, k1⟩ | ⟨hn, rfl⟩
      ·
        have EP := Lib.hid (cP_some ua ub)
        clear ua ub
        go_wp2_with fail
        by_cases hq : b < a
        ·
          go_quiet (fail)
          clear k0 k1
          refine world_gen (SndR g m k j false V w) (hR1.below (bdrewN (Below.refl _ _) _)) ?_
          intro W hR
          clear hR1
          go_wp2
          go_ret
          refine ⟨ret_bool ?_, hR.bel⟩
          rw [arith_c, H5.out]
          (try rw [E4.out])
          (try rw [E2.out])
          (try rw [EP.out])
          (try rw [EN.out])
          simp
          (try omega)
        · have hq' : a ≤ b := by omega
          go_quiet (fail)
          clear k0 k1
          refine world_gen (SndR g m k j false V w) (hR1.below (bdrewN (Below.refl _ _) _)) ?_
          intro W hR
          clear hR1
          go_wp2_with fail
          refine (val2_any 7 8 (by decide) (by decide) (by decide) (by decide) (hR) (by simp)).mono ?_
          rintro e w1 ⟨hR1, hpost⟩
          clear hR
          rcases hpost with ⟨a, b, gb, cap, ua, ub, rfl, k0, k1⟩ | ⟨hn, rfl⟩
          ·
            have EN := Lib.hid (cN_some ua ub)
            clear ua ub
            go_wp2_with fail
            by_cases hq : b ≤ a
            ·
              go_quiet (fail)
              clear k0 k1
              refine world_gen (SndR g m k j false V w) (hR1.below (bdrewN (Below.refl _ _) _)) ?_
              intro W hR
              clear hR1
              go_wp2
              go_ret
              refine ⟨ret_bool ?_, hR.bel⟩
              rw [arith_c, H5.out]
              (try rw [E4.out])
              (try rw [E2.out])
              (try rw [EP.out])
              (try rw [EN.out])
              simp
              (try omega)
            · have hq' : a < b := by omega
              go_quiet (fail)
              clear k0 k1
              refine world_gen (SndR g m k j false V w) (hR1.below (bdrewN (Below.refl _ _) _)) ?_
              intro W hR
              clear hR1
              go_wp2
              go_ret
              refine ⟨ret_bool ?_, hR.bel⟩
              rw [arith_c, H5.out]
              (try rw [E4.out])
              (try rw [E2.out])
              (try rw [EP.out])
              (try rw [EN.out])
              simp
              (try omega)
          ·
            have EN := Lib.hid (cN_none hn)
            clear hn
            go_wp2_with fail
            go_quiet (fail)
            refine world_gen (SndR g m k j false V w) (hR1.below (bdrewN (Below.refl _ _) _)) ?_
            intro W hR
            clear hR1
            go_wp2
            go_ret
            refine ⟨ret_bool ?_, hR.bel⟩
            rw [arith_c, H5.out]
            (try rw [E4.out])
            (try rw [E2.out])
            (try rw [EP.out])
            (try rw [EN.out])
            simp
            (try omega)
      ·
        have EP := Lib.hid (cP_none hn)
        clear hn
        go_wp2_with fail
        go_quiet (fail)
        refine world_gen (SndR g m k j false V w) (hR1.below (bdrewN (Below.refl _ _) _)) ?_
        intro W hR
        clear hR1
        go_wp2_with fail
        refine (val2_any 7 8 (by decide) (by decide) (by decide) (by decide) (hR) (by simp)).mono ?_
        rintro e w1 ⟨hR1, hpost⟩
        clear hR
        rcases hpost with ⟨a, b, gb, cap, ua, ub, rfl, k0, k1⟩ | ⟨hn, rfl⟩
        ·
          have EN := Lib.hid (cN_some ua ub)
          clear ua ub
          go_wp2_with fail
          by_cases hq : b ≤ a
          ·
            go_quiet (fail)
            clear k0 k1
            refine world_gen (SndR g m k j false V w) (hR1.below (bdrewN (Below.refl _ _) _)) ?_
            intro W hR
            clear hR1
            go_wp2
            go_ret
            refine ⟨ret_bool ?_, hR.bel⟩
            rw [arith_c, H5.out]
            (try rw [E4.out])
            (try rw [E2.out])
            (try rw [EP.out])
            (try rw [EN.out])
            simp
            (try omega)
          · have hq' : a < b := by omega
            go_quiet (fail)
            clear k0 k1
            refine world_gen (SndR g m k j false V w) (hR1.below (bdrewN (Below.refl _ _) _)) ?_
            intro W hR
            clear hR1
            go_wp2
            go_ret
            refine ⟨ret_bool ?_, hR.bel⟩
            rw [arith_c, H5.out]
            (try rw [E4.out])
            (try rw [E2.out])
            (try rw [EP.out])
            (try rw [EN.out])
            simp
            (try omega)
        ·
          have EN := Lib.hid (cN_none hn)
          clear hn
          go_wp2_with fail
          go_quiet (fail)
          refine world_gen (SndR g m k j false V w) (hR1.below (bdrewN (Below.refl _ _) _)) ?_
          intro W hR
          clear hR1
          go_wp2
          go_ret
          refine ⟨ret_bool ?_, hR.bel⟩
          rw [arith_c, H5.out]
          (try rw [E4.out])
          (try rw [E2.out])
          (try rw [EP.out])
          (try rw [EN.out])
          simp
          (try omega)
  · go_enter Try.func20, Try.ntmps20
    go_wp2
    go_ret
    exact ⟨rfl, Below.refl _ _⟩
end Go.Proofs.Ytnlcgiemhegmcaa
