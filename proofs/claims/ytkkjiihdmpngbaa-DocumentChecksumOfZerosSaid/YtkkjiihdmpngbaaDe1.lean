/-
  Contracts: validBody and Valid of the document, body and ValidDocument of the reference.
-/
import Derived.Test.YtkkjiihdmpngbaaDp1
import Derived.Outline
namespace Go.Proofs.Ytkkjiihdmpngbaa
open Go.RowKit
set_option linter.unusedVariables false

theorem body_fact (s : Int) (l : List UInt8) : bodyB 1 s l = (fcOk l && ((fcR l).iss == s)) := rfl
theorem body_claim (s : Int) (l : List UInt8) : bodyB 2 s l = (claimOk l && (claimI0 l == s)) := rfl
theorem body_request (s : Int) (l : List UInt8) : bodyB 3 s l = requestOk l := rfl
theorem body_remittance (s : Int) (l : List UInt8) : bodyB 4 s l = (remittanceOk l && !(remittanceI0 l == s)) := rfl
theorem body_notice (s : Int) (l : List UInt8) : bodyB 5 s l = noticeOk l := rfl
theorem body_none (k s : Int) (l : List UInt8) (h1 : ¬ k = 1) (h2 : ¬ k = 2) (h3 : ¬ k = 3) (h4 : ¬ k = 4) (h5 : ¬ k = 5) : bodyB k s l = false := by simp [bodyB, h1, h2, h3, h4, h5]
/-- A document as a value. -/
def docV (s n k p : Int) (v : Value) : Array Value := #[.int .i64 s, .int .i64 n, .int .i64 k, .int .u32 p, v]


set_option maxRecDepth 100000 in
set_option maxHeartbeats 4000000 in
theorem vbody_any (s n k p : Int) (v : Value) (l : List UInt8) (w : World) (hsl : Sl w.heap.size w v l) (hl : l.length ≤ 4611686018427387904) :
    Calls Try.prog 58 #[.agg (docV s n k p v)] w fun e w' => e = .returned (.bool (bodyB k s l)) ∧ Below w.heap.size w w' := by
  obtain ⟨a, c, hv, hc, hx⟩ := id hsl
  subst hv
  clear hx
  simp only [docV]
  have hbel : Below w.heap.size w (w.alloc (.cells #[.int .i64 s, .int .i64 n, .int .i64 k, .int .u32 p, .slice a l.length c] 34)) := (Below.refl _ _).alloc (Nat.le_refl _) _
  have HSL := Lib.hid ((hsl.below hbel).mono hbel.size)
  have hbox0 := BlkIs.new w 34 #[.int .i64 s, .int .i64 n, .int .i64 k, .int .u32 p, .slice a l.length c]
  by_cases h1 : k = 1
  · subst h1
    have HO := Lib.hid (body_fact s l)
    go_enter Try.func58, Try.ntmps58
    go_wp2_with fail
    refine (takefact_any _ l _ HSL.out hl).mono ?_
    rintro e w1 ⟨rfl, hb1⟩
    have hcl := And.intro (hbox0.below hb1 hbox0.lt).cell (hbox0.below hb1 hbox0.lt).lt
    replace hbel := bnext hbel hb1
    clear hb1
    generalize fcR l = F at *
    obtain ⟨g0, g1, g2, g3, g4, g5, g6, g7, g8, g9, g10, g11, g12, g13⟩ := F
    simp only [fcells]
    rcases hok : fcOk l with _ | _
    all_goals
      rw [hok] at HO
      clear hok
      go_wp2
      go_ret
      refine ⟨ret_bool ?_, hbel.alloc hbel.size _⟩
      rw [HO.out]
      go_light
      first | (simp; done) | (simp; rfl)
  by_cases h2 : k = 2
  · subst h2
    have HO := Lib.hid (body_claim s l)
    go_enter Try.func58, Try.ntmps58
    go_wp2_with fail
    refine (takeClaim_any _ l _ HSL.out).mono ?_
    rintro e w1 ⟨rfl, hb1⟩
    have hcl := And.intro (hbox0.below hb1 hbox0.lt).cell (hbox0.below hb1 hbox0.lt).lt
    replace hbel := bnext hbel hb1
    clear hb1
    rcases hok : claimOk l with _ | _
    all_goals
      rw [hok] at HO
      clear hok
      generalize claimI0 l = g0 at *
      go_wp2
      go_ret
      refine ⟨ret_bool ?_, hbel.alloc hbel.size _⟩
      rw [HO.out]
      go_light
      first | (simp; done) | (simp; rfl)
  by_cases h3 : k = 3
  · subst h3
    have HO := Lib.hid (body_request s l)
    go_enter Try.func58, Try.ntmps58
    go_wp2_with fail
    refine (takeRequest_any _ l _ HSL.out).mono ?_
    rintro e w1 ⟨rfl, hb1⟩
    replace hbel := bnext hbel hb1
    clear hb1
    go_wp2
    go_ret
    exact ⟨ret_bool HO.out.symm, hbel.alloc hbel.size _⟩
  by_cases h4 : k = 4
  · subst h4
    have HO := Lib.hid (body_remittance s l)
    go_enter Try.func58, Try.ntmps58
    go_wp2_with fail
    refine (takeRemittance_any _ l _ HSL.out).mono ?_
    rintro e w1 ⟨rfl, hb1⟩
    have hcl := And.intro (hbox0.below hb1 hbox0.lt).cell (hbox0.below hb1 hbox0.lt).lt
    replace hbel := bnext hbel hb1
    clear hb1
    rcases hok : remittanceOk l with _ | _
    all_goals
      rw [hok] at HO
      clear hok
      generalize remittanceI0 l = g0 at *
      go_wp2
      go_ret
      refine ⟨ret_bool ?_, hbel.alloc hbel.size _⟩
      rw [HO.out]
      go_light
      first | (simp; done) | (simp; rfl)
  by_cases h5 : k = 5
  · subst h5
    have HO := Lib.hid (body_notice s l)
    go_enter Try.func58, Try.ntmps58
    go_wp2_with fail
    refine (takeNotice_any _ l _ HSL.out).mono ?_
    rintro e w1 ⟨rfl, hb1⟩
    replace hbel := bnext hbel hb1
    clear hb1
    go_wp2
    go_ret
    exact ⟨ret_bool HO.out.symm, hbel.alloc hbel.size _⟩
  have HO := Lib.hid (body_none k s l h1 h2 h3 h4 h5)
  go_enter Try.func58, Try.ntmps58
  go_wp2
  go_ret
  exact ⟨ret_bool HO.out.symm, hbel⟩
set_option maxRecDepth 100000 in
set_option maxHeartbeats 4000000 in
theorem rbody_any (k s : Int) (v : Value) (l : List UInt8) (w : World) (hsl : Sl w.heap.size w v l) (hl : l.length ≤ 4611686018427387904) :
    Calls Try.prog 60 #[.int .i64 k, .int .i64 s, v] w fun e w' => e = .returned (.bool (bodyB k s l)) ∧ Below w.heap.size w w' := by
  obtain ⟨a, c, hv, hc, hx⟩ := id hsl
  subst hv
  clear hx
  have hbel : Below w.heap.size w w := Below.refl _ _
  have HSL := Lib.hid hsl
  by_cases h1 : k = 1
  · subst h1
    have HO := Lib.hid (body_fact s l)
    go_enter Try.func60, Try.ntmps60
    go_wp2_with fail
    refine (rtakefact_any _ l _ HSL.out hl).mono ?_
    rintro e w1 ⟨rfl, hb1⟩
    skip
    replace hbel := bnext hbel hb1
    clear hb1
    generalize fcR l = F at *
    obtain ⟨g0, g1, g2, g3, g4, g5, g6, g7, g8, g9, g10, g11, g12, g13⟩ := F
    simp only [fcells]
    rcases hok : fcOk l with _ | _
    all_goals
      rw [hok] at HO
      clear hok
      go_wp2
      go_ret
      refine ⟨ret_bool ?_, hbel.alloc hbel.size _⟩
      rw [HO.out]
      go_light
      first | (simp; done) | (simp; rfl)
  by_cases h2 : k = 2
  · subst h2
    have HO := Lib.hid (body_claim s l)
    go_enter Try.func60, Try.ntmps60
    go_wp2_with fail
    refine (rtakeClaim_any _ l _ HSL.out).mono ?_
    rintro e w1 ⟨rfl, hb1⟩
    skip
    replace hbel := bnext hbel hb1
    clear hb1
    rcases hok : claimOk l with _ | _
    all_goals
      rw [hok] at HO
      clear hok
      generalize claimI0 l = g0 at *
      go_wp2
      go_ret
      refine ⟨ret_bool ?_, hbel.alloc hbel.size _⟩
      rw [HO.out]
      go_light
      first | (simp; done) | (simp; rfl)
  by_cases h3 : k = 3
  · subst h3
    have HO := Lib.hid (body_request s l)
    go_enter Try.func60, Try.ntmps60
    go_wp2_with fail
    refine (rtakeRequest_any _ l _ HSL.out).mono ?_
    rintro e w1 ⟨rfl, hb1⟩
    replace hbel := bnext hbel hb1
    clear hb1
    go_wp2
    go_ret
    exact ⟨ret_bool HO.out.symm, hbel.alloc hbel.size _⟩
  by_cases h4 : k = 4
  · subst h4
    have HO := Lib.hid (body_remittance s l)
    go_enter Try.func60, Try.ntmps60
    go_wp2_with fail
    refine (rtakeRemittance_any _ l _ HSL.out).mono ?_
    rintro e w1 ⟨rfl, hb1⟩
    skip
    replace hbel := bnext hbel hb1
    clear hb1
    rcases hok : remittanceOk l with _ | _
    all_goals
      rw [hok] at HO
      clear hok
      generalize remittanceI0 l = g0 at *
      go_wp2
      go_ret
      refine ⟨ret_bool ?_, hbel.alloc hbel.size _⟩
      rw [HO.out]
      go_light
      first | (simp; done) | (simp; rfl)
  by_cases h5 : k = 5
  · subst h5
    have HO := Lib.hid (body_notice s l)
    go_enter Try.func60, Try.ntmps60
    go_wp2_with fail
    refine (rtakeNotice_any _ l _ HSL.out).mono ?_
    rintro e w1 ⟨rfl, hb1⟩
    replace hbel := bnext hbel hb1
    clear hb1
    go_wp2
    go_ret
    exact ⟨ret_bool HO.out.symm, hbel.alloc hbel.size _⟩
  have HO := Lib.hid (body_none k s l h1 h2 h3 h4 h5)
  go_enter Try.func60, Try.ntmps60
  go_wp2
  go_ret
  exact ⟨ret_bool HO.out.symm, hbel⟩
end Go.Proofs.Ytkkjiihdmpngbaa
