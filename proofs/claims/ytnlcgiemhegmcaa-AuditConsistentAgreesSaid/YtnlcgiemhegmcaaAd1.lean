/-
  Contracts: Mod, Amount, a fraction in lowest terms, a fraction from 0 to 1, lines of an explanation. No conditions beyond the machine's ranges.
-/
import Derived.Test.YtnlcgiemhegmcaaAc4
import Derived.Outline
import Derived.RegionTactic
namespace Go.Proofs.Ytnlcgiemhegmcaa
open Go.RowKit
set_option linter.unusedVariables false

theorem tmod_eq (n m : Int) (h : 0 < m) : n.tmod m = if 0 ≤ n ∨ n % m = 0 then n % m else n % m - m := by
  rw [Int.tmod_eq_emod]
  by_cases h0 : 0 ≤ n
  · simp [h0]
  · by_cases h1 : n % m = 0
    · have : m ∣ n := Int.dvd_of_emod_eq_zero h1
      simp [this, h1]
    · have : ¬ m ∣ n := fun hd => h1 (Int.emod_eq_zero_of_dvd hd)
      simp [h0, this, h1]
      omega
theorem tmod_lo (n m : Int) (h : 0 < m) : -m < n.tmod m ∧ n.tmod m < m := by
  rw [tmod_eq n m h]
  have h1 := Int.emod_nonneg n (show m ≠ 0 by omega)
  have h2 := Int.emod_lt_of_pos n h
  split <;> omega
theorem tmod_fix (n m : Int) (h : 0 < m) : (n.tmod m + m) % m = n % m := by
  rw [tmod_eq n m h]
  split
  · rw [Int.add_emod_right, Int.emod_emod]
  · rw [Int.sub_add_cancel, Int.emod_emod]

theorem emod_bd (n m : Int) (h : 0 < m) : 0 ≤ n % m ∧ n % m < m := ⟨Int.emod_nonneg n (by omega), Int.emod_lt_of_pos n h⟩

set_option maxHeartbeats 400000 in
theorem mod2_any (n m : Int) (w : World) (h0 : 1 ≤ m) (h1 : m ≤ 2000000000000) :
    Calls Try.prog 13 #[.int .i64 n, .int .i64 m] w fun e w' => e = .returned (.int .i64 (n % m)) ∧ w = w' := by
  have hb := tmod_lo n m (by omega)
  have H := Lib.hid (tmod_eq n m (by omega))
  have h3 := Int.emod_nonneg n (show m ≠ 0 by omega)
  have h4 := Int.emod_lt_of_pos n (show 0 < m by omega)
  obtain ⟨hb1, hb2⟩ := hb
  have hm0 : (m == 0) = false := beq_eq_false_iff_ne.2 (by omega)
  go_enter Try.func13, Try.ntmps13
  go_wp2
  all_goals
    go_ret
    refine ⟨ret_int ?_, rfl⟩
    go_light
    have h5 := H.out
    split at h5 <;> omega
/-- An amount. -/
def AmtPost (n : Int) (w : World) (e : Ending) (w' : World) : Prop := ∃ x : Int, e = .returned (.int .i64 x) ∧ 0 ≤ x ∧ x ≤ 1000000000000 ∧ (n = 0 → x = 0) ∧ w = w'
set_option maxHeartbeats 400000 in
theorem amount_any (n : Int) (w : World) (h1 : -9223372036854775808 ≤ n) (h2 : n ≤ 9223372036854775807) :
    Calls Try.prog 14 #[.int .i64 n] w (AmtPost n w) := by
  have b1 := fun x : Int => emod_bd x 1000 (by omega)
  have b2 := fun x : Int => emod_bd x 1000000000001 (by omega)
  have b3 := fun x : Int => emod_bd x 5000 (by omega)
  have B1 := Lib.hid b1
  have B2 := Lib.hid b2
  have B3 := Lib.hid b3
  clear b1 b2 b3
  obtain ⟨q1, q2⟩ := emod_bd n 8 (by omega)
  have HN : Hid (n = 0 → n % 8 = 0) := by intro h; subst h; rfl
  go_enter Try.func14, Try.ntmps14
  go_wp2_with fail
  refine (mod2_any n 8 _ (by omega) (by omega)).mono ?_
  rintro e w' ⟨rfl, rfl⟩
  generalize n % 8 = r at *
  by_cases r0 : r = 0
  · subst r0
    go_wp2
    go_ret
    exact ⟨0, rfl, by omega, by omega, fun _ => rfl, rfl⟩
  by_cases r1 : r = 1
  · subst r1
    go_wp2_with fail
    refine (mod2_any _ 1000 _ (by omega) (by omega)).mono ?_
    rintro e w' ⟨rfl, rfl⟩
    have hb := B1.out (n.tdiv 8)
    generalize n.tdiv 8 % 1000 = y at *
    obtain ⟨y1, y2⟩ := hb
    go_wp2
    go_ret
    exact ⟨1000000000000 - y, rfl, by omega, by omega, (fun h => by have := HN.out h; omega), rfl⟩
  by_cases r2 : r = 2
  · subst r2
    go_wp2_with fail
    refine (mod2_any _ 1000000000001 _ (by omega) (by omega)).mono ?_
    rintro e w' ⟨rfl, rfl⟩
    have hb := B2.out (n.tdiv 8)
    generalize n.tdiv 8 % 1000000000001 = y at *
    obtain ⟨y1, y2⟩ := hb
    go_wp2
    go_ret
    exact ⟨y, rfl, by omega, by omega, (fun h => by have := HN.out h; omega), rfl⟩
  · have r3 : 3 ≤ r := by omega
    go_wp2_with fail
    refine (mod2_any _ 5000 _ (by omega) (by omega)).mono ?_
    rintro e w' ⟨rfl, rfl⟩
    have hb := B3.out (n.tdiv 8)
    generalize n.tdiv 8 % 5000 = y at *
    obtain ⟨y1, y2⟩ := hb
    go_wp2
    go_ret
    exact ⟨y, rfl, by omega, by omega, (fun h => by have := HN.out h; omega), rfl⟩

theorem results_cell1 {P : Program} {fn : Func} {p : Tmp} {ty : TypeId} (h : fn.results = #[.cell p ty]) (tmps : Array Value) (w : World) (g : Nat) (t : TypeId) (cs : Array Value) (fr : Nat × Nat) (d : TypeDesc)
    (hp : tmps.getD p undef = .pointer (some ⟨g, 0, none⟩)) (hg : w.heap[g]? = some (.cells cs t fr))
    (hu : P.underlying ty = some d) (hd : (match d with | .struct _ | .array _ _ => true | _ => false) = true) (hi : (P.info? ty).map (·.size) = some cs.size) :
    (results fn tmps).run P w = .ok (.agg cs) w := by
  have hp' : tmps[p]?.getD undef = .pointer (some ⟨g, 0, none⟩) := by simpa using hp
  simp [results, h, hp', asAddr, run_loadVar_row w g t ty cs fr d hg hu hd hi]
theorem info_line : (Try.prog.info? 36).map (·.size) = some 5 := by kernel_rfl

theorem whole_any (n : Int) (w : World) : Calls Try.prog 23 #[.int .i64 n] w fun e w' => e = .returned (.agg #[.int .i64 n, .int .i64 1]) ∧ Below w.heap.size w w' := by
  go_enter Try.func23, Try.ntmps23
  go_wp2
  refine bodyPost_ret (v := .agg #[.int .i64 n, .int .i64 1]) (results_cell1 Try.results23 _ _ w.heap.size 34 _ (0, 0) _ rfl (BlkIs.new w _ _) Try.underlying34 rfl info_frac) rfl ⟨rfl, (Below.refl _ _).alloc (Nat.le_refl _) _⟩
theorem line_any (it n d : Int) (w : World) : Calls Try.prog 22 #[.int .i64 it, .agg #[.int .i64 n, .int .i64 d]] w fun e w' => e = .returned (.agg (lcells 3 1 it n d)) ∧ Below w.heap.size w w' := by
  go_enter Try.func22, Try.ntmps22
  go_wp2
  refine bodyPost_ret (v := .agg (lcells 3 1 it n d)) (results_cell1 Try.results22 _ _ (w.heap.size + 1) 36 _ (0, 0) _ rfl (BlkIs.newAt _ _ _ _ (by simp)) Try.underlying36 rfl info_line) rfl ⟨rfl, ((Below.refl _ _).alloc (Nat.le_refl _) _).alloc (by simp) _⟩

set_option maxHeartbeats 1000000 in
theorem fraction_any (n d : Nat) (w : World) (hn : 1 ≤ n ∧ n ≤ 1000) (hd : 1 ≤ d ∧ d ≤ 1000) :
    Calls Try.prog 24 #[.int .i64 (n : Int), .int .i64 (d : Int)] w fun e w' => e = .returned (.agg #[.int .i64 ((n / Nat.gcd n d : Nat) : Int), .int .i64 ((d / Nat.gcd n d : Nat) : Int)]) ∧ Below w.heap.size w w' := by
  obtain ⟨n1, n2⟩ := hn
  obtain ⟨d1, d2⟩ := hd
  go_enter Try.func24, Try.ntmps24
  go_wp2
  go_loopw [5, 6] (fun x y wr => ∃ a b : Nat, a ≤ 1000 ∧ b ≤ 1000 ∧ x = .int .i64 (a : Int) ∧ y = .int .i64 (b : Int) ∧ Hid (Nat.gcd a b = Nat.gcd n d) ∧ Below w.heap.size w wr ∧ BlkIs wr w.heap.size 34 #[.int .i64 0, .int .i64 0]) (fun _ y _ => (intOf y).toNat)
  case atStart => exact ⟨n, d, n2, d2, rfl, rfl, rfl, (Below.refl _ _).alloc (Nat.le_refl _) _, BlkIs.new w _ _⟩
  case round =>
    obtain ⟨a, b, ha, hb, rfl, rfl, hg, hbel, hblk⟩ := hrel
    by_cases hz : b = 0
    · subst hz
      have hga : a = Nat.gcd n d := by have := hg.out; simpa using this
      have hpos : 1 ≤ a := by rw [hga]; exact Nat.gcd_pos_of_pos_left _ (by omega)
      have ha0 : ((a : Int) == 0) = false := beq_eq_false_iff_ne.2 (by omega)
      have HGA := Lib.hid hga
      clear hga hg
      have f0 := hblk.frozen 0
      have f1 := hblk.frozen 1
      have c0 := hblk.cell 0
      have c1 := hblk.cell 1
      simp only [List.getElem?_toArray, List.getElem?_cons_zero, List.getElem?_cons_succ] at c0 c1
      have q1 : n / a ≤ n := Nat.div_le_self _ _
      have q2 : d / a ≤ d := Nat.div_le_self _ _
      have w1 : wrap64 ((n : Int) / (a : Int)) = ((n / a : Nat) : Int) := IntWalk.wrap64_in ((n / a : Nat) : Int) (by have h1 : (0 : Int) ≤ ((n / a : Nat) : Int) := Int.natCast_nonneg _; have h2 : ((n / a : Nat) : Int) ≤ (n : Int) := Int.ofNat_le.2 q1; omega)
      have w2 : wrap64 ((d : Int) / (a : Int)) = ((d / a : Nat) : Int) := IntWalk.wrap64_in ((d / a : Nat) : Int) (by have h1 : (0 : Int) ≤ ((d / a : Nat) : Int) := Int.natCast_nonneg _; have h2 : ((d / a : Nat) : Int) ≤ (d : Int) := Int.ofNat_le.2 q2; omega)
      go_wp2
      go_region
      rw [w1, w2]
      go_wp2
      rw [← HGA.out]
      refine bodyPost_ret (v := .agg #[.int .i64 ((n / a : Nat) : Int), .int .i64 ((d / a : Nat) : Int)]) (results_cell1 Try.results24 _ _ w.heap.size 34 _ (0, 0) _ rfl ((hblk.put 0 _).put 1 _).drew Try.underlying34 rfl info_frac) rfl ⟨rfl, ((hbel.setCell (by simp) _).setCell (by simp) _).drew⟩
    · have hb0 : ((b : Int) == 0) = false := beq_eq_false_iff_ne.2 (by omega)
      have hb2 : ((b : Int) != 0) = true := bne_iff_ne.2 (by omega)
      have hl : a % b < b := Nat.mod_lt _ (by omega)
      go_wp2
      go_quiet (fail)
      go_roundw
      case rel => exact ⟨_, _, _, _, _, _, _, _, ⟨b, a % b, hb, by omega, rfl, rfl, by show _ = _; rw [← hg.out, Nat.gcd_comm a b, Nat.gcd_rec b a, Nat.gcd_comm], bdrewN hbel _, hblk⟩, rfl⟩
      case measure => simp [intOf]; omega

def CutPost (w : World) (e : Ending) (w' : World) : Prop := ∃ n d : Int, e = .returned (.agg #[.int .i64 n, .int .i64 d]) ∧ 0 ≤ n ∧ n ≤ d ∧ vfB n d = true ∧ Below w.heap.size w w'
theorem vf_frac {n d : Nat} (hn : 1 ≤ n) (hd : 1 ≤ d) (h1 : n ≤ d) (h2 : d ≤ 12) : vfB ((n / Nat.gcd n d : Nat) : Int) ((d / Nat.gcd n d : Nat) : Int) = true ∧ n / Nat.gcd n d ≤ d / Nat.gcd n d := by
  have hg : 0 < Nat.gcd n d := Nat.gcd_pos_of_pos_left _ (by omega)
  have a1 : n / Nat.gcd n d ≤ n := Nat.div_le_self _ _
  have a2 : d / Nat.gcd n d ≤ d := Nat.div_le_self _ _
  have a3 : 1 ≤ d / Nat.gcd n d := Nat.div_pos (Nat.le_of_dvd (by omega) (Nat.gcd_dvd_right n d)) hg
  have a4 : Nat.gcd (n / Nat.gcd n d) (d / Nat.gcd n d) = 1 := Nat.coprime_div_gcd_div_gcd hg
  refine ⟨?_, Nat.div_le_div_right h1⟩
  generalize n / Nat.gcd n d = x at *
  generalize d / Nat.gcd n d = y at *
  simp only [vfB, Bool.and_eq_true, decide_eq_true_eq, beq_iff_eq, Int.natAbs_natCast]
  exact ⟨by omega, by omega, by omega, by omega, a4⟩
set_option maxHeartbeats 1000000 in
theorem cut_any (num den : Int) (w : World) : Calls Try.prog 18 #[.int .i64 num, .int .i64 den] w (CutPost w) := by
  obtain ⟨q1, q2⟩ := emod_bd den 12 (by omega)
  go_enter Try.func18, Try.ntmps18
  go_wp2_with fail
  refine (mod2_any _ 12 _ (by omega) (by omega)).mono ?_
  rintro e w' ⟨rfl, rfl⟩
  generalize den % 12 = r at *
  go_wp2_with fail
  obtain ⟨p1, p2⟩ := emod_bd num (1 + r + 1) (by omega)
  refine (mod2_any num (1 + r + 1) _ (by omega) (by omega)).mono ?_
  rintro e w' ⟨rfl, rfl⟩
  generalize num % (1 + r + 1) = m at *
  have hB : Below w.heap.size w (w.alloc (.cells #[.int .i64 0, .int .i64 0] 34)) := (Below.refl _ _).alloc (Nat.le_refl _) _
  by_cases hm : m = 0
  · subst hm
    go_wp2
    exact bodyPost_ret (v := .agg #[.int .i64 0, .int .i64 1]) (results_cell1 Try.results18 _ _ w.heap.size 34 _ (0, 0) _ rfl (BlkIs.new w _ _) Try.underlying34 rfl info_frac) rfl ⟨0, 1, rfl, by omega, by omega, rfl, (Below.refl _ _).alloc (Nat.le_refl _) _⟩
  · obtain ⟨mn, rfl⟩ := Int.eq_ofNat_of_zero_le p1
    obtain ⟨rn, rfl⟩ := Int.eq_ofNat_of_zero_le q1
    have hm0 : ((mn : Int) == 0) = false := beq_eq_false_iff_ne.2 (by omega)
    obtain ⟨v1, v2⟩ := vf_frac (n := mn) (d := 1 + rn) (by omega) (by omega) (by omega) (by omega)
    have V1 := Lib.hid v1
    have V2 := Lib.hid v2
    clear v1 v2
    go_wp2_with fail
    rw [show (1 : Int) + (rn : Int) = ((1 + rn : Nat) : Int) by omega]
    refine (fraction_any mn (1 + rn) _ (by omega) (by omega)).mono ?_
    rintro e w1 ⟨rfl, hb1⟩
    have hb2 := bnext hB hb1
    have hblk : BlkIs w1 w.heap.size 34 #[.int .i64 0, .int .i64 0] := (BlkIs.new w _ _).below hb1 (by simp)
    have f0 := hblk.frozen 0
    have f1 := hblk.frozen 1
    have c0 := hblk.cell 0
    have c1 := hblk.cell 1
    simp only [List.getElem?_toArray, List.getElem?_cons_zero, List.getElem?_cons_succ] at c0 c1
    have V2' := V2.out
    generalize mn / Nat.gcd mn (1 + rn) = x at *
    generalize (1 + rn) / Nat.gcd mn (1 + rn) = y at *
    clear hb1
    go_wp2
    exact bodyPost_ret (v := .agg #[.int .i64 (x : Int), .int .i64 (y : Int)]) (results_cell1 Try.results18 _ _ w.heap.size 34 _ (0, 0) _ rfl ((hblk.put 0 _).put 1 _) Try.underlying34 rfl info_frac) rfl ⟨x, y, rfl, by omega, by omega, V1.out, (hb2.setCell (by simp) _).setCell (by simp) _⟩
end Go.Proofs.Ytnlcgiemhegmcaa
