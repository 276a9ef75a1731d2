/-
  AuditConsistentAgrees: Consistent agrees with the reference, for any positions and for consistent ones. No conditions.
-/
import Derived.Test.YtnlcgiemhegmcaaAi1
import Derived.RegionTactic
import Derived.Deep.RegionWith
namespace Go.Proofs.Ytnlcgiemhegmcaa
open Go.ChangeShapes Go.WideShapes Go.ChangeAt Go.RowKit
set_option linter.unusedVariables false

def bigB (n : Int) : Bool := decide (n < -1000000000000000) || decide (1000000000000000 < n)
theorem bigB_no {n : Int} (h : bigB n = false) : -4000000000000000 ≤ n ∧ n ≤ 4000000000000000 := by
  simp [bigB] at h
  omega
theorem big_any (n : Int) (w : World) : Calls Try.prog 16 #[.int .i64 n] w fun e w' => e = .returned (.bool (bigB n)) ∧ w = w' := by
  unfold bigB
  go_enter Try.func16, Try.ntmps16
  go_wp2
  all_goals
    go_ret
    refine ⟨ret_bool ?_, rfl⟩
    (try simp_all) <;> (try (intros; omega))
theorem po_take {L : List Po} {n i : Nat} (h : i < n) : po (L.take n) i = po L i := by unfold po; simp [List.getD, h]

theorem room_at {w : World} {g n : Nat} {K : List Po} {W : World} (h : KR w g n K W) {m : Nat} (hm : m < n * 7) : ∃ u, W.cell? ⟨g, m, none⟩ = some u := Option.isSome_iff_exists.1 (h.room m hm)
set_option maxRecDepth 100000 in
set_option maxHeartbeats 4000000 in
theorem lca_a (L : List Po) (b o c : Nat) (at_ : Int) (w : World) (h20 : L.length ≤ 20) (hp : 0 < L.length) (hm : L.length ≤ 6)
    (hb : b < w.heap.size) (hcell : ∀ i, i < L.length → ∀ j, j < 7 → w.cell? ⟨b, o + i * 7 + j, none⟩ = (pcells (po L i))[j]?) (hc : L.length ≤ c)
    (hr : ∀ i, i < L.length → (-9223372036854775808 ≤ (po L i).d ∧ (po L i).d ≤ 9223372036854775807) ∧ (-9223372036854775808 ≤ (po L i).p ∧ (po L i).p ≤ 9223372036854775807)) :
    Calls Try.prog 6 #[.slice (some ⟨b, o, none⟩) L.length c, .int .i64 at_] w fun e w' => e = .returned (.bool true) ∧ Below w.heap.size w w' := by
  have HC := Lib.hid hcell
  have HR := Lib.hid hr
  clear hcell hr
  have hle : (L.length : Int) ≤ 20 := by omega
  have hdec : decide ((20 : Int) < (L.length : Int)) = false := by simp; omega
  have HT : Hid ((L.take L.length).length = L.length) := by show _ = _; simp; try omega
  have HCT : Hid (∀ i, i < (L.take L.length).length → ∀ j, j < 7 → w.cell? ⟨b, o + i * 7 + j, none⟩ = (pcells (po (L.take L.length) i))[j]?) := by
    intro i hi j hj
    rw [HT.out] at hi
    rw [po_take hi]
    exact HC.out i (by omega) j hj
  go_enter Try.func6, Try.ntmps6
  go_upto_region 4 with (at_builtin; go_loud (refine wpList_copyP (by rfl) _ _ (by rfl) _ (L.take L.length) (by rfl) b o c L.length (by rfl) HT.out HCT.out (by rw [HT.out]; omega) (by rw [HT.out]; omega) ?_); intro g cap w1 hcap hK)
  clear HT HCT
  go_wp2
  go_loopw [6] (fun t wr => ∃ (i : Nat) (Ks : List Po), i ≤ L.length ∧ t = .int .i64 (i : Int) ∧ Hid (Ks.length = i) ∧ KAll Ks ∧ KR w g L.length Ks wr) (fun t _ => L.length - (intOf t).toNat)
  case atStart => exact ⟨0, [], Nat.zero_le _, rfl, rfl, (fun j x hx => by simp at hx), hK⟩
  case round =>
    obtain ⟨i, Ks, hi, rfl, hKl, hKA, hKR⟩ := hrel
    have HKA := Lib.hid hKA
    clear hKA hK
    by_cases hlt : i < L.length
    · have hbel := hKR.bel
      have q2 := (hbel.cell (p := ⟨b, o + i * 7 + 2, none⟩) hb).trans (HC.out i (by omega) 2 (by omega))
      have q3 := (hbel.cell (p := ⟨b, o + i * 7 + 3, none⟩) hb).trans (HC.out i (by omega) 3 (by omega))
      have q4 := (hbel.cell (p := ⟨b, o + i * 7 + 4, none⟩) hb).trans (HC.out i (by omega) 4 (by omega))
      have q5 := (hbel.cell (p := ⟨b, o + i * 7 + 5, none⟩) hb).trans (HC.out i (by omega) 5 (by omega))
      simp only [pcells, List.getElem?_toArray, List.getElem?_cons_zero, List.getElem?_cons_succ] at q2 q3 q4 q5
      obtain ⟨⟨d1, d2⟩, p1, p2⟩ := HR.out i (by omega)
      generalize (po L i).d = ld at *
      generalize (po L i).p = lp at *
      generalize (po L i).t = lt at *
      generalize (po L i).r = lr at *
      have hil : i < L.length := by omega
      have m0 : IntKind.i64.wrap (2 * (i : Int)) = 2 * (i : Int) := IntWalk.i64_in _ (by omega)
      go_upto_region 7 with (fail)
      refine wp_region_ml [9, 15, 21, 27, 30] [0, 1, 2, 3, 4, 5, 6, 7, 8, 10, 11, 12, 13, 14, 16, 17, 18, 19, 20, 22, 23, 24, 25, 26, 9, 15, 21, 27, 28, 29, 30] w.heap.size (by kernel_rfl) (by kernel_rfl) rfl (by decide) (by kernel_rfl) (fun _ _ _ _ _ h => h) ?_
      simp only [marked, List.getElem?_cons_zero, List.getElem?_cons_succ, List.contains_cons, List.contains_nil, Nat.reduceBEq, Bool.or_false, Bool.or_true, BEq.rfl]
      replace hKR := hKR.below (Below.refl _ _).drew
      replace q2 : wr.drew.cell? ⟨b, o + i * 7 + 2, none⟩ = _ := q2
      replace q3 : wr.drew.cell? ⟨b, o + i * 7 + 3, none⟩ = _ := q3
      replace q4 : wr.drew.cell? ⟨b, o + i * 7 + 4, none⟩ = _ := q4
      replace q5 : wr.drew.cell? ⟨b, o + i * 7 + 5, none⟩ = _ := q5
      clear hbel
      generalize wr.drew = W1 at *
      repeat (refine ml_quiet ?_; go_big_quiet_step (fail); refine wpQuiet_nil ?_)
      refine ml_loud rfl ?_
      intro K hK
      go_simp
      go_at_call 14
      refine (amount_any _ _ (by omega) (by omega)).mono ?_
      rintro e w' ⟨xd, rfl, xd0, xd1, xdz, rfl⟩
      refine hK _ _ w.heap.size (Nat.le_refl _) (Below.refl _ _) ?_
      clear hK K xdz
      repeat (refine ml_quiet ?_; go_big_quiet_step (fail); refine wpQuiet_nil ?_)
      refine ml_loud rfl ?_
      intro K hK
      go_simp
      go_at_call 14
      refine (amount_any _ _ (by omega) (by omega)).mono ?_
      rintro e w' ⟨xp, rfl, xp0, xp1, xpz, rfl⟩
      refine hK _ _ w.heap.size (Nat.le_refl _) (Below.refl _ _) ?_
      clear hK K xpz
      repeat (refine ml_quiet ?_; go_big_quiet_step (fail); refine wpQuiet_nil ?_)
      refine ml_loud rfl ?_
      intro K hK
      go_simp
      go_at_call 13
      refine (mod2_any lt 100 _ (by omega) (by omega)).mono ?_
      rintro e w' ⟨rfl, rfl⟩
      obtain ⟨xt0, xt1⟩ := emod_bd lt 100 (by omega)
      generalize lt % 100 = xt at *
      refine hK _ _ w.heap.size (Nat.le_refl _) (Below.refl _ _) ?_
      clear hK K
      repeat (refine ml_quiet ?_; go_big_quiet_step (fail); refine wpQuiet_nil ?_)
      refine ml_loud rfl ?_
      intro K hK
      go_simp
      go_at_call 13
      refine (mod2_any lr 100 _ (by omega) (by omega)).mono ?_
      rintro e w' ⟨rfl, rfl⟩
      obtain ⟨xr0, xr1⟩ := emod_bd lr 100 (by omega)
      generalize lr % 100 = xr at *
      refine hK _ _ w.heap.size (Nat.le_refl _) (Below.refl _ _) ?_
      clear hK K
      repeat (refine ml_quiet ?_; go_big_quiet_step (fail); refine wpQuiet_nil ?_)
      obtain ⟨e0, r0⟩ := room_at hKR (m := i * 7) (by omega)
      obtain ⟨e1, r1⟩ := room_at hKR (m := i * 7 + 1) (by omega)
      obtain ⟨e2, r2⟩ := room_at hKR (m := i * 7 + 2) (by omega)
      obtain ⟨e3, r3⟩ := room_at hKR (m := i * 7 + 3) (by omega)
      obtain ⟨e4, r4⟩ := room_at hKR (m := i * 7 + 4) (by omega)
      obtain ⟨e5, r5⟩ := room_at hKR (m := i * 7 + 5) (by omega)
      obtain ⟨e6, r6⟩ := room_at hKR (m := i * 7 + 6) (by omega)
      have z0 := hKR.frz (i * 7)
      have z1 := hKR.frz (i * 7 + 1)
      have z2 := hKR.frz (i * 7 + 2)
      have z3 := hKR.frz (i * 7 + 3)
      have z4 := hKR.frz (i * 7 + 4)
      have z5 := hKR.frz (i * 7 + 5)
      have z6 := hKR.frz (i * 7 + 6)
      refine ml_loud rfl ?_
      intro K hK
      go_simp
      refine hK _ _ w.heap.size (Nat.le_refl _) (bel7 (Below.refl _ _) hKR.lo _ _ _ _ _ _ _ _) ?_
      clear hK K r0 r1 r2 r3 r4 r5 r6 z0 z1 z2 z3 z4 z5 z6 q2 q3 q4 q5
      refine ml_nil ?_
      have hKl' := hKl.out
      refine world_gen (fun W => KR w g L.length Ks W ∧ ∀ q, q < 7 → W.cell? ⟨g, i * 7 + q, none⟩ = (pcells ⟨2 * (i : Int), 1, xd, xp, xt, xr, 0⟩)[q]?) ⟨kr7 hKR (by omega) _ _ _ _ _ _ _, cells7 (fun q hq => hKR.room _ (by omega)) _ _ _ _ _ _ _⟩ ?_
      rintro W2 ⟨hK2, hcl⟩
      clear hKR hKl'
      have HCL := Lib.hid hcl
      have c2 := hcl 2 (by omega)
      have c3 := hcl 3 (by omega)
      have c4 := hcl 4 (by omega)
      have c5 := hcl 5 (by omega)
      have c6 := hcl 6 (by omega)
      simp only [pcells, List.getElem?_toArray, List.getElem?_cons_zero, List.getElem?_cons_succ] at c2 c3 c4 c5 c6
      have z6 := hK2.frz (i * 7 + 6)
      have m1 : IntKind.i64.wrap (xp + xt) = xp + xt := IntWalk.i64_in _ (by omega)
      have m2 : IntKind.i64.wrap (xp + xt - xr) = xp + xt - xr := IntWalk.i64_in _ (by omega)
      have m3 : IntKind.i64.wrap (xd - (xp + xt - xr)) = xd - (xp + xt - xr) := IntWalk.i64_in _ (by omega)
      clear hcl
      go_upto_region 8 with (fail)
      go_region
      have HX : Hid (KOk i ⟨2 * (i : Int), 1, xd, xp, xt, xr, xd - (xp + xt - xr)⟩) := ⟨rfl, ⟨xd0, xd1⟩, ⟨xp0, xp1⟩, ⟨xt0, xt1⟩, ⟨xr0, xr1⟩, rfl⟩
      refine world_gen (KR w g L.length (Ks ++ [⟨2 * (i : Int), 1, xd, xp, xt, xr, xd - (xp + xt - xr)⟩])) (KR.below (KR.snoc (hK2.set (by have := hKl.out; omega) _) _ ?_) (Below.refl _ _).drew) ?_
      · intro q hq
        rw [hKl.out]
        by_cases h6 : q = 6
        · subst h6
          rw [cell_eq (by rw [HCL.out 6 (by omega)]; rfl)]
          rfl
        · rw [cell_ne (by omega), HCL.out q hq]
          rcases q with _ | _ | _ | _ | _ | _ | _ | q
          all_goals first | rfl | (exfalso; omega)
      intro W3 hK3
      clear hK2 c2 c3 c4 c5 c6 z6 HCL m0 m1 m2 m3
      go_wp2
      go_roundw
      case rel => exact ⟨i + 1, _, by omega, by go_num, by show _ = _; simp [hKl.out], HKA.out.snoc (by rw [hKl.out]; exact HX.out), hK3⟩
      case measure => simp [intOf]; omega
    · obtain rfl : i = L.length := by omega
      have hnL := hKl.out
      clear hlt hi
      go_wp2_with fail
      refine (awake_any _).mono ?_
      rintro e w2 ⟨rfl, hb2⟩
      replace hKR := hKR.below hb2
      clear hb2
      have HP := Lib.hid (KR.poss hKR (c := cap) (by rw [hKl.out]; exact hcap))
      rw [hnL] at HP
      go_wp2_with fail
      refine (cons_any Ks _ _ HP.out HKA.out.bd (by omega)).mono ?_
      rintro e w3 ⟨rfl, hb3⟩
      rw [HKA.out.cons]
      replace hKR := hKR.below hb3
      clear hb3 HP hnL
      go_wp2
      go_loopw [7] (fun t w2 => ∃ (i : Nat), i ≤ L.length ∧ t = .int .i64 (i : Int) ∧ Hid (∀ j, j < i → (-4000000000000000 ≤ (po L j).d ∧ (po L j).d ≤ 4000000000000000) ∧ (-4000000000000000 ≤ (po L j).p ∧ (po L j).p ≤ 4000000000000000) ∧ (-4000000000000000 ≤ (po L j).t ∧ (po L j).t ≤ 4000000000000000) ∧ (-4000000000000000 ≤ (po L j).r ∧ (po L j).r ≤ 4000000000000000)) ∧ w3 = w2) (fun t _ => L.length - (intOf t).toNat)
      case atStart => exact ⟨0, Nat.zero_le _, rfl, (fun j hj => by omega), rfl⟩
      case round =>
        obtain ⟨i, hi, rfl, hok, rfl⟩ := hrel
        have hbel := hKR.bel
        by_cases hlt : i < L.length
        · have q2 := (hbel.cell (p := ⟨b, o + i * 7 + 2, none⟩) hb).trans (HC.out i (by omega) 2 (by omega))
          have q3 := (hbel.cell (p := ⟨b, o + i * 7 + 3, none⟩) hb).trans (HC.out i (by omega) 3 (by omega))
          have q4 := (hbel.cell (p := ⟨b, o + i * 7 + 4, none⟩) hb).trans (HC.out i (by omega) 4 (by omega))
          have q5 := (hbel.cell (p := ⟨b, o + i * 7 + 5, none⟩) hb).trans (HC.out i (by omega) 5 (by omega))
          have q6 := (hbel.cell (p := ⟨b, o + i * 7 + 6, none⟩) hb).trans (HC.out i (by omega) 6 (by omega))
          simp only [pcells, List.getElem?_toArray, List.getElem?_cons_zero, List.getElem?_cons_succ] at q2 q3 q4 q5 q6
          rcases g2 : bigB (po L i).d with _ | _
          · rcases g3 : bigB (po L i).p with _ | _
            · rcases g4 : bigB (po L i).t with _ | _
              · rcases g5 : bigB (po L i).r with _ | _
                · rcases g6 : bigB (po L i).o with _ | _
                  · have HO : Hid (∀ j, j < i + 1 → (-4000000000000000 ≤ (po L j).d ∧ (po L j).d ≤ 4000000000000000) ∧ (-4000000000000000 ≤ (po L j).p ∧ (po L j).p ≤ 4000000000000000) ∧ (-4000000000000000 ≤ (po L j).t ∧ (po L j).t ≤ 4000000000000000) ∧ (-4000000000000000 ≤ (po L j).r ∧ (po L j).r ≤ 4000000000000000)) := by
                      intro j hj
                      by_cases hji : j = i
                      · subst hji
                        exact ⟨bigB_no g2, bigB_no g3, bigB_no g4, bigB_no g5⟩
                      · exact hok.out j (by omega)
                    go_wp2_with (go_at_call 16; refine (big_any _ _).mono ?_; rintro e w' ⟨rfl, rfl⟩)
                    go_roundw
                    case rel => exact ⟨i + 1, by omega, by go_num, HO, trivial⟩
                    case measure => simp [intOf]; omega
                  ·
                    go_wp2_with (go_at_call 16; refine (big_any _ _).mono ?_; rintro e w' ⟨rfl, rfl⟩)
                    go_ret
                    exact ⟨rfl, hKR.bel⟩
                ·
                  go_wp2_with (go_at_call 16; refine (big_any _ _).mono ?_; rintro e w' ⟨rfl, rfl⟩)
                  go_ret
                  exact ⟨rfl, hKR.bel⟩
              ·
                go_wp2_with (go_at_call 16; refine (big_any _ _).mono ?_; rintro e w' ⟨rfl, rfl⟩)
                go_ret
                exact ⟨rfl, hKR.bel⟩
            ·
              go_wp2_with (go_at_call 16; refine (big_any _ _).mono ?_; rintro e w' ⟨rfl, rfl⟩)
              go_ret
              exact ⟨rfl, hKR.bel⟩
          ·
            go_wp2_with (go_at_call 16; refine (big_any _ _).mono ?_; rintro e w' ⟨rfl, rfl⟩)
            go_ret
            exact ⟨rfl, hKR.bel⟩
        · obtain rfl : i = L.length := by omega
          have HPL : Hid (Poss w3.heap.size w3 (.slice (some ⟨b, o, none⟩) L.length c) L) := Poss.mono (B := w.heap.size) ⟨_, c, rfl, hc, fun _ => ⟨b, o, rfl, hb, fun i hi j hj => (hbel.cell (p := ⟨b, o + i * 7 + j, none⟩) hb).trans (HC.out i hi j hj)⟩⟩ hbel.size
          have HBD : Hid (PoBd L) := hok.out
          clear hok hi hlt
          go_wp2_with fail
          refine (cons_any L _ _ HPL.out HBD.out (by omega)).mono ?_
          rintro e w4 ⟨rfl, hb4⟩
          go_wp2_with fail
          refine (rcons_any L _ _ ((HPL.out.below hb4).mono hb4.size) HBD.out (by omega)).mono ?_
          rintro e w5 ⟨rfl, hb5⟩
          replace hKR := (hKR.below hb4).below hb5
          clear hb4 hb5 HPL HBD hbel
          generalize consB L = cb
          have hcb : (cb != cb) = false := by cases cb <;> rfl
          have hn00 : ((L.length : Int) == 0) = false := beq_eq_false_iff_ne.2 (by omega)
          obtain ⟨k1, k2⟩ := emod_bd at_ (L.length : Int) (by omega)
          obtain ⟨kn, hkn⟩ := Int.eq_ofNat_of_zero_le k1
          rw [hkn] at k1 k2
          have hkl : kn < L.length := by omega
          have hkl2 : (kn : Int) < (L.length : Int) := by omega
          obtain ⟨y1, y2⟩ := emod_bd at_ 50 (by omega)
          have hx := po_get (L := Ks) (i := kn) (by rw [hKl.out]; exact hkl)
          have c6 := hKR.cell kn _ hx 6 (by omega)
          simp only [pcells, List.getElem?_toArray, List.getElem?_cons_zero, List.getElem?_cons_succ] at c6
          have z6 := hKR.frz (kn * 7 + 6)
          obtain ⟨o1, ⟨o2, o3⟩, ⟨o4, o5⟩, ⟨o6, o7⟩, ⟨o8, o9⟩, o10⟩ := HKA.out kn _ hx
          have HO10 := Lib.hid o10
          have HPO : Hid (∃ y, y = po Ks kn) := ⟨_, rfl⟩
          have ob : -4000000000000000 ≤ (po Ks kn).o ∧ (po Ks kn).o ≤ 4000000000000000 := by omega
          obtain ⟨ob1, ob2⟩ := ob
          clear o1 o2 o3 o4 o5 o6 o7 o8 o9 o10 HPO hx
          have n1 : IntKind.i64.wrap (1 + at_ % 50) = 1 + at_ % 50 := IntWalk.i64_in _ (by omega)
          have n2 : IntKind.i64.wrap ((po Ks kn).o + (1 + at_ % 50)) = (po Ks kn).o + (1 + at_ % 50) := IntWalk.i64_in _ (by omega)
          have hn1 : 1 ≤ (L.length : Int) := by omega
          have hn2 : (L.length : Int) ≤ 2000000000000 := by omega
          go_upto_region 20 with (fail)
          go_region_with ((go_at_call 13; refine (mod2_any _ _ _ (by omega) (by omega)).mono ?_; rintro e w' ⟨rfl, rfl⟩))
          all_goals
            have hkk : kn < Ks.length := by rw [hKl.out]; exact hkl
            refine world_gen (KR w g L.length (brk Ks kn ((po Ks kn).o + (1 + at_ % 50)))) (KR.below (hKR.upd hkk (by rw [hKl.out]; exact Nat.le_refl _) _) (Below.refl _ _).drew) ?_
            intro W6 hK6
            have HB6 := Lib.hid (brk_bd HKA.out hkk ((po Ks kn).o + (1 + at_ % 50)))
            have HC6 := Lib.hid (brk_cons HKA.out hkk (o' := (po Ks kn).o + (1 + at_ % 50)) (by omega))
            have hl6 : (brk Ks kn ((po Ks kn).o + (1 + at_ % 50))).length = L.length := by rw [brk_len]; exact hKl.out
            have HP6 := Lib.hid (KR.poss hK6 (c := cap) (by rw [hl6]; exact hcap))
            rw [hl6] at HP6
            have HL6 := Lib.hid hl6
            clear hl6 hKR c6 z6 n1 n2 hkn
            generalize brk Ks kn ((po Ks kn).o + (1 + at_ % 50)) = K6 at *
            go_wp2_with fail
            refine (cons_any K6 _ _ HP6.out HB6.out (by rw [HL6.out]; omega)).mono ?_
            rintro e w7 ⟨rfl, hb7⟩
            rw [HC6.out]
            go_wp2
            go_ret
            exact ⟨rfl, (hK6.below hb7).bel⟩
set_option maxRecDepth 100000 in
set_option maxHeartbeats 4000000 in
theorem lca_b (L : List Po) (b o c : Nat) (at_ : Int) (w : World) (h20 : L.length ≤ 20) (hp : 0 < L.length) (hm : 6 < L.length)
    (hb : b < w.heap.size) (hcell : ∀ i, i < L.length → ∀ j, j < 7 → w.cell? ⟨b, o + i * 7 + j, none⟩ = (pcells (po L i))[j]?) (hc : L.length ≤ c)
    (hr : ∀ i, i < L.length → (-9223372036854775808 ≤ (po L i).d ∧ (po L i).d ≤ 9223372036854775807) ∧ (-9223372036854775808 ≤ (po L i).p ∧ (po L i).p ≤ 9223372036854775807)) :
    Calls Try.prog 6 #[.slice (some ⟨b, o, none⟩) L.length c, .int .i64 at_] w fun e w' => e = .returned (.bool true) ∧ Below w.heap.size w w' := by
  have HC := Lib.hid hcell
  have HR := Lib.hid hr
  clear hcell hr
  have hle : (L.length : Int) ≤ 20 := by omega
  have hdec : decide ((20 : Int) < (L.length : Int)) = false := by simp; omega
  have HT : Hid ((L.take 6).length = 6) := by show _ = _; simp; try omega
  have HCT : Hid (∀ i, i < (L.take 6).length → ∀ j, j < 7 → w.cell? ⟨b, o + i * 7 + j, none⟩ = (pcells (po (L.take 6) i))[j]?) := by
    intro i hi j hj
    rw [HT.out] at hi
    rw [po_take hi]
    exact HC.out i (by omega) j hj
  go_enter Try.func6, Try.ntmps6
  go_upto_region 4 with (at_builtin; go_loud (refine wpList_copyP (by rfl) _ _ (by rfl) _ (L.take 6) (by rfl) b o c 6 (by rfl) HT.out HCT.out (by rw [HT.out]; omega) (by rw [HT.out]; omega) ?_); intro g cap w1 hcap hK)
  clear HT HCT
  go_wp2
  go_loopw [6] (fun t wr => ∃ (i : Nat) (Ks : List Po), i ≤ 6 ∧ t = .int .i64 (i : Int) ∧ Hid (Ks.length = i) ∧ KAll Ks ∧ KR w g 6 Ks wr) (fun t _ => 6 - (intOf t).toNat)
  case atStart => exact ⟨0, [], Nat.zero_le _, rfl, rfl, (fun j x hx => by simp at hx), hK⟩
  case round =>
    obtain ⟨i, Ks, hi, rfl, hKl, hKA, hKR⟩ := hrel
    have HKA := Lib.hid hKA
    clear hKA hK
    by_cases hlt : i < 6
    · have hbel := hKR.bel
      have q2 := (hbel.cell (p := ⟨b, o + i * 7 + 2, none⟩) hb).trans (HC.out i (by omega) 2 (by omega))
      have q3 := (hbel.cell (p := ⟨b, o + i * 7 + 3, none⟩) hb).trans (HC.out i (by omega) 3 (by omega))
      have q4 := (hbel.cell (p := ⟨b, o + i * 7 + 4, none⟩) hb).trans (HC.out i (by omega) 4 (by omega))
      have q5 := (hbel.cell (p := ⟨b, o + i * 7 + 5, none⟩) hb).trans (HC.out i (by omega) 5 (by omega))
      simp only [pcells, List.getElem?_toArray, List.getElem?_cons_zero, List.getElem?_cons_succ] at q2 q3 q4 q5
      obtain ⟨⟨d1, d2⟩, p1, p2⟩ := HR.out i (by omega)
      generalize (po L i).d = ld at *
      generalize (po L i).p = lp at *
      generalize (po L i).t = lt at *
      generalize (po L i).r = lr at *
      have hil : i < L.length := by omega
      have m0 : IntKind.i64.wrap (2 * (i : Int)) = 2 * (i : Int) := IntWalk.i64_in _ (by omega)
      go_upto_region 7 with (fail)
      refine wp_region_ml [9, 15, 21, 27, 30] [0, 1, 2, 3, 4, 5, 6, 7, 8, 10, 11, 12, 13, 14, 16, 17, 18, 19, 20, 22, 23, 24, 25, 26, 9, 15, 21, 27, 28, 29, 30] w.heap.size (by kernel_rfl) (by kernel_rfl) rfl (by decide) (by kernel_rfl) (fun _ _ _ _ _ h => h) ?_
      simp only [marked, List.getElem?_cons_zero, List.getElem?_cons_succ, List.contains_cons, List.contains_nil, Nat.reduceBEq, Bool.or_false, Bool.or_true, BEq.rfl]
      replace hKR := hKR.below (Below.refl _ _).drew
      replace q2 : wr.drew.cell? ⟨b, o + i * 7 + 2, none⟩ = _ := q2
      replace q3 : wr.drew.cell? ⟨b, o + i * 7 + 3, none⟩ = _ := q3
      replace q4 : wr.drew.cell? ⟨b, o + i * 7 + 4, none⟩ = _ := q4
      replace q5 : wr.drew.cell? ⟨b, o + i * 7 + 5, none⟩ = _ := q5
      clear hbel
      generalize wr.drew = W1 at *
      repeat (refine ml_quiet ?_; go_big_quiet_step (fail); refine wpQuiet_nil ?_)
      refine ml_loud rfl ?_
      intro K hK
      go_simp
      go_at_call 14
      refine (amount_any _ _ (by omega) (by omega)).mono ?_
      rintro e w' ⟨xd, rfl, xd0, xd1, xdz, rfl⟩
      refine hK _ _ w.heap.size (Nat.le_refl _) (Below.refl _ _) ?_
      clear hK K xdz
      repeat (refine ml_quiet ?_; go_big_quiet_step (fail); refine wpQuiet_nil ?_)
      refine ml_loud rfl ?_
      intro K hK
      go_simp
      go_at_call 14
      refine (amount_any _ _ (by omega) (by omega)).mono ?_
      rintro e w' ⟨xp, rfl, xp0, xp1, xpz, rfl⟩
      refine hK _ _ w.heap.size (Nat.le_refl _) (Below.refl _ _) ?_
      clear hK K xpz
      repeat (refine ml_quiet ?_; go_big_quiet_step (fail); refine wpQuiet_nil ?_)
      refine ml_loud rfl ?_
      intro K hK
      go_simp
      go_at_call 13
      refine (mod2_any lt 100 _ (by omega) (by omega)).mono ?_
      rintro e w' ⟨rfl, rfl⟩
      obtain ⟨xt0, xt1⟩ := emod_bd lt 100 (by omega)
      generalize lt % 100 = xt at *
      refine hK _ _ w.heap.size (Nat.le_refl _) (Below.refl _ _) ?_
      clear hK K
      repeat (refine ml_quiet ?_; go_big_quiet_step (fail); refine wpQuiet_nil ?_)
      refine ml_loud rfl ?_
      intro K hK
      go_simp
      go_at_call 13
      refine (mod2_any lr 100 _ (by omega) (by omega)).mono ?_
      rintro e w' ⟨rfl, rfl⟩
      obtain ⟨xr0, xr1⟩ := emod_bd lr 100 (by omega)
      generalize lr % 100 = xr at *
      refine hK _ _ w.heap.size (Nat.le_refl _) (Below.refl _ _) ?_
      clear hK K
      repeat (refine ml_quiet ?_; go_big_quiet_step (fail); refine wpQuiet_nil ?_)
      obtain ⟨e0, r0⟩ := room_at hKR (m := i * 7) (by omega)
      obtain ⟨e1, r1⟩ := room_at hKR (m := i * 7 + 1) (by omega)
      obtain ⟨e2, r2⟩ := room_at hKR (m := i * 7 + 2) (by omega)
      obtain ⟨e3, r3⟩ := room_at hKR (m := i * 7 + 3) (by omega)
      obtain ⟨e4, r4⟩ := room_at hKR (m := i * 7 + 4) (by omega)
      obtain ⟨e5, r5⟩ := room_at hKR (m := i * 7 + 5) (by omega)
      obtain ⟨e6, r6⟩ := room_at hKR (m := i * 7 + 6) (by omega)
      have z0 := hKR.frz (i * 7)
      have z1 := hKR.frz (i * 7 + 1)
      have z2 := hKR.frz (i * 7 + 2)
      have z3 := hKR.frz (i * 7 + 3)
      have z4 := hKR.frz (i * 7 + 4)
      have z5 := hKR.frz (i * 7 + 5)
      have z6 := hKR.frz (i * 7 + 6)
      refine ml_loud rfl ?_
      intro K hK
      go_simp
      refine hK _ _ w.heap.size (Nat.le_refl _) (bel7 (Below.refl _ _) hKR.lo _ _ _ _ _ _ _ _) ?_
      clear hK K r0 r1 r2 r3 r4 r5 r6 z0 z1 z2 z3 z4 z5 z6 q2 q3 q4 q5
      refine ml_nil ?_
      have hKl' := hKl.out
      refine world_gen (fun W => KR w g 6 Ks W ∧ ∀ q, q < 7 → W.cell? ⟨g, i * 7 + q, none⟩ = (pcells ⟨2 * (i : Int), 1, xd, xp, xt, xr, 0⟩)[q]?) ⟨kr7 hKR (by omega) _ _ _ _ _ _ _, cells7 (fun q hq => hKR.room _ (by omega)) _ _ _ _ _ _ _⟩ ?_
      rintro W2 ⟨hK2, hcl⟩
      clear hKR hKl'
      have HCL := Lib.hid hcl
      have c2 := hcl 2 (by omega)
      have c3 := hcl 3 (by omega)
      have c4 := hcl 4 (by omega)
      have c5 := hcl 5 (by omega)
      have c6 := hcl 6 (by omega)
      simp only [pcells, List.getElem?_toArray, List.getElem?_cons_zero, List.getElem?_cons_succ] at c2 c3 c4 c5 c6
      have z6 := hK2.frz (i * 7 + 6)
      have m1 : IntKind.i64.wrap (xp + xt) = xp + xt := IntWalk.i64_in _ (by omega)
      have m2 : IntKind.i64.wrap (xp + xt - xr) = xp + xt - xr := IntWalk.i64_in _ (by omega)
      have m3 : IntKind.i64.wrap (xd - (xp + xt - xr)) = xd - (xp + xt - xr) := IntWalk.i64_in _ (by omega)
      clear hcl
      go_upto_region 8 with (fail)
      go_region
      have HX : Hid (KOk i ⟨2 * (i : Int), 1, xd, xp, xt, xr, xd - (xp + xt - xr)⟩) := ⟨rfl, ⟨xd0, xd1⟩, ⟨xp0, xp1⟩, ⟨xt0, xt1⟩, ⟨xr0, xr1⟩, rfl⟩
      refine world_gen (KR w g 6 (Ks ++ [⟨2 * (i : Int), 1, xd, xp, xt, xr, xd - (xp + xt - xr)⟩])) (KR.below (KR.snoc (hK2.set (by have := hKl.out; omega) _) _ ?_) (Below.refl _ _).drew) ?_
      · intro q hq
        rw [hKl.out]
        by_cases h6 : q = 6
        · subst h6
          rw [cell_eq (by rw [HCL.out 6 (by omega)]; rfl)]
          rfl
        · rw [cell_ne (by omega), HCL.out q hq]
          rcases q with _ | _ | _ | _ | _ | _ | _ | q
          all_goals first | rfl | (exfalso; omega)
      intro W3 hK3
      clear hK2 c2 c3 c4 c5 c6 z6 HCL m0 m1 m2 m3
      go_wp2
      go_roundw
      case rel => exact ⟨i + 1, _, by omega, by go_num, by show _ = _; simp [hKl.out], HKA.out.snoc (by rw [hKl.out]; exact HX.out), hK3⟩
      case measure => simp [intOf]; omega
    · obtain rfl : i = 6 := by omega
      have hnL := hKl.out
      clear hlt hi
      go_wp2_with fail
      refine (awake_any _).mono ?_
      rintro e w2 ⟨rfl, hb2⟩
      replace hKR := hKR.below hb2
      clear hb2
      have HP := Lib.hid (KR.poss hKR (c := cap) (by rw [hKl.out]; exact hcap))
      rw [hnL] at HP
      go_wp2_with fail
      refine (cons_any Ks _ _ HP.out HKA.out.bd (by omega)).mono ?_
      rintro e w3 ⟨rfl, hb3⟩
      rw [HKA.out.cons]
      replace hKR := hKR.below hb3
      clear hb3 HP hnL
      go_wp2
      go_loopw [7] (fun t w2 => ∃ (i : Nat), i ≤ L.length ∧ t = .int .i64 (i : Int) ∧ Hid (∀ j, j < i → (-4000000000000000 ≤ (po L j).d ∧ (po L j).d ≤ 4000000000000000) ∧ (-4000000000000000 ≤ (po L j).p ∧ (po L j).p ≤ 4000000000000000) ∧ (-4000000000000000 ≤ (po L j).t ∧ (po L j).t ≤ 4000000000000000) ∧ (-4000000000000000 ≤ (po L j).r ∧ (po L j).r ≤ 4000000000000000)) ∧ w3 = w2) (fun t _ => L.length - (intOf t).toNat)
      case atStart => exact ⟨0, Nat.zero_le _, rfl, (fun j hj => by omega), rfl⟩
      case round =>
        obtain ⟨i, hi, rfl, hok, rfl⟩ := hrel
        have hbel := hKR.bel
        by_cases hlt : i < L.length
        · have q2 := (hbel.cell (p := ⟨b, o + i * 7 + 2, none⟩) hb).trans (HC.out i (by omega) 2 (by omega))
          have q3 := (hbel.cell (p := ⟨b, o + i * 7 + 3, none⟩) hb).trans (HC.out i (by omega) 3 (by omega))
          have q4 := (hbel.cell (p := ⟨b, o + i * 7 + 4, none⟩) hb).trans (HC.out i (by omega) 4 (by omega))
          have q5 := (hbel.cell (p := ⟨b, o + i * 7 + 5, none⟩) hb).trans (HC.out i (by omega) 5 (by omega))
          have q6 := (hbel.cell (p := ⟨b, o + i * 7 + 6, none⟩) hb).trans (HC.out i (by omega) 6 (by omega))
          simp only [pcells, List.getElem?_toArray, List.getElem?_cons_zero, List.getElem?_cons_succ] at q2 q3 q4 q5 q6
          rcases g2 : bigB (po L i).d with _ | _
          · rcases g3 : bigB (po L i).p with _ | _
            · rcases g4 : bigB (po L i).t with _ | _
              · rcases g5 : bigB (po L i).r with _ | _
                · rcases g6 : bigB (po L i).o with _ | _
                  · have HO : Hid (∀ j, j < i + 1 → (-4000000000000000 ≤ (po L j).d ∧ (po L j).d ≤ 4000000000000000) ∧ (-4000000000000000 ≤ (po L j).p ∧ (po L j).p ≤ 4000000000000000) ∧ (-4000000000000000 ≤ (po L j).t ∧ (po L j).t ≤ 4000000000000000) ∧ (-4000000000000000 ≤ (po L j).r ∧ (po L j).r ≤ 4000000000000000)) := by
                      intro j hj
                      by_cases hji : j = i
                      · subst hji
                        exact ⟨bigB_no g2, bigB_no g3, bigB_no g4, bigB_no g5⟩
                      · exact hok.out j (by omega)
                    go_wp2_with (go_at_call 16; refine (big_any _ _).mono ?_; rintro e w' ⟨rfl, rfl⟩)
                    go_roundw
                    case rel => exact ⟨i + 1, by omega, by go_num, HO, trivial⟩
                    case measure => simp [intOf]; omega
                  ·
                    go_wp2_with (go_at_call 16; refine (big_any _ _).mono ?_; rintro e w' ⟨rfl, rfl⟩)
                    go_ret
                    exact ⟨rfl, hKR.bel⟩
                ·
                  go_wp2_with (go_at_call 16; refine (big_any _ _).mono ?_; rintro e w' ⟨rfl, rfl⟩)
                  go_ret
                  exact ⟨rfl, hKR.bel⟩
              ·
                go_wp2_with (go_at_call 16; refine (big_any _ _).mono ?_; rintro e w' ⟨rfl, rfl⟩)
                go_ret
                exact ⟨rfl, hKR.bel⟩
            ·
              go_wp2_with (go_at_call 16; refine (big_any _ _).mono ?_; rintro e w' ⟨rfl, rfl⟩)
              go_ret
              exact ⟨rfl, hKR.bel⟩
          ·
            go_wp2_with (go_at_call 16; refine (big_any _ _).mono ?_; rintro e w' ⟨rfl, rfl⟩)
            go_ret
            exact ⟨rfl, hKR.bel⟩
        · obtain rfl : i = L.length := by omega
          have HPL : Hid (Poss w3.heap.size w3 (.slice (some ⟨b, o, none⟩) L.length c) L) := Poss.mono (B := w.heap.size) ⟨_, c, rfl, hc, fun _ => ⟨b, o, rfl, hb, fun i hi j hj => (hbel.cell (p := ⟨b, o + i * 7 + j, none⟩) hb).trans (HC.out i hi j hj)⟩⟩ hbel.size
          have HBD : Hid (PoBd L) := hok.out
          clear hok hi hlt
          go_wp2_with fail
          refine (cons_any L _ _ HPL.out HBD.out (by omega)).mono ?_
          rintro e w4 ⟨rfl, hb4⟩
          go_wp2_with fail
          refine (rcons_any L _ _ ((HPL.out.below hb4).mono hb4.size) HBD.out (by omega)).mono ?_
          rintro e w5 ⟨rfl, hb5⟩
          replace hKR := (hKR.below hb4).below hb5
          clear hb4 hb5 HPL HBD hbel
          generalize consB L = cb
          have hcb : (cb != cb) = false := by cases cb <;> rfl
          have hn00 : ((6 : Int) == 0) = false := beq_eq_false_iff_ne.2 (by omega)
          obtain ⟨k1, k2⟩ := emod_bd at_ (6 : Int) (by omega)
          obtain ⟨kn, hkn⟩ := Int.eq_ofNat_of_zero_le k1
          rw [hkn] at k1 k2
          have hkl : kn < 6 := by omega
          have hkl2 : (kn : Int) < (6 : Int) := by omega
          obtain ⟨y1, y2⟩ := emod_bd at_ 50 (by omega)
          have hx := po_get (L := Ks) (i := kn) (by rw [hKl.out]; exact hkl)
          have c6 := hKR.cell kn _ hx 6 (by omega)
          simp only [pcells, List.getElem?_toArray, List.getElem?_cons_zero, List.getElem?_cons_succ] at c6
          have z6 := hKR.frz (kn * 7 + 6)
          obtain ⟨o1, ⟨o2, o3⟩, ⟨o4, o5⟩, ⟨o6, o7⟩, ⟨o8, o9⟩, o10⟩ := HKA.out kn _ hx
          have HO10 := Lib.hid o10
          have HPO : Hid (∃ y, y = po Ks kn) := ⟨_, rfl⟩
          have ob : -4000000000000000 ≤ (po Ks kn).o ∧ (po Ks kn).o ≤ 4000000000000000 := by omega
          obtain ⟨ob1, ob2⟩ := ob
          clear o1 o2 o3 o4 o5 o6 o7 o8 o9 o10 HPO hx
          have n1 : IntKind.i64.wrap (1 + at_ % 50) = 1 + at_ % 50 := IntWalk.i64_in _ (by omega)
          have n2 : IntKind.i64.wrap ((po Ks kn).o + (1 + at_ % 50)) = (po Ks kn).o + (1 + at_ % 50) := IntWalk.i64_in _ (by omega)
          have hn1 : 1 ≤ (6 : Int) := by omega
          have hn2 : (6 : Int) ≤ 2000000000000 := by omega
          go_upto_region 20 with (fail)
          go_region_with ((go_at_call 13; refine (mod2_any _ _ _ (by omega) (by omega)).mono ?_; rintro e w' ⟨rfl, rfl⟩))
          all_goals
            have hkk : kn < Ks.length := by rw [hKl.out]; exact hkl
            refine world_gen (KR w g 6 (brk Ks kn ((po Ks kn).o + (1 + at_ % 50)))) (KR.below (hKR.upd hkk (by rw [hKl.out]; exact Nat.le_refl _) _) (Below.refl _ _).drew) ?_
            intro W6 hK6
            have HB6 := Lib.hid (brk_bd HKA.out hkk ((po Ks kn).o + (1 + at_ % 50)))
            have HC6 := Lib.hid (brk_cons HKA.out hkk (o' := (po Ks kn).o + (1 + at_ % 50)) (by omega))
            have hl6 : (brk Ks kn ((po Ks kn).o + (1 + at_ % 50))).length = 6 := by rw [brk_len]; exact hKl.out
            have HP6 := Lib.hid (KR.poss hK6 (c := cap) (by rw [hl6]; exact hcap))
            rw [hl6] at HP6
            have HL6 := Lib.hid hl6
            clear hl6 hKR c6 z6 n1 n2 hkn
            generalize brk Ks kn ((po Ks kn).o + (1 + at_ % 50)) = K6 at *
            go_wp2_with fail
            refine (cons_any K6 _ _ HP6.out HB6.out (by rw [HL6.out]; omega)).mono ?_
            rintro e w7 ⟨rfl, hb7⟩
            rw [HC6.out]
            go_wp2
            go_ret
            exact ⟨rfl, (hK6.below hb7).bel⟩
end Go.Proofs.Ytnlcgiemhegmcaa
