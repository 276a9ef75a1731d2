/-
  The contract of pensionhand.Make: it returns a valid fact.
-/
import Derived.Test.YtkkjiihdmpngbaaFd0
import Derived.Deep.RegionHeld3
import Derived.Deep.RegionWith
import Derived.Deep.DeepCutAuto
import Derived.Deep.CutBlock
namespace Go.Proofs.Ytkkjiihdmpngbaa
open Go.RowKit

set_option maxRecDepth 100000 in
set_option maxHeartbeats 4000000 in
theorem make_any (r0 r1 r2 : Int) (r3 : Bool) (r4 r5 r6 r7 r8 r9 r10 r11 r12 : Int) (w : World) (z1 : -9223372036854775808 ≤ r9) (z2 : r9 ≤ 9223372036854775807) :
    Calls Try.prog 48 #[.agg #[.int .i64 r0, .int .i64 r1, .int .i64 r2, .bool r3, .int .i64 r4, .int .i64 r5, .int .i64 r6, .int .i64 r7, .int .i64 r8, .int .i64 r9, .int .i64 r10, .int .i64 r11, .int .i64 r12]] w (MakePost w) := by
  obtain ⟨b1, b2⟩ := emod_bd r0 3 (by decide)
  obtain ⟨c1, c2⟩ := emod_bd r1 20 (by decide)
  obtain ⟨d1, d2⟩ := emod_bd r2 3 (by decide)
  obtain ⟨e1, e2⟩ := emod_bd r4 4 (by decide)
  obtain ⟨f1, f2⟩ := emod_bd r5 14 (by decide)
  go_enter Try.func48, Try.ntmps48
  go_upto_region 1 with fail
  go_cut [3] (fun s3 wx => s3 = .pointer (some ⟨w.heap.size + 2, 0, none⟩) ∧ M1 w #[.int .i64 r0, .int .i64 r1, .int .i64 r2, .bool r3, .int .i64 r4, .int .i64 r5, .int .i64 r6, .int .i64 r7, .int .i64 r8, .int .i64 r9, .int .i64 r10, .int .i64 r11, .int .i64 r12] r3 wx)
  case first =>
    go_region_held3 (fun w' => w'.cell? ⟨w.heap.size, 0, none⟩ = some (.int .i64 r0) ∧ w'.cell? ⟨w.heap.size, 1, none⟩ = some (.int .i64 r1) ∧ w'.cell? ⟨w.heap.size, 2, none⟩ = some (.int .i64 r2) ∧ w'.cell? ⟨w.heap.size, 3, none⟩ = some (.bool r3)) (simp [go_sem, World.cell?_alloc_past])
      (first | (go_at_call 20; refine (mod_any _ _ _ (by decide) (by decide)).mono ?_; rintro e w' ⟨rfl, rfl⟩))
    all_goals
      go_wp2_with fail
      go_meet
      refine ⟨rfl, r0 % 3, IntKind.i64.wrap (1 + r1 % 20), IntKind.i64.wrap (1 + r2 % 3), b1, by omega, ?_, ?_, ?_, ?_, ?_, ?_, ?_, ?_⟩
      rotate_left 4
      · exact (((BlkIs.new w _ _).alloc _).alloc _).drew
      · exact ((BlkIs.newAt _ _ _ _ (by simp)).alloc _).drew
      · exact (BlkIs.newAt _ _ _ _ (by simp)).drew
      · exact (((Below.refl _ _).alloc (Nat.le_refl _) _).alloc (by simp) _ |>.alloc (by simp; omega) _).drew
      all_goals
        go_light
        rw [IntWalk.i64_in _ (by omega)]
        omega
  case rest =>
    obtain ⟨rfl, i, n, v, i1, i2, n1, n2, v1, v2, hst⟩ := hcut
    go_upto_region 2 with fail
    have hcr := hst.r.cell
    go_cut [] (fun wx => ∃ p k : Int, 1 ≤ p ∧ p ≤ 4 ∧ 1 ≤ k ∧ k ≤ 14 ∧ MSt w #[.int .i64 r0, .int .i64 r1, .int .i64 r2, .bool r3, .int .i64 r4, .int .i64 r5, .int .i64 r6, .int .i64 r7, .int .i64 r8, .int .i64 r9, .int .i64 r10, .int .i64 r11, .int .i64 r12] #[.int .i64 i, .int .i64 n, .int .i64 v, .bool r3, .int .i64 p, .int .i64 k, .int .i64 0, .int .i64 0, .int .i64 0, .int .i64 0, .int .i64 0, .int .i64 0, .int .i64 0, .int .i64 0] wx)
    case first =>
      have hcf := hst.f.cell
      have hff := hst.f.frozen
      go_region_held3 (fun w' => w'.cell? ⟨w.heap.size, 4, none⟩ = some (.int .i64 r4) ∧ w'.cell? ⟨w.heap.size, 5, none⟩ = some (.int .i64 r5)) (simp [go_sem, hcr])
        (first | (go_at_call 20; refine (mod_any _ _ _ (by decide) (by decide)).mono ?_; rintro e w' ⟨rfl, rfl⟩))
      go_wp2_with fail
      go_meet
      refine ⟨IntKind.i64.wrap (1 + r4 % 4), IntKind.i64.wrap (1 + r5 % 14), ?_, ?_, ?_, ?_, ?_⟩
      rotate_left 4
      · exact ((hst.put 4 _).put 5 _).drew
      all_goals
        go_light
        rw [IntWalk.i64_in _ (by omega)]
        omega
    case rest =>
      obtain ⟨p, k, p1, p2, k1, k2, hst2⟩ := hcut
      clear hst hcr
      have hcr := hst2.r.cell
      have hcf := hst2.f.cell
      obtain ⟨g1, g2⟩ := emod_bd r8 16000 (by decide)
      obtain ⟨h1, h2⟩ := emod_bd r8 5000 (by decide)
      obtain ⟨l1, l2⟩ := emod_bd r8 6000 (by decide)
      obtain ⟨m1, m2⟩ := emod_bd r8 4000 (by decide)
      obtain ⟨o1, o2⟩ := emod_bd r9 700 (by decide)
      go_upto_block 0 with (first
        | (go_at_call 20; refine (mod_any _ _ _ (by decide) (by decide)).mono ?_; rintro e w' ⟨rfl, rfl⟩)
        | (go_at_call 70; refine (length_any _ _ (by omega) (by omega)).mono ?_; rintro e w' ⟨ln, rfl, ln1, ln2, rfl⟩))
      go_cut [4, 5] (fun s4 s5 wx => ∃ fr til : Int, s4 = .int .i64 fr ∧ s5 = .int .i64 til ∧ 0 ≤ fr ∧ fr < til ∧ til ≤ 73049 ∧ Hid (k = 11 ∨ k = 12 → til = fr + 1) ∧ MSt w #[.int .i64 r0, .int .i64 r1, .int .i64 r2, .bool r3, .int .i64 r4, .int .i64 r5, .int .i64 r6, .int .i64 r7, .int .i64 r8, .int .i64 r9, .int .i64 r10, .int .i64 r11, .int .i64 r12] #[.int .i64 i, .int .i64 n, .int .i64 v, .bool r3, .int .i64 p, .int .i64 k, .int .i64 0, .int .i64 0, .int .i64 0, .int .i64 0, .int .i64 0, .int .i64 0, .int .i64 0, .int .i64 0] wx)
      case first =>
        go_wp2_with (go_at_call 20; refine (mod_any _ _ _ (by decide) (by decide)).mono ?_; rintro e w' ⟨rfl, rfl⟩)
        all_goals
          go_meet
          go_light
          refine ⟨_, _, rfl, rfl, by omega, by omega, by omega, ?_, hst2⟩
          intro hk
          first | rfl | (simp_all; done) | (simp_all; omega)
      case rest =>
        obtain ⟨fr, til, rfl, rfl, fr1, fr2, fr3, hk11, hst3⟩ := hcut
        clear hst2 hcr hcf
        have hcf := hst3.f.cell
        go_wp2_with (go_at_call 71; refine (ruses_any _ _).mono ?_; rintro e w' ⟨rfl, hb4⟩)
        have hst4 := hst3.next hb4
        clear hcf hst3 hb4
        obtain ⟨s, hs⟩ : ∃ s, s = usesS k := ⟨_, rfl⟩
        have HS := Lib.hid hs
        rw [← hs]
        clear hs
        have hssz : s.size ≤ 6 := by rw [HS.out]; exact usesL_le k
        go_loopw [7] (fun t wr => ∃ (j : Nat) (f : Fct), j ≤ s.size ∧ t = .int .i64 j ∧ MSt w #[.int .i64 r0, .int .i64 r1, .int .i64 r2, .bool r3, .int .i64 r4, .int .i64 r5, .int .i64 r6, .int .i64 r7, .int .i64 r8, .int .i64 r9, .int .i64 r10, .int .i64 r11, .int .i64 r12] (fcells f) wr ∧ Part (s.data.toList.take j) k p fr til f) (fun t _ => s.size - (intOf t).toNat)
        case atStart =>
          go_light
          refine ⟨0, ⟨i, n, v, r3, p, k, 0, 0, 0, 0, 0, 0, 0, 0⟩, Nat.zero_le _, rfl, hst4, ?_⟩
          refine ⟨?_, rfl, rfl, ?_, ?_, ?_, ?_, ?_, ?_, ?_, ?_, ?_⟩
          · simp only [coreP0]; omega
          all_goals simp [fieldB, hasB_nil]
        case round =>
          obtain ⟨j, ⟨g0, g1, g2, g3, g4, g5, g6, g7, g8, g9, g10, g11, g12, g13⟩, hj, rfl, hst, hpart⟩ := hrel
          clear hst4
          have HP := Lib.hid hpart
          clear hpart
          by_cases hlt : j < s.size
          · have hl2 : s.data.toList = usesL k := by rw [HS.out]; rfl
            have hlt2 : j < (usesL k).length := by rw [← hl2]; simpa using hlt
            have hgk : (usesL k)[j] = s[j] := by
              have : ∀ (l : List UInt8) (h : j < l.length), l = s.data.toList → l[j] = s[j] := by
                intro l h e; subst e; rfl
              exact this _ hlt2 hl2.symm
            have hmem : s[j] ∈ usesL k := by rw [← hgk]; exact List.getElem_mem hlt2
            have HT : Hid (s.data.toList.take (j + 1) = s.data.toList.take j ++ [s[j]]) := by
              have := List.take_succ_eq_append_getElem (l := s.data.toList) (i := j) (by simpa using hlt)
              exact this
            have HU : Hid (s[j] = 83 → hasB (s.data.toList.take j) 84 = false) := by
              intro h
              have : j = 0 := uses_S k j hlt2 (by rw [hgk]; exact h)
              subst this
              rfl
            have hc7 := uses_mem k _ hmem
            clear hl2 hlt2 hgk hmem
            have hcr := hst.r.cell
            have hcf : ∀ x, wr.cell? ⟨w.heap.size + 2, x, none⟩ = (#[.int .i64 g0, .int .i64 g1, .int .i64 g2, .bool g3, .int .i64 g4, .int .i64 g5, .int .i64 g6, .int .i64 g7, .int .i64 g8, .int .i64 g9, .int .i64 g10, .int .i64 g11, .int .i64 g12, .int .i64 g13] : Array Value)[x]? := hst.f.cell
            have hff := hst.f.frozen
            have HEK : Hid (g5 = k) := HP.out.ek
            have HEP : Hid (g4 = p) := HP.out.ep
            have q1 : 1 ≤ g4 := by have := HEP.out; omega
            have q2 : g4 ≤ 4 := by have := HEP.out; omega
            have hs6 : (0 ≤ g6 ∨ 0 ≤ g6) ∧ g6 ≤ 5 := field_bd HP.out.s (by decide)
            have s61 : 0 ≤ g6 := by omega
            have s62 : g6 ≤ 5 := by omega
            clear hs6
            rcases hc7 with hsj | hsj | hsj | hsj | hsj | hsj | hsj
            ·
              go_wp2_with (go_at_call 20; refine (mod_ex _ _ _ (by decide) (by decide)).mono ?_; rintro e w' ⟨y, rfl, y1, y2, rfl⟩)
              go_roundw
              case rel =>
                go_light
                exact ⟨j + 1, { iss := g0, num := g1, ver := g2, gone := g3, per := g4, kind := g5, st := y, fr := g7, til := g8, seat := g9, share := g10, cur := g11, amt := g12, ref := g13 }, by omega, by go_num, hst.put 6 (.int .i64 y), by rw [HT.out, hsj]; exact HP.out.stepS y (by omega) (by omega) (HU.out hsj)⟩
              case measure => simp [intOf]; omega
            ·
              go_wp2_with (go_at_call 20; refine (mod_ex _ _ _ (by decide) (by decide)).mono ?_; rintro e w' ⟨y, rfl, y1, y2, rfl⟩)
              go_roundw
              case rel =>
                go_light
                exact ⟨j + 1, { iss := g0, num := g1, ver := g2, gone := g3, per := g4, kind := g5, st := g6, fr := fr, til := til, seat := g9, share := g10, cur := g11, amt := g12, ref := g13 }, by omega, by go_num, (hst.put 7 (.int .i64 fr)).put 8 (.int .i64 til), by rw [HT.out, hsj]; exact HP.out.stepP⟩
              case measure => simp [intOf]; omega
            ·
              by_cases hk4 : g5 = 4
              · have hkb : (g5 == 4) = true := by simp [hk4]
                have HK4 := Lib.hid hk4
                clear hk4
                go_wp2_with fail
                refine (mod_ex _ _ _ (by decide) (by decide)).mono ?_
                rintro e w' ⟨y, rfl, y1, y2, rfl⟩
                by_cases hy : y = g6
                · have hyb : (y == g6) = true := by simp [hy]
                  clear hy
                  have hm1 := emod_bd (g6 + 1) 3 (by decide)
                  obtain ⟨hm1, hm2⟩ := hm1
                  have HX : Hid (g6 ≠ (g6 + 1) % 3) := by unfold Hid; omega
                  go_wp2_with (go_at_call 20; refine (mod_any _ _ _ (by decide) (by decide)).mono ?_; rintro e w' ⟨rfl, rfl⟩)
                  go_roundw
                  case rel =>
                    go_light
                    exact ⟨j + 1, { iss := g0, num := g1, ver := g2, gone := g3, per := g4, kind := g5, st := g6, fr := g7, til := g8, seat := (g6 + 1) % 3, share := g10, cur := g11, amt := g12, ref := g13 }, by omega, by go_num, (hst.put 9 (.int .i64 y)).put 9 (.int .i64 ((g6 + 1) % 3)), by rw [HT.out, hsj]; exact HP.out.stepT ((g6 + 1) % 3) (by omega) (by omega) (fun _ => HX.out)⟩
                  case measure => simp [intOf]; omega
                · have hyb : (y == g6) = false := by simp [hy]
                  have HY := Lib.hid hy
                  clear hy
                  go_wp2_with fail
                  go_roundw
                  case rel =>
                    go_light
                    exact ⟨j + 1, { iss := g0, num := g1, ver := g2, gone := g3, per := g4, kind := g5, st := g6, fr := g7, til := g8, seat := y, share := g10, cur := g11, amt := g12, ref := g13 }, by omega, by go_num, hst.put 9 (.int .i64 y), by rw [HT.out, hsj]; exact HP.out.stepT y (by omega) (by omega) (fun _ e => HY.out e.symm)⟩
                  case measure => simp [intOf]; omega
              · have hkb : (g5 == 4) = false := by simp [hk4]
                have HK4 := Lib.hid hk4
                clear hk4
                go_wp2_with (go_at_call 20; refine (mod_ex _ _ _ (by decide) (by decide)).mono ?_; rintro e w' ⟨y, rfl, y1, y2, rfl⟩)
                go_roundw
                case rel =>
                  go_light
                  exact ⟨j + 1, { iss := g0, num := g1, ver := g2, gone := g3, per := g4, kind := g5, st := g6, fr := g7, til := g8, seat := y, share := g10, cur := g11, amt := g12, ref := g13 }, by omega, by go_num, hst.put 9 (.int .i64 y), by rw [HT.out, hsj]; exact HP.out.stepT y (by omega) (by omega) (fun e => absurd (HEK.out.trans e) HK4.out)⟩
                case measure => simp [intOf]; omega
            ·
              go_wp2_with (go_at_call 20; refine (mod_ex _ _ _ (by decide) (by decide)).mono ?_; rintro e w' ⟨y, rfl, y1, y2, rfl⟩)
              go_roundw
              case rel =>
                go_light
                exact ⟨j + 1, { iss := g0, num := g1, ver := g2, gone := g3, per := g4, kind := g5, st := g6, fr := g7, til := g8, seat := g9, share := 1 + y, cur := g11, amt := g12, ref := g13 }, by omega, by go_num, hst.put 10 (.int .i64 (1 + y)), by rw [HT.out, hsj]; exact HP.out.stepH (1 + y) (by omega) (by omega)⟩
              case measure => simp [intOf]; omega
            ·
              go_wp2_with (go_at_call 20; refine (mod_ex _ _ _ (by decide) (by decide)).mono ?_; rintro e w' ⟨y, rfl, y1, y2, rfl⟩)
              go_roundw
              case rel =>
                go_light
                exact ⟨j + 1, { iss := g0, num := g1, ver := g2, gone := g3, per := g4, kind := g5, st := g6, fr := g7, til := g8, seat := g9, share := g10, cur := 1 + y, amt := g12, ref := g13 }, by omega, by go_num, hst.put 11 (.int .i64 (1 + y)), by rw [HT.out, hsj]; exact HP.out.stepC (1 + y) (by omega) (by omega)⟩
              case measure => simp [intOf]; omega
            ·
              go_wp2_with (go_at_call 20; refine (mod_ex _ _ _ (by decide) (by decide)).mono ?_; rintro e w' ⟨y, rfl, y1, y2, rfl⟩)
              go_roundw
              case rel =>
                go_light
                exact ⟨j + 1, { iss := g0, num := g1, ver := g2, gone := g3, per := g4, kind := g5, st := g6, fr := g7, til := g8, seat := g9, share := g10, cur := g11, amt := y, ref := g13 }, by omega, by go_num, hst.put 12 (.int .i64 y), by rw [HT.out, hsj]; exact HP.out.stepA y (by omega) (by omega)⟩
              case measure => simp [intOf]; omega
            ·
              go_wp2_with fail
              refine (mod_ex _ _ _ (by decide) (by decide)).mono ?_
              rintro e w' ⟨y, rfl, y1, y2, rfl⟩
              by_cases hy : 1 + y = g4
              · have hyb : (1 + y == g4) = true := by simp [hy]
                clear hy
                have hm1 := emod_bd g4 4 (by decide)
                obtain ⟨hm1, hm2⟩ := hm1
                have HX : Hid (1 + g4 % 4 ≠ p) := by have := HEP.out; unfold Hid; omega
                go_wp2_with (go_at_call 20; refine (mod_any _ _ _ (by decide) (by decide)).mono ?_; rintro e w' ⟨rfl, rfl⟩)
                go_roundw
                case rel =>
                  go_light
                  exact ⟨j + 1, { iss := g0, num := g1, ver := g2, gone := g3, per := g4, kind := g5, st := g6, fr := g7, til := g8, seat := g9, share := g10, cur := g11, amt := g12, ref := 1 + g4 % 4 }, by omega, by go_num, (hst.put 13 (.int .i64 (1 + y))).put 13 (.int .i64 (1 + g4 % 4)), by rw [HT.out, hsj]; exact HP.out.stepR (1 + g4 % 4) (by omega) (by omega) HX.out⟩
                case measure => simp [intOf]; omega
              · have hyb : (1 + y == g4) = false := by simp [hy]
                have HY := Lib.hid hy
                clear hy
                go_wp2_with fail
                go_roundw
                case rel =>
                  go_light
                  exact ⟨j + 1, { iss := g0, num := g1, ver := g2, gone := g3, per := g4, kind := g5, st := g6, fr := g7, til := g8, seat := g9, share := g10, cur := g11, amt := g12, ref := 1 + y }, by omega, by go_num, hst.put 13 (.int .i64 (1 + y)), by rw [HT.out, hsj]; exact HP.out.stepR (1 + y) (by omega) (by omega) (fun e => HY.out (e.trans HEP.out.symm))⟩
                case measure => simp [intOf]; omega
          · have hj' : j = s.size := by omega
            subst hj'
            have hcf : ∀ x, wr.cell? ⟨w.heap.size + 2, x, none⟩ = (#[.int .i64 g0, .int .i64 g1, .int .i64 g2, .bool g3, .int .i64 g4, .int .i64 g5, .int .i64 g6, .int .i64 g7, .int .i64 g8, .int .i64 g9, .int .i64 g10, .int .i64 g11, .int .i64 g12, .int .i64 g13] : Array Value)[x]? := hst.f.cell
            have hcz : ∀ x, wr.cell? ⟨w.heap.size + 1, x, none⟩ = (#[.int .i64 0, .int .i64 0, .int .i64 0, .bool false, .int .i64 0, .int .i64 0, .int .i64 0, .int .i64 0, .int .i64 0, .int .i64 0, .int .i64 0, .int .i64 0, .int .i64 0, .int .i64 0] : Array Value)[x]? := hst.z.cell
            have hfz := hst.z.frozen
            go_wp2
            refine bodyPost_ret (v := .agg (fcells ⟨g0, g1, g2, g3, g4, g5, g6, g7, g8, g9, g10, g11, g12, g13⟩)) (results_cell_row Try.results48 _ _ (w.heap.size + 1) 76 _ (0, 0) _ rfl (z_put14 hst.z g0 g1 g2 g3 g4 g5 g6 g7 g8 g9 g10 g11 g12 g13) Try.underlying76 rfl info_fact) rfl ?_
            refine ⟨_, rfl, ?_, ?_⟩
            · go_light
              have e : s.data.toList.take s.size = usesL k := by
                have h1 : s.data.toList.length = s.size := by simp
                rw [← h1, List.take_length, HS.out]
                rfl
              have hp := HP.out
              rw [e] at hp
              exact hp.valid (by simp only [spanB, decide_eq_true_eq]; omega) hk11.out
            · go_light
              exact b_put14 hst.bel (by omega) g0 g1 g2 g3 g4 g5 g6 g7 g8 g9 g10 g11 g12 g13
end Go.Proofs.Ytkkjiihdmpngbaa
