/-
  The contract of the reference's Bytes: the same bytes.
-/
import Derived.Test.YtkkjiihdmpngbaaFb2
import Derived.Test.YtkkjiihdmpngbaaMix
namespace Go.Proofs.Ytkkjiihdmpngbaa
open Go.RowKit

/-- Where the reference's Bytes stands. -/
structure RSt (w : World) (B nb : Nat) (cs : Array Value) (v : Value) (l : List UInt8) (wr : World) : Prop where
  own : wr.ownsRow B 5 1 v l.length (bytesV l)
  bel : Below w.heap.size w wr
  blk : BlkIs wr nb 76 cs
  nb : nb < B
  hB : B ≤ wr.heap.size
  hw : w.heap.size ≤ B
  len : l.length ≤ 1000

def RStPost (w : World) (B nb : Nat) (cs : Array Value) (l : List UInt8) (wr : World) (e : Ending) (w' : World) : Prop :=
  ∃ v', e = .returned v' ∧ RSt w B nb cs v' l w' ∧ Below B wr w'

theorem RSt.step {w wr : World} {B nb : Nat} {cs : Array Value} {v : Value} {l : List UInt8} (h : RSt w B nb cs v l wr) (x : Int) (size : Nat) (sz : Int) (l' : List UInt8)
    (hl' : l ++ be size x = l') (hsz : sz = size) (hs : size ≤ 8) (hll : l'.length ≤ 1000) :
    Calls Try.prog 81 #[v, .int .i64 x, .int .i64 sz] wr (RStPost w B nb cs l' wr) := by
  subst hsz
  have hlen := h.len
  refine (big_any B v l x size wr hs (by omega) h.own h.hB).mono ?_
  rintro e w' ⟨v', rfl, ho, hb, hk⟩
  rw [hl'] at ho
  exact ⟨v', rfl, ⟨ho, h.bel.trans (hb.mono h.hw), h.blk.below hb h.nb, h.nb, Nat.le_trans h.hB hb.size, h.hw, hll⟩, hb⟩
theorem RSt.drew {w wr : World} {B nb : Nat} {cs : Array Value} {v : Value} {l : List UInt8} (h : RSt w B nb cs v l wr) : RSt w B nb cs v l wr.drew :=
  ⟨h.own, h.bel.drew, h.blk, h.nb, h.hB, h.hw, h.len⟩
theorem RSt.next {w wr w' : World} {B nb : Nat} {cs : Array Value} {v : Value} {l : List UInt8} (h : RSt w B nb cs v l wr) (hb : Below wr.heap.size wr w') : RSt w B nb cs v l w' := by
  refine ⟨⟨h.own.1, ?_⟩, h.bel.trans (hb.mono (Nat.le_trans h.hw h.hB)), h.blk.below hb h.blk.lt, h.nb, Nat.le_trans h.hB hb.size, h.hw, h.len⟩
  rcases h.own.2 with h0 | ⟨g, cap, cur, hv, hg, hh, rest⟩
  · exact .inl h0
  · exact .inr ⟨g, cap, cur, hv, hg, (hb.block g (Array.getElem?_eq_some_iff.1 hh).1).trans hh, rest⟩

set_option maxRecDepth 100000 in
set_option maxHeartbeats 4000000 in
theorem rbytes_any (a0 a1 a2 : Int) (a3 : Bool) (a4 a5 a6 a7 a8 a9 a10 a11 a12 a13 : Int) (w : World) :
    Calls Try.prog 74 #[.agg #[.int .i64 a0, .int .i64 a1, .int .i64 a2, .bool a3, .int .i64 a4, .int .i64 a5, .int .i64 a6, .int .i64 a7, .int .i64 a8, .int .i64 a9, .int .i64 a10, .int .i64 a11, .int .i64 a12, .int .i64 a13]] w (BigPost w.heap.size (factO ⟨a0, a1, a2, a3, a4, a5, a6, a7, a8, a9, a10, a11, a12, a13⟩) w) := by
  rcases hv : validB ⟨a0, a1, a2, a3, a4, a5, a6, a7, a8, a9, a10, a11, a12, a13⟩ with _ | _
  · have HV := Lib.hid (rvalid_any a0 a1 a2 a3 a4 a5 a6 a7 a8 a9 a10 a11 a12 a13)
    have HO : Hid (factO ⟨a0, a1, a2, a3, a4, a5, a6, a7, a8, a9, a10, a11, a12, a13⟩ = []) := by simp [Hid, factO, hv]
    rw [hv] at HV
    clear hv
    go_enter Try.func74, Try.ntmps74
    go_wp2_with (go_at_call 73; refine (HV.out _).mono ?_; rintro e w1 ⟨rfl, hb1⟩)
    go_ret
    rw [HO.out]
    exact ⟨_, rfl, ⟨rfl, .inl ⟨rfl, rfl⟩⟩, Below.boxed hb1, Kp.of_below (Below.boxed hb1)⟩
  · have HO : Hid (factO ⟨a0, a1, a2, a3, a4, a5, a6, a7, a8, a9, a10, a11, a12, a13⟩ = factL ⟨a0, a1, a2, a3, a4, a5, a6, a7, a8, a9, a10, a11, a12, a13⟩) := by simp [Hid, factO, hv]
    cases a3
    ·
      have HV := Lib.hid (rvalid_any a0 a1 a2 false a4 a5 a6 a7 a8 a9 a10 a11 a12 a13)
      rw [hv] at HV
      clear hv
      go_enter Try.func74, Try.ntmps74
      go_wp2_with (go_at_call 73; refine (HV.out _).mono ?_; rintro e w1 ⟨rfl, hb1⟩; have hblk : BlkIs w1 w.heap.size 76 #[.int .i64 a0, .int .i64 a1, .int .i64 a2, .bool false, .int .i64 a4, .int .i64 a5, .int .i64 a6, .int .i64 a7, .int .i64 a8, .int .i64 a9, .int .i64 a10, .int .i64 a11, .int .i64 a12, .int .i64 a13] := BlkIs.below (BlkIs.new w _ _) hb1 (by simp); have hcl := hblk.cell)
      have hst1 : RSt w w1.heap.size w.heap.size #[.int .i64 a0, .int .i64 a1, .int .i64 a2, .bool false, .int .i64 a4, .int .i64 a5, .int .i64 a6, .int .i64 a7, .int .i64 a8, .int .i64 a9, .int .i64 a10, .int .i64 a11, .int .i64 a12, .int .i64 a13] (.slice none 0 0) [] w1.drew := RSt.drew ⟨⟨rfl, .inl ⟨rfl, rfl⟩⟩, Below.boxed hb1, hblk, hblk.lt, Nat.le_refl _, (Below.boxed hb1).size, by simp⟩
      clear hblk hcl
      obtain ⟨B, hBe⟩ : ∃ B, B = w1.heap.size := ⟨_, rfl⟩
      rw [← hBe] at hst1
      clear hBe
      refine wp_region_ml [2, 5, 8, 10, 13, 16] [0, 1, 3, 4, 6, 7, 9, 11, 12, 14, 15, 2, 5, 8, 10, 13, 16, 17] B (by kernel_rfl) (by kernel_rfl) rfl (by decide) (by kernel_rfl) (fun _ _ _ _ _ h => h) ?_
      simp only [marked, List.getElem?_cons_zero, List.getElem?_cons_succ, List.contains_cons, List.contains_nil, Nat.reduceBEq, Bool.or_false, Bool.or_true, BEq.rfl]
      generalize w1.drew = w2 at *
      have hcl := hst1.blk.cell
      have hnb := hst1.nb
      repeat (refine ml_quiet ?_; go_big_quiet_step (fail); refine wpQuiet_nil ?_)
      refine ml_loud rfl ?_
      intro K hK
      go_simp
      go_at_call 81
      refine (hst1.step a0 1 _ (be 1 a0) (by simp) rfl (by decide) (by simp [be_length])).mono ?_
      rintro e w3 ⟨v3, rfl, hst3, hb3⟩
      refine hK _ _ B (Nat.le_refl _) hb3 ?_
      clear hK K
      have hcl3 := hst3.blk.cell
      clear hb3
      clear hcl hst1
      repeat (refine ml_quiet ?_; go_big_quiet_step (fail); refine wpQuiet_nil ?_)
      refine ml_loud rfl ?_
      intro K hK
      go_simp
      go_at_call 81
      refine (hst3.step a1 2 _ (be 1 a0 ++ be 2 a1) (by simp) rfl (by decide) (by simp [be_length])).mono ?_
      rintro e w4 ⟨v4, rfl, hst4, hb4⟩
      refine hK _ _ B (Nat.le_refl _) hb4 ?_
      clear hK K
      have hcl4 := hst4.blk.cell
      clear hb4
      clear hcl3 hst3
      repeat (refine ml_quiet ?_; go_big_quiet_step (fail); refine wpQuiet_nil ?_)
      refine ml_loud rfl ?_
      intro K hK
      go_simp
      go_at_call 81
      refine (hst4.step a2 1 _ (be 1 a0 ++ be 2 a1 ++ be 1 a2) (by simp) rfl (by decide) (by simp [be_length])).mono ?_
      rintro e w5 ⟨v5, rfl, hst5, hb5⟩
      refine hK _ _ B (Nat.le_refl _) hb5 ?_
      clear hK K
      have hcl5 := hst5.blk.cell
      clear hb5
      clear hcl4 hst4
      repeat (refine ml_quiet ?_; go_big_quiet_step (fail); refine wpQuiet_nil ?_)
      refine ml_loud rfl ?_
      intro K hK
      go_simp
      go_at_call 81
      refine (hst5.step 0 1 _ (be 1 a0 ++ be 2 a1 ++ be 1 a2 ++ be 1 0) (by simp) rfl (by decide) (by simp [be_length])).mono ?_
      rintro e w6 ⟨v6, rfl, hst6, hb6⟩
      refine hK _ _ B (Nat.le_refl _) hb6 ?_
      clear hK K
      have hcl6 := hst6.blk.cell
      clear hb6
      clear hcl5 hst5
      repeat (refine ml_quiet ?_; go_big_quiet_step (fail); refine wpQuiet_nil ?_)
      refine ml_loud rfl ?_
      intro K hK
      go_simp
      go_at_call 81
      refine (hst6.step a4 1 _ (be 1 a0 ++ be 2 a1 ++ be 1 a2 ++ be 1 0 ++ be 1 a4) (by simp) rfl (by decide) (by simp [be_length])).mono ?_
      rintro e w7 ⟨v7, rfl, hst7, hb7⟩
      refine hK _ _ B (Nat.le_refl _) hb7 ?_
      clear hK K
      have hcl7 := hst7.blk.cell
      clear hb7
      clear hcl6 hst6
      repeat (refine ml_quiet ?_; go_big_quiet_step (fail); refine wpQuiet_nil ?_)
      refine ml_loud rfl ?_
      intro K hK
      go_simp
      go_at_call 81
      refine (hst7.step a5 1 _ (be 1 a0 ++ be 2 a1 ++ be 1 a2 ++ be 1 0 ++ be 1 a4 ++ be 1 a5) (by simp) rfl (by decide) (by simp [be_length])).mono ?_
      rintro e w8 ⟨v8, rfl, hst8, hb8⟩
      refine hK _ _ B (Nat.le_refl _) hb8 ?_
      clear hK K
      have hcl8 := hst8.blk.cell
      clear hb8
      clear hcl7 hst7
      repeat (refine ml_quiet ?_; go_big_quiet_step (fail); refine wpQuiet_nil ?_)
      refine ml_nil ?_
      have hcl := hcl8
      clear hcl8
      go_wp2_with (go_at_call 71; refine (ruses_any _ _).mono ?_; rintro e w9 ⟨rfl, hb9⟩)
      have hst9 := hst8.next hb9
      clear hcl hb9 hst8
      obtain ⟨s, hs⟩ : ∃ s, s = usesS a5 := ⟨_, rfl⟩
      have HS := Lib.hid hs
      rw [← hs]
      clear hs
      have hssz : s.size ≤ 6 := by rw [HS.out]; exact usesL_le a5
      have hhl := headB_len ⟨a0, a1, a2, false, a4, a5, a6, a7, a8, a9, a10, a11, a12, a13⟩
      obtain ⟨hd, hhd⟩ : ∃ hd, hd = headB ⟨a0, a1, a2, false, a4, a5, a6, a7, a8, a9, a10, a11, a12, a13⟩ := ⟨_, rfl⟩
      have HHD := Lib.hid hhd
      have hst10 : RSt w B w.heap.size #[.int .i64 a0, .int .i64 a1, .int .i64 a2, .bool false, .int .i64 a4, .int .i64 a5, .int .i64 a6, .int .i64 a7, .int .i64 a8, .int .i64 a9, .int .i64 a10, .int .i64 a11, .int .i64 a12, .int .i64 a13] v8 hd w9 := by
        have e : hd = be 1 a0 ++ be 2 a1 ++ be 1 a2 ++ be 1 0 ++ be 1 a4 ++ be 1 a5 := by rw [hhd]; simp [headB, b01]
        rw [e]; exact hst9
      rw [← hhd] at hhl
      clear hhd hst9
      go_loopw [4, 6] (fun v t wr => ∃ (j : Nat) (l : List UInt8), j ≤ s.size ∧ t = .int .i64 j ∧ RSt w B w.heap.size #[.int .i64 a0, .int .i64 a1, .int .i64 a2, .bool false, .int .i64 a4, .int .i64 a5, .int .i64 a6, .int .i64 a7, .int .i64 a8, .int .i64 a9, .int .i64 a10, .int .i64 a11, .int .i64 a12, .int .i64 a13] v l wr ∧ l.length ≤ 7 + 6 * j ∧ Hid (l = hd ++ (s.data.toList.take j).flatMap (letterB ⟨a0, a1, a2, false, a4, a5, a6, a7, a8, a9, a10, a11, a12, a13⟩)))
        (fun _ t _ => s.size - (intOf t).toNat)
      case atStart => exact ⟨0, hd, Nat.zero_le _, rfl, hst10, by omega, by simp [Hid]⟩
      case round =>
        obtain ⟨j, l, hj, rfl, hst, hlen, heq⟩ := hrel
        clear hst10 hhl
        by_cases hlt : j < s.size
        · have hmem : s[j] ∈ usesL a5 := by
            have h1 : s[j] ∈ s.data.toList := List.getElem_mem (l := s.data.toList) (n := j) (by simpa using hlt)
            have h2 : s.data.toList = usesL a5 := by rw [HS.out]; rfl
            rw [h2] at h1
            exact h1
          have hc7 := uses_mem a5 _ hmem
          clear hmem
          have HT : Hid ((s.data.toList.take (j + 1)).flatMap (letterB ⟨a0, a1, a2, false, a4, a5, a6, a7, a8, a9, a10, a11, a12, a13⟩) = (s.data.toList.take j).flatMap (letterB ⟨a0, a1, a2, false, a4, a5, a6, a7, a8, a9, a10, a11, a12, a13⟩) ++ letterB ⟨a0, a1, a2, false, a4, a5, a6, a7, a8, a9, a10, a11, a12, a13⟩ s[j]) := flat_take s.data.toList _ j (by simpa using hlt)
          have hcl := hst.blk.cell
          rcases hc7 with hsj | hsj | hsj | hsj | hsj | hsj | hsj
          ·
            go_wp2_with fail
            refine (hst.step a6 1 _ (l ++ be 1 a6) rfl rfl (by decide) (by simp [be_length]; omega)).mono ?_
            rintro e w11 ⟨v11, rfl, hst11, hb11⟩
            clear hcl hst hb11
            go_wp2
            go_roundw
            case rel =>
              go_light
              refine ⟨j + 1, _, by omega, by go_num, hst11, by simp [be_length]; omega, ?_⟩
              unfold Hid
              rw [HT.out, heq.out, hsj]
              simp [letterB]
            case measure => simp [intOf]; omega
          · go_wp2_with fail
            refine wp_region_ml [4, 8] [0, 1, 2, 3, 5, 6, 7, 4, 8, 9] B (by kernel_rfl) (by kernel_rfl) rfl (by decide) (by kernel_rfl) (fun _ _ _ _ _ h => h) ?_
            simp only [marked, List.getElem?_cons_zero, List.getElem?_cons_succ, List.contains_cons, List.contains_nil, Nat.reduceBEq, Bool.or_false, Bool.or_true, BEq.rfl]
            replace hst := hst.drew
            have hcl := hst.blk.cell
            generalize wr.drew = wr2 at *
            repeat (refine ml_quiet ?_; go_big_quiet_step (fail); refine wpQuiet_nil ?_)
            refine ml_loud rfl ?_
            intro K hK
            go_simp
            go_at_call 81
            refine (hst.step a7 3 _ (l ++ be 3 a7) rfl rfl (by decide) (by simp [be_length]; omega)).mono ?_
            rintro e w11 ⟨v11, rfl, hst11, hb11⟩
            refine hK _ _ B (Nat.le_refl _) hb11 ?_
            clear hK K hb11 hcl
            repeat (refine ml_quiet ?_; go_big_quiet_step (fail); refine wpQuiet_nil ?_)
            refine ml_loud rfl ?_
            intro K hK
            go_simp
            go_at_call 81
            refine (hst11.step a8 3 _ (l ++ be 3 a7 ++ be 3 a8) rfl rfl (by decide) (by simp [be_length]; omega)).mono ?_
            rintro e w12 ⟨v12, rfl, hst12, hb12⟩
            refine hK _ _ B (Nat.le_refl _) hb12 ?_
            clear hK K hb12 hst11
            repeat (refine ml_quiet ?_; go_big_quiet_step (fail); refine wpQuiet_nil ?_)
            refine ml_nil ?_
            go_wp2
            go_roundw
            case rel =>
              go_light
              refine ⟨j + 1, _, by omega, by go_num, hst12, by simp [be_length]; omega, ?_⟩
              unfold Hid
              rw [HT.out, heq.out, hsj]
              simp [letterB]
            case measure => simp [intOf]; omega
          ·
            go_wp2_with fail
            refine (hst.step a9 1 _ (l ++ be 1 a9) rfl rfl (by decide) (by simp [be_length]; omega)).mono ?_
            rintro e w11 ⟨v11, rfl, hst11, hb11⟩
            clear hcl hst hb11
            go_wp2
            go_roundw
            case rel =>
              go_light
              refine ⟨j + 1, _, by omega, by go_num, hst11, by simp [be_length]; omega, ?_⟩
              unfold Hid
              rw [HT.out, heq.out, hsj]
              simp [letterB]
            case measure => simp [intOf]; omega
          ·
            go_wp2_with fail
            refine (hst.step a10 1 _ (l ++ be 1 a10) rfl rfl (by decide) (by simp [be_length]; omega)).mono ?_
            rintro e w11 ⟨v11, rfl, hst11, hb11⟩
            clear hcl hst hb11
            go_wp2
            go_roundw
            case rel =>
              go_light
              refine ⟨j + 1, _, by omega, by go_num, hst11, by simp [be_length]; omega, ?_⟩
              unfold Hid
              rw [HT.out, heq.out, hsj]
              simp [letterB]
            case measure => simp [intOf]; omega
          ·
            go_wp2_with fail
            refine (hst.step a11 2 _ (l ++ be 2 a11) rfl rfl (by decide) (by simp [be_length]; omega)).mono ?_
            rintro e w11 ⟨v11, rfl, hst11, hb11⟩
            clear hcl hst hb11
            go_wp2
            go_roundw
            case rel =>
              go_light
              refine ⟨j + 1, _, by omega, by go_num, hst11, by simp [be_length]; omega, ?_⟩
              unfold Hid
              rw [HT.out, heq.out, hsj]
              simp [letterB]
            case measure => simp [intOf]; omega
          ·
            go_wp2_with fail
            refine (hst.step a12 4 _ (l ++ be 4 a12) rfl rfl (by decide) (by simp [be_length]; omega)).mono ?_
            rintro e w11 ⟨v11, rfl, hst11, hb11⟩
            clear hcl hst hb11
            go_wp2
            go_roundw
            case rel =>
              go_light
              refine ⟨j + 1, _, by omega, by go_num, hst11, by simp [be_length]; omega, ?_⟩
              unfold Hid
              rw [HT.out, heq.out, hsj]
              simp [letterB]
            case measure => simp [intOf]; omega
          ·
            go_wp2_with fail
            refine (hst.step a13 1 _ (l ++ be 1 a13) rfl rfl (by decide) (by simp [be_length]; omega)).mono ?_
            rintro e w11 ⟨v11, rfl, hst11, hb11⟩
            clear hcl hst hb11
            go_wp2
            go_roundw
            case rel =>
              go_light
              refine ⟨j + 1, _, by omega, by go_num, hst11, by simp [be_length]; omega, ?_⟩
              unfold Hid
              rw [HT.out, heq.out, hsj]
              simp [letterB]
            case measure => simp [intOf]; omega
        · have hj' : j = s.size := by omega
          subst hj'
          go_wp2
          go_ret
          have e : l = factL ⟨a0, a1, a2, false, a4, a5, a6, a7, a8, a9, a10, a11, a12, a13⟩ := by
            have h9 : s.data.toList.length = s.size := by simp
            have := heq.out
            rw [← h9, List.take_length, HHD.out, HS.out] at this
            exact this
          rw [HO.out, ← e]
          refine ⟨_, rfl, ?_, hst.bel, Kp.of_below hst.bel⟩
          obtain ⟨q1, q2⟩ := hst.own
          refine ⟨q1, ?_⟩
          rcases q2 with h0 | ⟨g, cap, cur, hv, hg, rest⟩
          · exact .inl h0
          · exact .inr ⟨g, cap, cur, hv, Nat.le_trans hst.hw hg, rest⟩
    ·
      have HV := Lib.hid (rvalid_any a0 a1 a2 true a4 a5 a6 a7 a8 a9 a10 a11 a12 a13)
      rw [hv] at HV
      clear hv
      go_enter Try.func74, Try.ntmps74
      go_wp2_with (go_at_call 73; refine (HV.out _).mono ?_; rintro e w1 ⟨rfl, hb1⟩; have hblk : BlkIs w1 w.heap.size 76 #[.int .i64 a0, .int .i64 a1, .int .i64 a2, .bool true, .int .i64 a4, .int .i64 a5, .int .i64 a6, .int .i64 a7, .int .i64 a8, .int .i64 a9, .int .i64 a10, .int .i64 a11, .int .i64 a12, .int .i64 a13] := BlkIs.below (BlkIs.new w _ _) hb1 (by simp); have hcl := hblk.cell)
      have hst1 : RSt w w1.heap.size w.heap.size #[.int .i64 a0, .int .i64 a1, .int .i64 a2, .bool true, .int .i64 a4, .int .i64 a5, .int .i64 a6, .int .i64 a7, .int .i64 a8, .int .i64 a9, .int .i64 a10, .int .i64 a11, .int .i64 a12, .int .i64 a13] (.slice none 0 0) [] w1.drew := RSt.drew ⟨⟨rfl, .inl ⟨rfl, rfl⟩⟩, Below.boxed hb1, hblk, hblk.lt, Nat.le_refl _, (Below.boxed hb1).size, by simp⟩
      clear hblk hcl
      obtain ⟨B, hBe⟩ : ∃ B, B = w1.heap.size := ⟨_, rfl⟩
      rw [← hBe] at hst1
      clear hBe
      refine wp_region_ml [2, 5, 8, 10, 13, 16] [0, 1, 3, 4, 6, 7, 9, 11, 12, 14, 15, 2, 5, 8, 10, 13, 16, 17] B (by kernel_rfl) (by kernel_rfl) rfl (by decide) (by kernel_rfl) (fun _ _ _ _ _ h => h) ?_
      simp only [marked, List.getElem?_cons_zero, List.getElem?_cons_succ, List.contains_cons, List.contains_nil, Nat.reduceBEq, Bool.or_false, Bool.or_true, BEq.rfl]
      generalize w1.drew = w2 at *
      have hcl := hst1.blk.cell
      have hnb := hst1.nb
      repeat (refine ml_quiet ?_; go_big_quiet_step (fail); refine wpQuiet_nil ?_)
      refine ml_loud rfl ?_
      intro K hK
      go_simp
      go_at_call 81
      refine (hst1.step a0 1 _ (be 1 a0) (by simp) rfl (by decide) (by simp [be_length])).mono ?_
      rintro e w3 ⟨v3, rfl, hst3, hb3⟩
      refine hK _ _ B (Nat.le_refl _) hb3 ?_
      clear hK K
      have hcl3 := hst3.blk.cell
      clear hb3
      clear hcl hst1
      repeat (refine ml_quiet ?_; go_big_quiet_step (fail); refine wpQuiet_nil ?_)
      refine ml_loud rfl ?_
      intro K hK
      go_simp
      go_at_call 81
      refine (hst3.step a1 2 _ (be 1 a0 ++ be 2 a1) (by simp) rfl (by decide) (by simp [be_length])).mono ?_
      rintro e w4 ⟨v4, rfl, hst4, hb4⟩
      refine hK _ _ B (Nat.le_refl _) hb4 ?_
      clear hK K
      have hcl4 := hst4.blk.cell
      clear hb4
      clear hcl3 hst3
      repeat (refine ml_quiet ?_; go_big_quiet_step (fail); refine wpQuiet_nil ?_)
      refine ml_loud rfl ?_
      intro K hK
      go_simp
      go_at_call 81
      refine (hst4.step a2 1 _ (be 1 a0 ++ be 2 a1 ++ be 1 a2) (by simp) rfl (by decide) (by simp [be_length])).mono ?_
      rintro e w5 ⟨v5, rfl, hst5, hb5⟩
      refine hK _ _ B (Nat.le_refl _) hb5 ?_
      clear hK K
      have hcl5 := hst5.blk.cell
      clear hb5
      clear hcl4 hst4
      repeat (refine ml_quiet ?_; go_big_quiet_step (fail); refine wpQuiet_nil ?_)
      refine ml_loud rfl ?_
      intro K hK
      go_simp
      go_at_call 81
      refine (hst5.step 1 1 _ (be 1 a0 ++ be 2 a1 ++ be 1 a2 ++ be 1 1) (by simp) rfl (by decide) (by simp [be_length])).mono ?_
      rintro e w6 ⟨v6, rfl, hst6, hb6⟩
      refine hK _ _ B (Nat.le_refl _) hb6 ?_
      clear hK K
      have hcl6 := hst6.blk.cell
      clear hb6
      clear hcl5 hst5
      repeat (refine ml_quiet ?_; go_big_quiet_step (fail); refine wpQuiet_nil ?_)
      refine ml_loud rfl ?_
      intro K hK
      go_simp
      go_at_call 81
      refine (hst6.step a4 1 _ (be 1 a0 ++ be 2 a1 ++ be 1 a2 ++ be 1 1 ++ be 1 a4) (by simp) rfl (by decide) (by simp [be_length])).mono ?_
      rintro e w7 ⟨v7, rfl, hst7, hb7⟩
      refine hK _ _ B (Nat.le_refl _) hb7 ?_
      clear hK K
      have hcl7 := hst7.blk.cell
      clear hb7
      clear hcl6 hst6
      repeat (refine ml_quiet ?_; go_big_quiet_step (fail); refine wpQuiet_nil ?_)
      refine ml_loud rfl ?_
      intro K hK
      go_simp
      go_at_call 81
      refine (hst7.step a5 1 _ (be 1 a0 ++ be 2 a1 ++ be 1 a2 ++ be 1 1 ++ be 1 a4 ++ be 1 a5) (by simp) rfl (by decide) (by simp [be_length])).mono ?_
      rintro e w8 ⟨v8, rfl, hst8, hb8⟩
      refine hK _ _ B (Nat.le_refl _) hb8 ?_
      clear hK K
      have hcl8 := hst8.blk.cell
      clear hb8
      clear hcl7 hst7
      repeat (refine ml_quiet ?_; go_big_quiet_step (fail); refine wpQuiet_nil ?_)
      refine ml_nil ?_
      have hcl := hcl8
      clear hcl8
      go_wp2_with (go_at_call 71; refine (ruses_any _ _).mono ?_; rintro e w9 ⟨rfl, hb9⟩)
      have hst9 := hst8.next hb9
      clear hcl hb9 hst8
      obtain ⟨s, hs⟩ : ∃ s, s = usesS a5 := ⟨_, rfl⟩
      have HS := Lib.hid hs
      rw [← hs]
      clear hs
      have hssz : s.size ≤ 6 := by rw [HS.out]; exact usesL_le a5
      have hhl := headB_len ⟨a0, a1, a2, true, a4, a5, a6, a7, a8, a9, a10, a11, a12, a13⟩
      obtain ⟨hd, hhd⟩ : ∃ hd, hd = headB ⟨a0, a1, a2, true, a4, a5, a6, a7, a8, a9, a10, a11, a12, a13⟩ := ⟨_, rfl⟩
      have HHD := Lib.hid hhd
      have hst10 : RSt w B w.heap.size #[.int .i64 a0, .int .i64 a1, .int .i64 a2, .bool true, .int .i64 a4, .int .i64 a5, .int .i64 a6, .int .i64 a7, .int .i64 a8, .int .i64 a9, .int .i64 a10, .int .i64 a11, .int .i64 a12, .int .i64 a13] v8 hd w9 := by
        have e : hd = be 1 a0 ++ be 2 a1 ++ be 1 a2 ++ be 1 1 ++ be 1 a4 ++ be 1 a5 := by rw [hhd]; simp [headB, b01]
        rw [e]; exact hst9
      rw [← hhd] at hhl
      clear hhd hst9
      go_loopw [4, 6] (fun v t wr => ∃ (j : Nat) (l : List UInt8), j ≤ s.size ∧ t = .int .i64 j ∧ RSt w B w.heap.size #[.int .i64 a0, .int .i64 a1, .int .i64 a2, .bool true, .int .i64 a4, .int .i64 a5, .int .i64 a6, .int .i64 a7, .int .i64 a8, .int .i64 a9, .int .i64 a10, .int .i64 a11, .int .i64 a12, .int .i64 a13] v l wr ∧ l.length ≤ 7 + 6 * j ∧ Hid (l = hd ++ (s.data.toList.take j).flatMap (letterB ⟨a0, a1, a2, true, a4, a5, a6, a7, a8, a9, a10, a11, a12, a13⟩)))
        (fun _ t _ => s.size - (intOf t).toNat)
      case atStart => exact ⟨0, hd, Nat.zero_le _, rfl, hst10, by omega, by simp [Hid]⟩
      case round =>
        obtain ⟨j, l, hj, rfl, hst, hlen, heq⟩ := hrel
        clear hst10 hhl
        by_cases hlt : j < s.size
        · have hmem : s[j] ∈ usesL a5 := by
            have h1 : s[j] ∈ s.data.toList := List.getElem_mem (l := s.data.toList) (n := j) (by simpa using hlt)
            have h2 : s.data.toList = usesL a5 := by rw [HS.out]; rfl
            rw [h2] at h1
            exact h1
          have hc7 := uses_mem a5 _ hmem
          clear hmem
          have HT : Hid ((s.data.toList.take (j + 1)).flatMap (letterB ⟨a0, a1, a2, true, a4, a5, a6, a7, a8, a9, a10, a11, a12, a13⟩) = (s.data.toList.take j).flatMap (letterB ⟨a0, a1, a2, true, a4, a5, a6, a7, a8, a9, a10, a11, a12, a13⟩) ++ letterB ⟨a0, a1, a2, true, a4, a5, a6, a7, a8, a9, a10, a11, a12, a13⟩ s[j]) := flat_take s.data.toList _ j (by simpa using hlt)
          have hcl := hst.blk.cell
          rcases hc7 with hsj | hsj | hsj | hsj | hsj | hsj | hsj
          ·
            go_wp2_with fail
            refine (hst.step a6 1 _ (l ++ be 1 a6) rfl rfl (by decide) (by simp [be_length]; omega)).mono ?_
            rintro e w11 ⟨v11, rfl, hst11, hb11⟩
            clear hcl hst hb11
            go_wp2
            go_roundw
            case rel =>
              go_light
              refine ⟨j + 1, _, by omega, by go_num, hst11, by simp [be_length]; omega, ?_⟩
              unfold Hid
              rw [HT.out, heq.out, hsj]
              simp [letterB]
            case measure => simp [intOf]; omega
          · go_wp2_with fail
            refine wp_region_ml [4, 8] [0, 1, 2, 3, 5, 6, 7, 4, 8, 9] B (by kernel_rfl) (by kernel_rfl) rfl (by decide) (by kernel_rfl) (fun _ _ _ _ _ h => h) ?_
            simp only [marked, List.getElem?_cons_zero, List.getElem?_cons_succ, List.contains_cons, List.contains_nil, Nat.reduceBEq, Bool.or_false, Bool.or_true, BEq.rfl]
            replace hst := hst.drew
            have hcl := hst.blk.cell
            generalize wr.drew = wr2 at *
            repeat (refine ml_quiet ?_; go_big_quiet_step (fail); refine wpQuiet_nil ?_)
            refine ml_loud rfl ?_
            intro K hK
            go_simp
            go_at_call 81
            refine (hst.step a7 3 _ (l ++ be 3 a7) rfl rfl (by decide) (by simp [be_length]; omega)).mono ?_
            rintro e w11 ⟨v11, rfl, hst11, hb11⟩
            refine hK _ _ B (Nat.le_refl _) hb11 ?_
            clear hK K hb11 hcl
            repeat (refine ml_quiet ?_; go_big_quiet_step (fail); refine wpQuiet_nil ?_)
            refine ml_loud rfl ?_
            intro K hK
            go_simp
            go_at_call 81
            refine (hst11.step a8 3 _ (l ++ be 3 a7 ++ be 3 a8) rfl rfl (by decide) (by simp [be_length]; omega)).mono ?_
            rintro e w12 ⟨v12, rfl, hst12, hb12⟩
            refine hK _ _ B (Nat.le_refl _) hb12 ?_
            clear hK K hb12 hst11
            repeat (refine ml_quiet ?_; go_big_quiet_step (fail); refine wpQuiet_nil ?_)
            refine ml_nil ?_
            go_wp2
            go_roundw
            case rel =>
              go_light
              refine ⟨j + 1, _, by omega, by go_num, hst12, by simp [be_length]; omega, ?_⟩
              unfold Hid
              rw [HT.out, heq.out, hsj]
              simp [letterB]
            case measure => simp [intOf]; omega
          ·
            go_wp2_with fail
            refine (hst.step a9 1 _ (l ++ be 1 a9) rfl rfl (by decide) (by simp [be_length]; omega)).mono ?_
            rintro e w11 ⟨v11, rfl, hst11, hb11⟩
            clear hcl hst hb11
            go_wp2
            go_roundw
            case rel =>
              go_light
              refine ⟨j + 1, _, by omega, by go_num, hst11, by simp [be_length]; omega, ?_⟩
              unfold Hid
              rw [HT.out, heq.out, hsj]
              simp [letterB]
            case measure => simp [intOf]; omega
          ·
            go_wp2_with fail
            refine (hst.step a10 1 _ (l ++ be 1 a10) rfl rfl (by decide) (by simp [be_length]; omega)).mono ?_
            rintro e w11 ⟨v11, rfl, hst11, hb11⟩
            clear hcl hst hb11
            go_wp2
            go_roundw
            case rel =>
              go_light
              refine ⟨j + 1, _, by omega, by go_num, hst11, by simp [be_length]; omega, ?_⟩
              unfold Hid
              rw [HT.out, heq.out, hsj]
              simp [letterB]
            case measure => simp [intOf]; omega
          ·
            go_wp2_with fail
            refine (hst.step a11 2 _ (l ++ be 2 a11) rfl rfl (by decide) (by simp [be_length]; omega)).mono ?_
            rintro e w11 ⟨v11, rfl, hst11, hb11⟩
            clear hcl hst hb11
            go_wp2
            go_roundw
            case rel =>
              go_light
              refine ⟨j + 1, _, by omega, by go_num, hst11, by simp [be_length]; omega, ?_⟩
              unfold Hid
              rw [HT.out, heq.out, hsj]
              simp [letterB]
            case measure => simp [intOf]; omega
          ·
            go_wp2_with fail
            refine (hst.step a12 4 _ (l ++ be 4 a12) rfl rfl (by decide) (by simp [be_length]; omega)).mono ?_
            rintro e w11 ⟨v11, rfl, hst11, hb11⟩
            clear hcl hst hb11
            go_wp2
            go_roundw
            case rel =>
              go_light
              refine ⟨j + 1, _, by omega, by go_num, hst11, by simp [be_length]; omega, ?_⟩
              unfold Hid
              rw [HT.out, heq.out, hsj]
              simp [letterB]
            case measure => simp [intOf]; omega
          ·
            go_wp2_with fail
            refine (hst.step a13 1 _ (l ++ be 1 a13) rfl rfl (by decide) (by simp [be_length]; omega)).mono ?_
            rintro e w11 ⟨v11, rfl, hst11, hb11⟩
            clear hcl hst hb11
            go_wp2
            go_roundw
            case rel =>
              go_light
              refine ⟨j + 1, _, by omega, by go_num, hst11, by simp [be_length]; omega, ?_⟩
              unfold Hid
              rw [HT.out, heq.out, hsj]
              simp [letterB]
            case measure => simp [intOf]; omega
        · have hj' : j = s.size := by omega
          subst hj'
          go_wp2
          go_ret
          have e : l = factL ⟨a0, a1, a2, true, a4, a5, a6, a7, a8, a9, a10, a11, a12, a13⟩ := by
            have h9 : s.data.toList.length = s.size := by simp
            have := heq.out
            rw [← h9, List.take_length, HHD.out, HS.out] at this
            exact this
          rw [HO.out, ← e]
          refine ⟨_, rfl, ?_, hst.bel, Kp.of_below hst.bel⟩
          obtain ⟨q1, q2⟩ := hst.own
          refine ⟨q1, ?_⟩
          rcases q2 with h0 | ⟨g, cap, cur, hv, hg, rest⟩
          · exact .inl h0
          · exact .inr ⟨g, cap, cur, hv, Nat.le_trans hst.hw hg, rest⟩
end Go.Proofs.Ytkkjiihdmpngbaa
