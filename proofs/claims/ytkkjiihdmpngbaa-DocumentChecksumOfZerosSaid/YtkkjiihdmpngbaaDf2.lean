/-
  Contracts: Encode of the reference.
-/
import Derived.Test.YtkkjiihdmpngbaaDf1
import Derived.Test.YtkkjiihdmpngbaaRg
import Derived.Test.YtkkjiihdmpngbaaDb2
import Derived.Outline
namespace Go.Proofs.Ytkkjiihdmpngbaa
open Go.RowKit
set_option linter.unusedVariables false

theorem Sl.of_blk {w : World} {g : Nat} {cs : Array Value} {l : List UInt8} (h : BlkIs w g 5 cs) (hc : cs.toList = bytesV l) : Sl w.heap.size w (.slice (some ⟨g, 0, none⟩) l.length l.length) l := by
  refine ⟨_, _, rfl, Nat.le_refl _, fun _ => ⟨g, 0, rfl, h.lt, fun j u hu => ?_⟩⟩
  rw [Nat.zero_add, h.cell, ← Array.getElem?_toList, hc]
  simp [bytesV, hu]
set_option maxRecDepth 100000 in
set_option maxHeartbeats 1000000 in
theorem rencode_any (s n k p : Int) (v : Value) (l : List UInt8) (w : World) (hsl : Sl w.heap.size w v l) (hz : ∀ c, v = .slice none 0 c → c = 0) (hl : l.length ≤ 4611686018427387904) (hp0 : 0 ≤ p) (hp1 : p < 4294967296) :
    Calls Try.prog 23 #[.agg (docV s n k p v)] w (EncPost s n k p l w) := by
  obtain ⟨a, c, hv, hc, hx⟩ := id hsl
  subst hv
  clear hx
  simp only [docV]
  have hbel : Below w.heap.size w (w.alloc (.cells #[.int .i64 s, .int .i64 n, .int .i64 k, .int .u32 p, .slice a l.length c] 34)) := (Below.refl _ _).alloc (Nat.le_refl _) _
  have HSL := Lib.hid ((hsl.below hbel).mono hbel.size)
  rcases hd : docB s n k p l with _ | _
  · have HO : Hid (encO s n k p l = [] ∧ encE s n k p l = 1) := by simp [Hid, encO, encE, hd]
    have HD := Lib.hid hd
    clear hd
    go_enter Try.func23, Try.ntmps23
    go_wp2_with fail
    refine (rvalidd_any s n k p _ l _ HSL.out hl).mono ?_
    rintro e w1 ⟨rfl, hb1⟩
    rw [HD.out]
    go_wp2
    go_ret2
    unfold EncPost
    rw [HO.out.1, HO.out.2]
    exact ⟨_, rfl, ⟨rfl, .inl ⟨rfl, rfl⟩⟩, bnext hbel hb1⟩
  · have hlen := bodyB_len (docB_parts hd).2.2.2
    have HO : Hid (encO s n k p l = encA s n k p l ∧ encE s n k p l = 0) := by simp [Hid, encO, encE, hd]
    have HD := Lib.hid hd
    clear hd
    go_enter Try.func23, Try.ntmps23
    go_wp2_with fail
    refine (rvalidd_any s n k p _ l _ HSL.out hl).mono ?_
    rintro e w1 ⟨rfl, hb1⟩
    rw [HD.out]
    have hbox := (BlkIs.new w 34 #[.int .i64 s, .int .i64 n, .int .i64 k, .int .u32 p, .slice a l.length c]).below hb1 (by simp)
    replace hbel := bnext hbel hb1
    clear hb1
    have q4 : Part1 w1 (.slice a l.length c) l := ⟨(hsl.below hbel).mono hbel.size, hz⟩
    go_wp2
    refine wp_region_rg [] [⟨6, 14, 5, #[.int .u8 68, .int .u8 (k % 256), .int .u8 (s % 256)], fun b => .slice (some ⟨b, 0, none⟩) 3 3⟩] [9, 13, 17, 20, 21] [0, 1, 2, 3, 4, 5, 7, 8, 10, 11, 12, 14, 15, 16, 18, 19] [9, 13, 17] [20, 21, 22] #[true, true, true, true, true, true, true, true, true, true, true, true, true, true, true, true, true, true, true, true, false, false, false] #[true, true, true, true, true, true, false, true, true, false, true, true, true, false, true, true, true, false, true, true, false, false, false] (by kernel_rfl) (by kernel_rfl) rfl (by decide) (by decide) (by decide) (by kernel_rfl) (by kernel_rfl) (by kernel_rfl) (by kernel_rfl) (by kernel_rfl) (by kernel_rfl) (by kernel_rfl) (fun _ _ _ _ _ h => h) (fun _ _ _ _ _ h => h) (by simp) ?_
    simp only [picked, marked, List.getElem?_cons_zero, List.getElem?_cons_succ, List.contains_cons, List.contains_nil, Nat.reduceBEq, Bool.or_false, Bool.or_true, BEq.rfl]
    replace hbox := hbox.drew
    replace hbel := hbel.drew
    replace q4 : Part1 w1.drew (.slice a l.length c) l := q4
    generalize hW : w1.drew = W at *
    have hWs : w1.heap.size = W.heap.size := by rw [← hW]; rfl
    rw [hWs]
    clear hW hWs
    have hcb := hbox.cell
    have lb := hbox.lt
    repeat (refine pre_quiet ?_; go_big_quiet_step (fail); refine wpQuiet_nil ?_)
    refine pre_nil ⟨?_, ?_⟩
    · intro x hx o ho w2
      simp only [List.mem_cons, List.not_mem_nil, or_false] at hx
      subst hx
      simp at ho
      subst ho
      go_simp
    · clear hcb lb hbox
      repeat (refine rs_quiet ?_; go_big_quiet_step (fail); refine wpQuiet_nil ?_)
      refine rs_loud rfl ?_
      intro W1 hW1 K hK
      replace hbel := bnext hbel hW1
      replace q4 := q4.next hW1
      clear hW1
      go_simp
      go_at_call 56
      refine (gbig2_any n 2 _ _ rfl (by decide)).mono ?_
      rintro e u1 ⟨v1, rfl, hown, hb, hk⟩
      refine hK _ _ (KeptBut.of_below hb) ?_
      clear hK K
      have q1 := Part1.of hown
      replace hbel := bnext hbel hb
      replace q4 := q4.next hb
      clear hown hb hk
      obtain ⟨a1, n1, c1, rfl⟩ := q1.shape
      repeat (refine rs_quiet ?_; go_big_quiet_step (fail); refine wpQuiet_nil ?_)
      refine rs_loud rfl ?_
      intro W2 hW2 K hK
      replace hbel := bnext hbel hW2
      replace q4 := q4.next hW2
      replace q1 := q1.next hW2
      clear hW2
      go_simp
      go_at_call 56
      refine (gbig2_any p 4 _ _ rfl (by decide)).mono ?_
      rintro e u2 ⟨v2, rfl, hown, hb, hk⟩
      refine hK _ _ (KeptBut.of_below hb) ?_
      clear hK K
      have q2 := Part1.of hown
      replace hbel := bnext hbel hb
      replace q4 := q4.next hb
      replace q1 := q1.next hb
      clear hown hb hk
      obtain ⟨a2, n2, c2, rfl⟩ := q2.shape
      repeat (refine rs_quiet ?_; go_big_quiet_step (fail); refine wpQuiet_nil ?_)
      refine rs_loud rfl ?_
      intro W3 hW3 K hK
      replace hbel := bnext hbel hW3
      replace q4 := q4.next hW3
      replace q1 := q1.next hW3
      replace q2 := q2.next hW3
      clear hW3
      go_simp
      go_at_call 56
      refine (gbig2_any (l.length : Int) 2 _ _ rfl (by decide)).mono ?_
      rintro e u3 ⟨v3, rfl, hown, hb, hk⟩
      refine hK _ _ (KeptBut.of_below hb) ?_
      clear hK K
      have q3 := Part1.of hown
      replace hbel := bnext hbel hb
      replace q4 := q4.next hb
      replace q1 := q1.next hb
      replace q2 := q2.next hb
      clear hown hb hk
      obtain ⟨a3, n3, c3, rfl⟩ := q3.shape
      repeat (refine rs_quiet ?_; go_big_quiet_step (fail); refine wpQuiet_nil ?_)
      refine rs_nil ?_
      intro W4 hW4 sx hs1 hs2 hM
      replace hbel := bnext hbel hW4
      replace q4 := q4.next hW4
      replace q1 := q1.next hW4
      replace q2 := q2.next hW4
      replace q3 := q3.next hW4
      clear hW4
      obtain ⟨g, rfl, hg, hf⟩ := mde1 hs1 hs2 hM
      clear hs1 hs2 hM
      have q0 : Part1 W4 (.slice (some ⟨g, 0, none⟩) 3 3) [68, byteOf k, byteOf s] := ⟨Sl.of_blk (l := [68, byteOf k, byteOf s]) hf (by simp [bytesV, byteOf_toNat]), fun c h => by cases h⟩
      clear hf hg
      simp only [msets]
      refine ⟨[], ?_⟩
      refine ms_loud rfl ?_
      intro K hK
      go_simp
      have hnew := BlkIs.new W4 22 #[.slice (some ⟨g, 0, none⟩) 3 3, .slice a1 n1 c1, .slice a2 n2 c2, .slice a3 n3 c3, .slice a l.length c]
      have hb : Below W4.heap.size W4 (W4.alloc (.cells #[.slice (some ⟨g, 0, none⟩) 3 3, .slice a1 n1 c1, .slice a2 n2 c2, .slice a3 n3 c3, .slice a l.length c] 22)) := (Below.refl _ _).alloc (Nat.le_refl _) _
      refine hK _ _ (KeptBut.of_below hb) ?_
      clear hK K
      replace q0 := q0.next hb
      replace q1 := q1.next hb
      replace q2 := q2.next hb
      replace q3 := q3.next hb
      replace q4 := q4.next hb
      replace hbel := bnext hbel hb
      clear hb
      generalize W4.alloc (.cells #[.slice (some ⟨g, 0, none⟩) 3 3, .slice a1 n1 c1, .slice a2 n2 c2, .slice a3 n3 c3, .slice a l.length c] 22) = W5 at *
      refine ms_loud rfl ?_
      intro K hK
      go_simp
      go_at_call 55
      refine (join_any W5.heap.size W4.heap.size [.slice (some ⟨g, 0, none⟩) 3 3, .slice a1 n1 c1, .slice a2 n2 c2, .slice a3 n3 c3, .slice a l.length c] [[68, byteOf k, byteOf s], be 2 n, be 4 p, be 2 (l.length : Int), l] _ (Nat.le_refl _) hnew ⟨q0, q1, q2, q3, q4, trivial⟩ (by simp) (by simp [be_length]; omega)).mono ?_
      rintro e W6 ⟨vr, rfl, hown, hb, hk⟩
      refine hK _ _ (KeptBut.of_below hb) ?_
      clear hK K q0 q1 q2 q3 hnew
      have hel := encL_len s n k p l
      have e0 : [[68, byteOf k, byteOf s], be 2 n, be 4 p, be 2 (l.length : Int), l].flatten = encL s n k p l := by simp [encL]
      rw [e0] at hown
      have HEA : Hid (encA s n k p l = [encL s n k p l, be 4 (crcL (encL s n k p l) : Int)].flatten) := by simp [Hid, encA]
      generalize encL s n k p l = L at *
      replace hbel := bnext hbel hb
      have q0 := Part1.of hown
      clear hown hb hk e0 q4
      obtain ⟨va, vn, vc, rfl⟩ := q0.shape
      repeat (refine ms_quiet ?_; go_big_quiet_step (fail); refine wpQuiet_nil ?_)
      refine ms_nil ?_
      go_wp2_with fail
      refine (gchecksum_any W6.heap.size _ L W6 q0.1 (by omega)).mono ?_
      rintro e w' ⟨rfl, rfl⟩
      have hcr := crcL_lt L
      generalize crcL L = cr at *
      have hcr' : (cr : Int) < 4294967296 := by omega
      go_wp2_with fail
      refine (gbig2_any (cr : Int) 4 _ _ rfl (by decide)).mono ?_
      rintro e u5 ⟨v5, rfl, hown, hb, hk⟩
      have q1 := Part1.of hown
      replace hbel := bnext hbel hb
      replace q0 := q0.next hb
      clear hown hb hk
      obtain ⟨a5, n5, c5, rfl⟩ := q1.shape
      go_wp2_with fail
      have hnew := BlkIs.new u5 22 #[.slice va vn vc, .slice a5 n5 c5]
      have hb : Below u5.heap.size u5 (u5.alloc (.cells #[.slice va vn vc, .slice a5 n5 c5] 22)) := (Below.refl _ _).alloc (Nat.le_refl _) _
      replace q0 := q0.next hb
      replace q1 := q1.next hb
      replace hbel := bnext hbel hb
      refine (join_any _ u5.heap.size [.slice va vn vc, .slice a5 n5 c5] [L, be 4 (cr : Int)] _ (Nat.le_refl _) hnew ⟨q0, q1, trivial⟩ (by simp) (by simp [be_length]; omega)).mono ?_
      rintro e u6 ⟨v6, rfl, hown, hb, hk⟩
      go_wp2
      go_ret2
      unfold EncPost
      rw [HO.out.1, HO.out.2, HEA.out]
      exact ⟨_, rfl, own_mono hown hbel.size, bnext hbel hb⟩
end Go.Proofs.Ytkkjiihdmpngbaa
