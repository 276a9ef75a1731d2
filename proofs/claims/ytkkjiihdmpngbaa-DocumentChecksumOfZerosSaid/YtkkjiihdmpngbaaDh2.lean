/-
  The contract of awake.
-/
import Derived.Test.YtkkjiihdmpngbaaDh1
import Derived.Lib.SlBytesConst
import Derived.Outline
namespace Go.Proofs.Ytkkjiihdmpngbaa
open Go.RowKit
set_option linter.unusedVariables false

theorem aw_req : requestB 5 300 70000 = true := by decide
theorem aw_doc : docB 2 1 3 0 (requestO 5 300 70000) = true := by
  have h := (request_back aw_req).1
  have e : requestO 5 300 70000 = requestL 5 300 70000 := by simp [requestO, aw_req]
  rw [e, docB_eq, body_request, h]
  rfl
theorem aw_len : (requestO 5 300 70000).length = 8 := by
  have e : requestO 5 300 70000 = requestL 5 300 70000 := by simp [requestO, aw_req]
  rw [e, requestL_len]
theorem aw_crc : crcL [49, 50, 51, 52, 53, 54, 55, 56, 57] = 3421780262 := by decide +kernel
theorem enc_ok {s n k p : Int} {l : List UInt8} (h : docB s n k p l = true) : encE s n k p l = 0 ∧ encO s n k p l = encA s n k p l := by simp [encE, encO, h]
theorem dec_ok {s n k p : Int} {l : List UInt8} (h : docB s n k p l = true) (hp0 : 0 ≤ p) (hp1 : p < 4294967296) : rE (encA s n k p l) = 0 ∧ rS (encA s n k p l) = s ∧ rN (encA s n k p l) = n ∧ rK (encA s n k p l) = k ∧ rP (encA s n k p l) = p ∧ rBody (encA s n k p l) = l := by
  obtain ⟨h0, h1, h2, h3, h4, h5⟩ := doc_back h hp0 hp1
  simp [rE, rS, rN, rK, rP, rBody, h0, h1, h2, h3, h4, h5]

set_option maxRecDepth 100000 in
set_option maxHeartbeats 2000000 in
theorem awake_any (w : World) : Calls Try.prog 17 #[] w fun e w' => e = .returned (.bool true) ∧ Below w.heap.size w w' := by
  have HD := Lib.hid aw_doc
  have HE := Lib.hid (enc_ok aw_doc)
  have HR := Lib.hid (dec_ok aw_doc (by decide) (by decide))
  have hlen := encA_len 2 1 3 0 (requestO 5 300 70000)
  rw [aw_len] at hlen
  have HN := Lib.hid aw_len
  have HC := Lib.hid aw_crc
  have HQ := Lib.hid aw_req
  go_enter Try.func17, Try.ntmps17
  go_wp2_with fail
  refine (ofrequest_any 5 300 70000 _).mono ?_
  rintro e w1 ⟨v, rfl, hown, hb1⟩
  rw [HQ.out]
  obtain ⟨a, c, hv⟩ := own_len hown
  subst hv
  generalize requestO 5 300 70000 = L at *
  have q := Part1.of hown
  clear hown
  rw [HN.out] at q ⊢
  have hbel := hb1
  clear hb1
  have hd : BlkIs (w1.alloc (.cells #[.int .i64 2, .int .i64 1, .int .i64 3, .int .u32 0, .slice a 8 c] 34)) w1.heap.size 34 #[.int .i64 2, .int .i64 1, .int .i64 3, .int .u32 0, .slice a 8 c] := BlkIs.new _ _ _
  have hA : Below w1.heap.size w1 (w1.alloc (.cells #[.int .i64 2, .int .i64 1, .int .i64 3, .int .u32 0, .slice a 8 c] 34)) := (Below.refl _ _).alloc (Nat.le_refl _) _
  replace q := q.next hA
  replace hbel := bnext hbel hA
  have Q0 := Lib.hid q
  clear q hA
  go_wp2_with fail
  refine (encode_any 2 1 3 0 _ L _ Q0.out.1 Q0.out.2 (by rw [HN.out]; decide) (by decide) (by decide)).mono ?_
  rintro e w2 ⟨x, rfl, hownx, hb2⟩
  rw [HE.out.1]
  rw [HE.out.2] at hownx
  replace hd := hd.below hb2 hd.lt
  replace hbel := bnext hbel hb2
  have Q1 := Lib.hid (Q0.out.next hb2)
  clear Q0 hb2
  obtain ⟨ax, cx, hvx⟩ := own_len hownx
  subst hvx
  generalize encA 2 1 3 0 L = X at *
  have qx := Part1.of hownx
  rw [hlen] at qx ⊢
  have QX := Lib.hid qx
  have HXL := Lib.hid hlen
  clear hownx qx hlen
  go_wp2_with fail
  refine (decode_any _ X _ QX.out.1 (by rw [HXL.out]; decide)).mono ?_
  rintro e w3 ⟨y, rfl, hy, hb3⟩
  obtain ⟨r0, r1, r2, r3, r4, r5⟩ := HR.out
  rw [r0, r1, r2, r3, r4]
  rw [r5] at hy
  clear r0 r1 r2 r3 r4 r5 HR
  obtain ⟨ay, ny, cy, hvy⟩ := hy.shape
  subst hvy
  simp only [docV]
  replace hd := hd.below hb3 hd.lt
  replace hbel := bnext hbel hb3
  have Q2 := Lib.hid (Q1.out.next hb3)
  clear Q1 QX hb3
  have hA : Below w3.heap.size w3 (w3.alloc (.cells #[.int .i64 2, .int .i64 1, .int .i64 3, .int .u32 0, .slice ay ny cy] 34)) := (Below.refl _ _).alloc (Nat.le_refl _) _
  have hf : BlkIs (w3.alloc (.cells #[.int .i64 2, .int .i64 1, .int .i64 3, .int .u32 0, .slice ay ny cy] 34)) w3.heap.size 34 #[.int .i64 2, .int .i64 1, .int .i64 3, .int .u32 0, .slice ay ny cy] := BlkIs.new _ _ _
  replace hd := hd.below hA hd.lt
  replace hbel := bnext hbel hA
  replace hy := hy.next hA
  have QY := Lib.hid hy
  have Q3 := Lib.hid (Q2.out.next hA)
  clear Q2 hA hy
  have kc : ∀ (C : Array Value) (n c : Nat), (convert 22 22 (.slice (some ⟨w3.heap.size + 1, 0, none⟩) n c)).run Try.prog ((w3.alloc (.cells #[.int .i64 2, .int .i64 1, .int .i64 3, .int .u32 0, .slice ay ny cy] 34)).alloc (.cells C 5)) = .ok (.slice (some ⟨w3.heap.size + 1, 0, none⟩) n c) ((w3.alloc (.cells #[.int .i64 2, .int .i64 1, .int .i64 3, .int .u32 0, .slice ay ny cy] 34)).alloc (.cells C 5 (C.size, C.size + 1))) := by
    intro C n c
    have h := Lib.run_convert_bytes_const (P := Try.prog) (w3.alloc (.cells #[.int .i64 2, .int .i64 1, .int .i64 3, .int .u32 0, .slice ay ny cy] 34)) 22 5 C n c Try.underlying22 Try.underlying5
    have e : (w3.alloc (.cells #[.int .i64 2, .int .i64 1, .int .i64 3, .int .u32 0, .slice ay ny cy] 34)).heap.size = w3.heap.size + 1 := by simp
    rw [e] at h
    exact h
  go_wp2_with fail
  clear kc
  have hWs : (w3.alloc (.cells #[.int .i64 2, .int .i64 1, .int .i64 3, .int .u32 0, .slice ay ny cy] 34)).heap.size = w3.heap.size + 1 := by simp
  rw [← hWs]
  clear hWs
  generalize w3.alloc (.cells #[.int .i64 2, .int .i64 1, .int .i64 3, .int .u32 0, .slice ay ny cy] 34) = W4 at *
  have hA : Below W4.heap.size W4 (W4.alloc (.cells #[.int .u8 49, .int .u8 50, .int .u8 51, .int .u8 52, .int .u8 53, .int .u8 54, .int .u8 55, .int .u8 56, .int .u8 57] 5 (9, 10))) := (Below.refl _ _).alloc (Nat.le_refl _) _
  have hs9 : Sl (W4.alloc (.cells #[.int .u8 49, .int .u8 50, .int .u8 51, .int .u8 52, .int .u8 53, .int .u8 54, .int .u8 55, .int .u8 56, .int .u8 57] 5 (9, 10))).heap.size (W4.alloc (.cells #[.int .u8 49, .int .u8 50, .int .u8 51, .int .u8 52, .int .u8 53, .int .u8 54, .int .u8 55, .int .u8 56, .int .u8 57] 5 (9, 10))) (.slice (some ⟨W4.heap.size, 0, none⟩) 9 9) [49, 50, 51, 52, 53, 54, 55, 56, 57] := by
    refine ⟨_, _, rfl, by decide, fun _ => ⟨W4.heap.size, 0, rfl, by simp, fun j u hu => ?_⟩⟩
    rw [Nat.zero_add, cell_of_row _ _ j _ _ _ (heap_alloc_new W4 _)]
    have hj : j < 9 := (List.getElem?_eq_some_iff.1 hu).1
    have h9 : j = 0 ∨ j = 1 ∨ j = 2 ∨ j = 3 ∨ j = 4 ∨ j = 5 ∨ j = 6 ∨ j = 7 ∨ j = 8 := by omega
    rcases h9 with rfl | rfl | rfl | rfl | rfl | rfl | rfl | rfl | rfl <;> (simp at hu; subst hu; rfl)
  replace hd := hd.below hA hd.lt
  replace hf := hf.below hA hf.lt
  replace hbel := bnext hbel hA
  have Q4 := Lib.hid (Q3.out.next hA)
  have QZ := Lib.hid (QY.out.next hA)
  clear Q3 QY hA
  refine (checksum_any _ _ [49, 50, 51, 52, 53, 54, 55, 56, 57] _ hs9 (Nat.le_refl _) (by decide)).mono ?_
  rintro e w5 ⟨rfl, hb5⟩
  rw [HC.out]
  replace hd := hd.below hb5 hd.lt
  replace hf := hf.below hb5 hf.lt
  replace hbel := bnext hbel hb5
  have Q5 := Lib.hid (Q4.out.next hb5)
  have QW := Lib.hid (QZ.out.next hb5)
  clear Q4 QZ hb5 hs9
  have hcd := hd.cell
  go_wp2_with fail
  refine (dvalid_any 2 1 3 0 _ L _ Q5.out.1 (by rw [HN.out]; decide)).mono ?_
  rintro e w6 ⟨rfl, hb6⟩
  rw [HD.out]
  replace hd := hd.below hb6 hd.lt
  replace hf := hf.below hb6 hf.lt
  replace hbel := bnext hbel hb6
  have Q6 := Lib.hid (Q5.out.next hb6)
  have QV := Lib.hid (QW.out.next hb6)
  clear Q5 QW hb6 hcd
  have hcd := hd.cell
  have hcf := hf.cell
  go_wp2_with fail
  refine (same_eq 2 1 3 0 _ _ L _ Q6.out.1 QV.out.1).mono ?_
  rintro e w7 ⟨rfl, hb7⟩
  go_wp2
  go_ret
  exact ⟨rfl, bnext hbel hb7⟩
end Go.Proofs.Ytkkjiihdmpngbaa
