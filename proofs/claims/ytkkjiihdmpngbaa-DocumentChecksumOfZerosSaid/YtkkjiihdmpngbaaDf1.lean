/-
  Contracts: Encode of the document.
-/
import Derived.Test.YtkkjiihdmpngbaaDe2
import Derived.Test.YtkkjiihdmpngbaaDd1
import Derived.Test.YtkkjiihdmpngbaaFrb
import Derived.Outline
namespace Go.Proofs.Ytkkjiihdmpngbaa
open Go.RowKit
set_option linter.unusedVariables false

/-- The error of encoding. -/
def encE (s n k p : Int) (l : List UInt8) : Int := if docB s n k p l then 0 else 1
def EncPost (s n k p : Int) (l : List UInt8) (w : World) (e : Ending) (w' : World) : Prop :=
  ∃ v, e = .returned (.tuple #[v, .int .i64 (encE s n k p l)]) ∧ w'.ownsRow w.heap.size 5 1 v (encO s n k p l).length (bytesV (encO s n k p l)) ∧ Below w.heap.size w w'
theorem own_new (w : World) (base : Nat) (cs : Array Value) (l : List UInt8) (h : cs.toList = bytesV l) (hb : base ≤ w.heap.size) (hl : l.length ≤ 1000) : (w.alloc (.cells cs 5)).ownsRow base 5 1 (.slice (some ⟨w.heap.size, 0, none⟩) l.length l.length) l.length (bytesV l) := by
  have hsz : cs.size = l.length := by rw [← Array.length_toList, h, bytesV_length]
  refine ⟨by rw [bytesV_length]; omega, .inr ⟨w.heap.size, l.length, cs, rfl, hb, heap_alloc_new w _, Nat.le_refl _, by simp only [maxLen]; omega, by omega, ?_⟩⟩
  rw [h, Nat.mul_one, List.take_of_length_le (by rw [bytesV_length]; omega)]

theorem own_below {w w' : World} {base n : Nat} {t : TypeId} {v : Value} {xs : List Value} (h : w.ownsRow base t 1 v n xs) (hb : Below w.heap.size w w') : w'.ownsRow base t 1 v n xs := by
  obtain ⟨q1, q2⟩ := h
  refine ⟨q1, ?_⟩
  rcases q2 with h0 | ⟨g, cap, cur, hv, hg, hh, rest⟩
  · exact .inl h0
  · exact .inr ⟨g, cap, cur, hv, hg, (hb.block g (Array.getElem?_eq_some_iff.1 hh).1).trans hh, rest⟩
theorem NSt.later {w wr w' : World} {B : Nat} {T : TypeId} {cs : Array Value} {v : Value} {l : List UInt8} (h : NSt w B T cs v l wr) (hb : Below wr.heap.size wr w') : NSt w B T cs v l w' :=
  ⟨own_below h.own hb, h.box.below hb h.box.lt, bnext h.bel hb, h.lo, Nat.le_trans h.hi hb.size⟩
set_option maxRecDepth 100000 in
set_option maxHeartbeats 1000000 in
theorem encode_any (s n k p : Int) (v : Value) (l : List UInt8) (w : World) (hsl : Sl w.heap.size w v l) (hz : ∀ c, v = .slice none 0 c → c = 0) (hl : l.length ≤ 4611686018427387904) (hp0 : 0 ≤ p) (hp1 : p < 4294967296) :
    Calls Try.prog 22 #[.agg (docV s n k p v)] w (EncPost s n k p l w) := by
  obtain ⟨a, c, hv, hc, hx⟩ := id hsl
  subst hv
  clear hx
  simp only [docV]
  have hbel : Below w.heap.size w (w.alloc (.cells #[.int .i64 s, .int .i64 n, .int .i64 k, .int .u32 p, .slice a l.length c] 34)) := (Below.refl _ _).alloc (Nat.le_refl _) _
  have HSL := Lib.hid ((hsl.below hbel).mono hbel.size)
  rcases hd : docB s n k p l with _ | _
  · have HO : Hid (encO s n k p l = [] ∧ encE s n k p l = 1) := by simp [Hid, encO, encE, hd]
    have HD := Lib.hid hd
    clear hd
    go_enter Try.func22, Try.ntmps22
    go_wp2_with fail
    refine (dvalid_any s n k p _ l _ HSL.out hl).mono ?_
    rintro e w1 ⟨rfl, hb1⟩
    rw [HD.out]
    go_wp2
    go_ret2
    unfold EncPost
    rw [HO.out.1, HO.out.2]
    exact ⟨_, rfl, ⟨rfl, .inl ⟨rfl, rfl⟩⟩, bnext hbel hb1⟩
  · have hlen := bodyB_len (docB_parts hd).2.2.2
    have HO : Hid (encO s n k p l = encA s n k p l ∧ encE s n k p l = 0) := by simp [Hid, encO, encE, hd]
    have HD := Lib.hid hd
    clear hd
    go_enter Try.func22, Try.ntmps22
    go_wp2_with fail
    refine (dvalid_any s n k p _ l _ HSL.out hl).mono ?_
    rintro e w1 ⟨rfl, hb1⟩
    rw [HD.out]
    have hbox := (BlkIs.new w 34 #[.int .i64 s, .int .i64 n, .int .i64 k, .int .u32 p, .slice a l.length c]).below hb1 (by simp)
    have hcl := hbox.cell
    have hlb := hbox.lt
    have hst0 : NSt w w1.heap.size 34 #[.int .i64 s, .int .i64 n, .int .i64 k, .int .u32 p, .slice a l.length c] (.slice (some ⟨w1.heap.size, 0, none⟩) 3 3) [68, byteOf k, byteOf s] (w1.alloc (.cells #[.int .u8 68, .int .u8 (k % 256), .int .u8 (s % 256)] 5)) :=
      ⟨own_new w1 _ _ [68, byteOf k, byteOf s] (by simp [bytesV, byteOf_toNat]) (Nat.le_refl _) (by simp), hbox.alloc _, (bnext hbel hb1).alloc (Nat.le_of_lt hlb) _, hlb, by simp⟩
    clear hb1
    go_wp2_with fail
    refine (hst0.step n 2 _ rfl (by decide) (by simp)).mono ?_
    rintro e u0 ⟨v0, rfl, hst1⟩
    clear hst0 hcl hbox hlb
    have hcl := hst1.box.cell
    go_wp2_with fail
    refine (hst1.step p 4 _ rfl (by decide) (by simp [be_length])).mono ?_
    rintro e u1 ⟨v1, rfl, hst2⟩
    clear hst1 hcl
    have hcl := hst2.box.cell
    go_wp2_with fail
    refine (hst2.step (l.length : Int) 2 _ rfl (by decide) (by simp [be_length])).mono ?_
    rintro e u2 ⟨v2, rfl, hst3⟩
    clear hst2 hcl
    have hcl := hst3.box.cell
    have HS3 := Lib.hid ((hsl.below hst3.bel).mono hst3.bel.size)
    go_wp2_with (at_builtin; refine wpList_appSl (by rfl) _ _ (by rfl) w1.heap.size _ v2 _ _ l u2 (by rfl) hst3.own (by rfl) HS3.out hz (by simp [be_length]; omega) hst3.hi ?_; intro v3 u3 hown3 hb3 hk3 hg3)
    have hst4 : NSt w w1.heap.size 34 #[.int .i64 s, .int .i64 n, .int .i64 k, .int .u32 p, .slice a l.length c] v3 (encL s n k p l) u3 :=
      ⟨hown3, hst3.box.kp hk3 (by decide), hst3.bel.trans (hb3.mono (Nat.le_of_lt hst3.lo)), hst3.lo, Nat.le_trans hst3.hi hb3.size⟩
    clear hown3 hb3 hk3 hg3 hst3 hcl HS3
    have hel := encL_len s n k p l
    have HEA : Hid (encA s n k p l = encL s n k p l ++ be 4 (crcL (encL s n k p l) : Int)) := rfl
    generalize encL s n k p l = L at *
    refine (checksum_any u3.heap.size v3 L u3 (Sl.of_own hst4.own) (Nat.le_refl _) (by omega)).mono ?_
    rintro e u4 ⟨rfl, hb4⟩
    have hst5 := hst4.later hb4
    clear hst4 hb4
    have hcr := crcL_lt L
    generalize crcL L = cr at *
    have hcr' : (cr : Int) < 4294967296 := by omega
    go_wp2_with fail
    refine (hst5.step (cr : Int) 4 _ rfl (by decide) (by omega)).mono ?_
    rintro e u5 ⟨v5, rfl, hst6⟩
    clear hst5
    go_wp2
    go_ret2
    unfold EncPost
    rw [HO.out.1, HO.out.2, HEA.out]
    exact ⟨_, rfl, own_mono hst6.own (Nat.le_of_lt hst6.lo), hst6.bel⟩
end Go.Proofs.Ytkkjiihdmpngbaa
