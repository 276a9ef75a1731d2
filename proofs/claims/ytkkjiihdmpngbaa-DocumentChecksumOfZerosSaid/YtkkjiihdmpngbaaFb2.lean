/-
  The contract of fact.Bytes.
-/
import Derived.Test.YtkkjiihdmpngbaaFb1
import Derived.Lib.OthersKept
namespace Go.Proofs.Ytkkjiihdmpngbaa
open Go.RowKit

def b01 (b : Bool) : Int := if b then 1 else 0

/-- The bytes of the field of a letter. -/
def letterB (f : Fct) (c : UInt8) : List UInt8 :=
  if c = 83 then be 1 f.st else if c = 80 then be 3 f.fr ++ be 3 f.til else if c = 84 then be 1 f.seat else if c = 72 then be 1 f.share
  else if c = 67 then be 2 f.cur else if c = 65 then be 4 f.amt else if c = 82 then be 1 f.ref else []
def headB (f : Fct) : List UInt8 := be 1 f.iss ++ be 2 f.num ++ (be 1 f.ver ++ be 1 (b01 f.gone) ++ be 1 f.per ++ be 1 f.kind)
/-- The bytes of a fact. -/
def factL (f : Fct) : List UInt8 := headB f ++ (usesL f.kind).flatMap (letterB f)
def factO (f : Fct) : List UInt8 := if validB f then factL f else []

theorem headB_len (f : Fct) : (headB f).length = 7 := by simp [headB, be_length]
theorem letterB_len (f : Fct) (c : UInt8) : (letterB f c).length ≤ 6 := by
  unfold letterB
  by_cases h1 : c = 83
  · simp [h1, be_length]
  by_cases h2 : c = 80
  · simp [h2, be_length]
  by_cases h3 : c = 84
  · simp [h3, be_length]
  by_cases h4 : c = 72
  · simp [h4, be_length]
  by_cases h5 : c = 67
  · simp [h5, be_length]
  by_cases h6 : c = 65
  · simp [h6, be_length]
  by_cases h7 : c = 82
  · simp [h7, be_length]
  simp [h1, h2, h3, h4, h5, h6, h7]
theorem letters_len (f : Fct) (l : List UInt8) : (l.flatMap (letterB f)).length ≤ 6 * l.length := by
  induction l with
  | nil => simp
  | cons c l ih =>
    rw [List.flatMap_cons, List.length_append, List.length_cons]
    have := letterB_len f c
    omega
/-- Which letters there are. -/
theorem uses_mem (k : Int) (c : UInt8) (h : c ∈ usesL k) : c = 83 ∨ c = 80 ∨ c = 84 ∨ c = 72 ∨ c = 67 ∨ c = 65 ∨ c = 82 := by
  by_cases h1 : 1 ≤ k ∧ k ≤ 14
  · have hk : k = 1 ∨ k = 2 ∨ k = 3 ∨ k = 4 ∨ k = 5 ∨ k = 6 ∨ k = 7 ∨ k = 8 ∨ k = 9 ∨ k = 10 ∨ k = 11 ∨ k = 12 ∨ k = 13 ∨ k = 14 := by omega
    rcases hk with rfl | rfl | rfl | rfl | rfl | rfl | rfl | rfl | rfl | rfl | rfl | rfl | rfl | rfl
    all_goals
      simp [usesL] at h
      first | omega | (rcases h with rfl | rfl | rfl | rfl | rfl | rfl <;> simp) | (rcases h with rfl | rfl | rfl | rfl | rfl <;> simp) | (rcases h with rfl | rfl | rfl | rfl <;> simp) | (rcases h with rfl | rfl | rfl <;> simp) | (rcases h with rfl | rfl <;> simp) | (rcases h with rfl; simp)
  · rw [uses_else k (by omega)] at h; cases h

theorem BlkIs.iterAt {w : World} {g k pos p : Nat} {t : TypeId} {cs : Array Value} {s : ByteArray} (h : BlkIs w g t cs) (hk : w.heap[k]? = some (.stringIter s pos)) : BlkIs (w.iterAt k s p) g t cs := by
  have hne : g ≠ k := by
    rintro rfl
    unfold BlkIs at h
    rw [hk] at h
    cases h
  exact (Lib.iterAt_other w k g s p hne).trans h
theorem own_iterAt {w : World} {base k pos p n : Nat} {v : Value} {xs : List Value} {s : ByteArray} (h : w.ownsRow base 5 1 v n xs) (hk : w.heap[k]? = some (.stringIter s pos)) : (w.iterAt k s p).ownsRow base 5 1 v n xs := by
  refine ⟨h.1, ?_⟩
  rcases h.2 with h | ⟨g, cap, cur, rfl, hb, hg, rest⟩
  · exact .inl h
  · refine .inr ⟨g, cap, cur, rfl, hb, ?_, rest⟩
    have hne : g ≠ k := by
      rintro rfl
      rw [hk] at hg
      cases hg
    exact (Lib.iterAt_other w k g s p hne).trans hg

/-- Where fact.Bytes stands: it owns the bytes l, its fact lies in block nb, and all that was there is as it was. -/
structure BSt (w : World) (nb : Nat) (cs : Array Value) (v : Value) (l : List UInt8) (wr : World) : Prop where
  own : wr.ownsRow w.heap.size 5 1 v l.length (bytesV l)
  bel : Below w.heap.size w wr
  blk : BlkIs wr nb 76 cs
  len : l.length ≤ 1000

def BStPost (w : World) (nb : Nat) (cs : Array Value) (l : List UInt8) (wr : World) (e : Ending) (w' : World) : Prop :=
  ∃ v', e = .returned v' ∧ BSt w nb cs v' l w' ∧ Kp wr w'

theorem BSt.step {w wr : World} {nb : Nat} {cs : Array Value} {v : Value} {l : List UInt8} (h : BSt w nb cs v l wr) (xs : List Int) (size : Nat) (sz : Int) (m c : Nat) (l' : List UInt8)
    (hl' : l ++ xs.flatMap (be size) = l') (hsz : sz = size) (hm : m = xs.length) (hs : size ≤ 8) (hxl : xs.length ≤ 1000) (hll : l'.length ≤ 1000) :
    Calls Try.prog 78 #[v, .int .i64 sz, .slice (some ⟨wr.heap.size, 0, none⟩) m c] (wr.alloc (.cells (intsV xs) 3)) (BStPost w nb cs l' wr) := by
  subst hsz hm
  have hlen := h.len
  have hsz := h.bel.size
  refine (appn_any w.heap.size v l xs wr.heap.size c size (wr.alloc (.cells (intsV xs) 3)) hs (by omega) hxl (h.own.alloc _) (by simp; omega) (BlkIs.new _ _ _)).mono ?_
  rintro e w' ⟨v', rfl, ho, hb, hk⟩
  rw [hl'] at ho
  have hk' : Kp wr w' := ((Kp.refl wr).alloc _).trans hk
  exact ⟨v', rfl, ⟨ho, ((h.bel.alloc hsz _)).trans hb, h.blk.kp hk' (by decide), hll⟩, hk'⟩

theorem BSt.alloc {w wr : World} {nb : Nat} {cs : Array Value} {v : Value} {l : List UInt8} (h : BSt w nb cs v l wr) (o : Obj) : BSt w nb cs v l (wr.alloc o) :=
  ⟨h.own.alloc _, h.bel.alloc h.bel.size _, h.blk.alloc _, h.len⟩
theorem BSt.iterAt {w wr : World} {nb k pos p : Nat} {cs : Array Value} {v : Value} {l : List UInt8} {s : ByteArray} (h : BSt w nb cs v l wr) (hk : wr.heap[k]? = some (.stringIter s pos)) (hw : w.heap.size ≤ k) : BSt w nb cs v l (wr.iterAt k s p) :=
  ⟨own_iterAt h.own hk, Lib.below_iterAt h.bel hw s p, h.blk.iterAt hk, h.len⟩

set_option maxRecDepth 100000 in
set_option maxHeartbeats 2000000 in
theorem bytes_any (a0 a1 a2 : Int) (a3 : Bool) (a4 a5 a6 a7 a8 a9 a10 a11 a12 a13 : Int) (w : World) :
    Calls Try.prog 72 #[.agg #[.int .i64 a0, .int .i64 a1, .int .i64 a2, .bool a3, .int .i64 a4, .int .i64 a5, .int .i64 a6, .int .i64 a7, .int .i64 a8, .int .i64 a9, .int .i64 a10, .int .i64 a11, .int .i64 a12, .int .i64 a13]] w (BigPost w.heap.size (factO ⟨a0, a1, a2, a3, a4, a5, a6, a7, a8, a9, a10, a11, a12, a13⟩) w) := by
  rcases hv : validB ⟨a0, a1, a2, a3, a4, a5, a6, a7, a8, a9, a10, a11, a12, a13⟩ with _ | _
  · have HV := Lib.hid (valid_any a0 a1 a2 a3 a4 a5 a6 a7 a8 a9 a10 a11 a12 a13)
    have HO : Hid (factO ⟨a0, a1, a2, a3, a4, a5, a6, a7, a8, a9, a10, a11, a12, a13⟩ = []) := by simp [Hid, factO, hv]
    rw [hv] at HV
    clear hv
    go_enter Try.func72, Try.ntmps72
    go_wp2_with (go_at_call 77; refine (HV.out _).mono ?_; rintro e w1 ⟨rfl, hb1⟩)
    go_ret
    rw [HO.out]
    exact ⟨_, rfl, ⟨rfl, .inl ⟨rfl, rfl⟩⟩, Below.boxed hb1, Kp.of_below (Below.boxed hb1)⟩
  · have HO : Hid (factO ⟨a0, a1, a2, a3, a4, a5, a6, a7, a8, a9, a10, a11, a12, a13⟩ = factL ⟨a0, a1, a2, a3, a4, a5, a6, a7, a8, a9, a10, a11, a12, a13⟩) := by simp [Hid, factO, hv]
    cases a3
    ·
      have HV := Lib.hid (valid_any a0 a1 a2 false a4 a5 a6 a7 a8 a9 a10 a11 a12 a13)
      rw [hv] at HV
      clear hv
      go_enter Try.func72, Try.ntmps72
      go_wp2_with (go_at_call 77; refine (HV.out _).mono ?_; rintro e w1 ⟨rfl, hb1⟩; have hblk : BlkIs w1 w.heap.size 76 #[.int .i64 a0, .int .i64 a1, .int .i64 a2, .bool false, .int .i64 a4, .int .i64 a5, .int .i64 a6, .int .i64 a7, .int .i64 a8, .int .i64 a9, .int .i64 a10, .int .i64 a11, .int .i64 a12, .int .i64 a13] := BlkIs.below (BlkIs.new w _ _) hb1 (by simp); have hcl := hblk.cell)
      have hst1 : BSt w w.heap.size #[.int .i64 a0, .int .i64 a1, .int .i64 a2, .bool false, .int .i64 a4, .int .i64 a5, .int .i64 a6, .int .i64 a7, .int .i64 a8, .int .i64 a9, .int .i64 a10, .int .i64 a11, .int .i64 a12, .int .i64 a13] (.slice none 0 0) [] w1 := ⟨⟨rfl, .inl ⟨rfl, rfl⟩⟩, Below.boxed hb1, hblk, by simp⟩
      clear hblk
      refine (hst1.step [a0] 1 _ _ _ (be 1 a0) (by simp) rfl rfl (by decide) (by simp) (by simp [be_length])).mono ?_
      rintro e w2 ⟨v2, rfl, hst2, hk2⟩
      clear hcl hst1 hk2
      have hcl := hst2.blk.cell
      go_wp2_with fail
      refine (hst2.step [a1] 2 _ _ _ (be 1 a0 ++ be 2 a1) (by simp) rfl rfl (by decide) (by simp) (by simp [be_length])).mono ?_
      rintro e w3 ⟨v3, rfl, hst3, hk3⟩
      clear hcl hst2 hk3
      have hcl := hst3.blk.cell
      go_wp2_with fail
      refine (hst3.step [a2, 0, a4, a5] 1 _ _ _ (headB ⟨a0, a1, a2, false, a4, a5, a6, a7, a8, a9, a10, a11, a12, a13⟩) (by simp [headB, b01]) rfl rfl (by decide) (by simp) (by simp [headB_len])).mono ?_
      rintro e w4 ⟨v4, rfl, hst4, hk4⟩
      clear hcl hst3 hk4
      have hcl := hst4.blk.cell
      go_wp2_with (go_at_call 79; refine (uses_any _ _).mono ?_; rintro e w' ⟨rfl, rfl⟩)
      obtain ⟨s, hs⟩ : ∃ s, s = usesS a5 := ⟨_, rfl⟩
      have HS := Lib.hid hs
      rw [← hs]
      clear hs
      have hssz : s.size ≤ 6 := by rw [HS.out]; exact usesL_le a5
      have hz4 := hst4.bel.size
      have hhl := headB_len ⟨a0, a1, a2, false, a4, a5, a6, a7, a8, a9, a10, a11, a12, a13⟩
      obtain ⟨hd, hhd⟩ : ∃ hd, hd = headB ⟨a0, a1, a2, false, a4, a5, a6, a7, a8, a9, a10, a11, a12, a13⟩ := ⟨_, rfl⟩
      have HHD := Lib.hid hhd
      rw [← hhd] at hst4 hhl
      clear hhd hcl
      go_loopw [4] (fun v wr => ∃ (pos : Nat) (l : List UInt8), pos ≤ s.size ∧ wr.heap[w4.heap.size]? = some (.stringIter s pos) ∧ BSt w w.heap.size #[.int .i64 a0, .int .i64 a1, .int .i64 a2, .bool false, .int .i64 a4, .int .i64 a5, .int .i64 a6, .int .i64 a7, .int .i64 a8, .int .i64 a9, .int .i64 a10, .int .i64 a11, .int .i64 a12, .int .i64 a13] v l wr ∧ l.length ≤ 7 + 6 * pos ∧ Hid (l = hd ++ (s.data.toList.take pos).flatMap (letterB ⟨a0, a1, a2, false, a4, a5, a6, a7, a8, a9, a10, a11, a12, a13⟩)))
        (fun _ wr => s.size - wr.iterPos w4.heap.size)
      case atStart => exact ⟨0, hd, Nat.zero_le _, World.iter_heap _ _ _, hst4.alloc _, by omega, by simp [Hid]⟩
      case round =>
        obtain ⟨pos, l, hpos, hit, hst, hlen, heq⟩ := hrel
        clear hst4 hhl
        have HIT := Lib.hid hit
        clear hit
        by_cases hlt : pos < s.size
        · have hmem : s[pos] ∈ usesL a5 := by
            have h1 : s[pos] ∈ s.data.toList := List.getElem_mem (l := s.data.toList) (n := pos) (by simpa using hlt)
            have h2 : s.data.toList = usesL a5 := by rw [HS.out]; rfl
            rw [h2] at h1
            exact h1
          have hc7 := uses_mem a5 _ hmem
          clear hmem
          have HT : Hid ((s.data.toList.take (pos + 1)).flatMap (letterB ⟨a0, a1, a2, false, a4, a5, a6, a7, a8, a9, a10, a11, a12, a13⟩) = (s.data.toList.take pos).flatMap (letterB ⟨a0, a1, a2, false, a4, a5, a6, a7, a8, a9, a10, a11, a12, a13⟩) ++ letterB ⟨a0, a1, a2, false, a4, a5, a6, a7, a8, a9, a10, a11, a12, a13⟩ s[pos]) := flat_take s.data.toList _ pos (by simpa using hlt)
          have hasc : s[pos].toNat < 128 := by rcases hc7 with h | h | h | h | h | h | h <;> rw [h] <;> decide
          have hnx : ∀ ty, (Instr.next (.pointer (some ⟨w4.heap.size, 0, none⟩)) true ty).run Try.prog wr = .ok (.tuple #[.bool true, .int .i64 pos, .int .i32 s[pos].toNat]) (wr.iterAt w4.heap.size s (pos + 1)) := fun ty => Lib.run_next_ascii_at wr _ s pos ty HIT.out hlt hasc
          have hsti := hst.iterAt HIT.out (p := pos + 1) hz4
          have HITI : Hid ((wr.iterAt w4.heap.size s (pos + 1)).heap[w4.heap.size]? = some (.stringIter s (pos + 1))) := Lib.iterAt_heap wr _ s pos (pos + 1) HIT.out
          clear hst hasc
          generalize wr.iterAt w4.heap.size s (pos + 1) = wi at *
          have hcl := hsti.blk.cell
          generalize s[pos] = c at *
          rcases hc7 with rfl | rfl | rfl | rfl | rfl | rfl | rfl
          ·
            go_wp2_with fail
            refine (hsti.step [a6] 1 _ _ _ (l ++ [a6].flatMap (be 1)) rfl rfl rfl (by decide) (by simp) (by simp [be_length]; omega)).mono ?_
            rintro e w5 ⟨v5, rfl, hst5, hk5⟩
            clear hcl hsti
            go_wp2
            go_roundw
            case rel =>
              go_light
              refine ⟨pos + 1, _, by omega, iter_kp HITI.out hk5, hst5, by simp [be_length]; omega, ?_⟩
              unfold Hid
              rw [HT.out, heq.out]
              simp [letterB]
            case measure =>
              go_light
              have h1 := iter_kp HITI.out hk5
              have h0 := HIT.out
              simp [World.iterPos, h1, h0]
              omega
          ·
            go_wp2_with fail
            refine (hsti.step [a7, a8] 3 _ _ _ (l ++ [a7, a8].flatMap (be 3)) rfl rfl rfl (by decide) (by simp) (by simp [be_length]; omega)).mono ?_
            rintro e w5 ⟨v5, rfl, hst5, hk5⟩
            clear hcl hsti
            go_wp2
            go_roundw
            case rel =>
              go_light
              refine ⟨pos + 1, _, by omega, iter_kp HITI.out hk5, hst5, by simp [be_length]; omega, ?_⟩
              unfold Hid
              rw [HT.out, heq.out]
              simp [letterB]
            case measure =>
              go_light
              have h1 := iter_kp HITI.out hk5
              have h0 := HIT.out
              simp [World.iterPos, h1, h0]
              omega
          ·
            go_wp2_with fail
            refine (hsti.step [a9] 1 _ _ _ (l ++ [a9].flatMap (be 1)) rfl rfl rfl (by decide) (by simp) (by simp [be_length]; omega)).mono ?_
            rintro e w5 ⟨v5, rfl, hst5, hk5⟩
            clear hcl hsti
            go_wp2
            go_roundw
            case rel =>
              go_light
              refine ⟨pos + 1, _, by omega, iter_kp HITI.out hk5, hst5, by simp [be_length]; omega, ?_⟩
              unfold Hid
              rw [HT.out, heq.out]
              simp [letterB]
            case measure =>
              go_light
              have h1 := iter_kp HITI.out hk5
              have h0 := HIT.out
              simp [World.iterPos, h1, h0]
              omega
          ·
            go_wp2_with fail
            refine (hsti.step [a10] 1 _ _ _ (l ++ [a10].flatMap (be 1)) rfl rfl rfl (by decide) (by simp) (by simp [be_length]; omega)).mono ?_
            rintro e w5 ⟨v5, rfl, hst5, hk5⟩
            clear hcl hsti
            go_wp2
            go_roundw
            case rel =>
              go_light
              refine ⟨pos + 1, _, by omega, iter_kp HITI.out hk5, hst5, by simp [be_length]; omega, ?_⟩
              unfold Hid
              rw [HT.out, heq.out]
              simp [letterB]
            case measure =>
              go_light
              have h1 := iter_kp HITI.out hk5
              have h0 := HIT.out
              simp [World.iterPos, h1, h0]
              omega
          ·
            go_wp2_with fail
            refine (hsti.step [a11] 2 _ _ _ (l ++ [a11].flatMap (be 2)) rfl rfl rfl (by decide) (by simp) (by simp [be_length]; omega)).mono ?_
            rintro e w5 ⟨v5, rfl, hst5, hk5⟩
            clear hcl hsti
            go_wp2
            go_roundw
            case rel =>
              go_light
              refine ⟨pos + 1, _, by omega, iter_kp HITI.out hk5, hst5, by simp [be_length]; omega, ?_⟩
              unfold Hid
              rw [HT.out, heq.out]
              simp [letterB]
            case measure =>
              go_light
              have h1 := iter_kp HITI.out hk5
              have h0 := HIT.out
              simp [World.iterPos, h1, h0]
              omega
          ·
            go_wp2_with fail
            refine (hsti.step [a12] 4 _ _ _ (l ++ [a12].flatMap (be 4)) rfl rfl rfl (by decide) (by simp) (by simp [be_length]; omega)).mono ?_
            rintro e w5 ⟨v5, rfl, hst5, hk5⟩
            clear hcl hsti
            go_wp2
            go_roundw
            case rel =>
              go_light
              refine ⟨pos + 1, _, by omega, iter_kp HITI.out hk5, hst5, by simp [be_length]; omega, ?_⟩
              unfold Hid
              rw [HT.out, heq.out]
              simp [letterB]
            case measure =>
              go_light
              have h1 := iter_kp HITI.out hk5
              have h0 := HIT.out
              simp [World.iterPos, h1, h0]
              omega
          ·
            go_wp2_with fail
            refine (hsti.step [a13] 1 _ _ _ (l ++ [a13].flatMap (be 1)) rfl rfl rfl (by decide) (by simp) (by simp [be_length]; omega)).mono ?_
            rintro e w5 ⟨v5, rfl, hst5, hk5⟩
            clear hcl hsti
            go_wp2
            go_roundw
            case rel =>
              go_light
              refine ⟨pos + 1, _, by omega, iter_kp HITI.out hk5, hst5, by simp [be_length]; omega, ?_⟩
              unfold Hid
              rw [HT.out, heq.out]
              simp [letterB]
            case measure =>
              go_light
              have h1 := iter_kp HITI.out hk5
              have h0 := HIT.out
              simp [World.iterPos, h1, h0]
              omega
        · have hnx : ∀ ty, (Instr.next (.pointer (some ⟨w4.heap.size, 0, none⟩)) true ty).run Try.prog wr = .ok (.tuple #[.bool false]) wr := fun ty => Lib.run_next_end_at wr _ s pos ty HIT.out hlt
          go_wp2
          go_ret
          have e : l = factL ⟨a0, a1, a2, false, a4, a5, a6, a7, a8, a9, a10, a11, a12, a13⟩ := by
            have h9 : s.data.toList.length = s.size := by simp
            have hp : pos = s.data.toList.length := by omega
            have := heq.out
            rw [hp, List.take_length, HHD.out, HS.out] at this
            exact this
          rw [HO.out, ← e]
          exact ⟨_, rfl, hst.own, hst.bel, Kp.of_below hst.bel⟩
    ·
      have HV := Lib.hid (valid_any a0 a1 a2 true a4 a5 a6 a7 a8 a9 a10 a11 a12 a13)
      rw [hv] at HV
      clear hv
      go_enter Try.func72, Try.ntmps72
      go_wp2_with (go_at_call 77; refine (HV.out _).mono ?_; rintro e w1 ⟨rfl, hb1⟩; have hblk : BlkIs w1 w.heap.size 76 #[.int .i64 a0, .int .i64 a1, .int .i64 a2, .bool true, .int .i64 a4, .int .i64 a5, .int .i64 a6, .int .i64 a7, .int .i64 a8, .int .i64 a9, .int .i64 a10, .int .i64 a11, .int .i64 a12, .int .i64 a13] := BlkIs.below (BlkIs.new w _ _) hb1 (by simp); have hcl := hblk.cell)
      have hst1 : BSt w w.heap.size #[.int .i64 a0, .int .i64 a1, .int .i64 a2, .bool true, .int .i64 a4, .int .i64 a5, .int .i64 a6, .int .i64 a7, .int .i64 a8, .int .i64 a9, .int .i64 a10, .int .i64 a11, .int .i64 a12, .int .i64 a13] (.slice none 0 0) [] w1 := ⟨⟨rfl, .inl ⟨rfl, rfl⟩⟩, Below.boxed hb1, hblk, by simp⟩
      clear hblk
      refine (hst1.step [a0] 1 _ _ _ (be 1 a0) (by simp) rfl rfl (by decide) (by simp) (by simp [be_length])).mono ?_
      rintro e w2 ⟨v2, rfl, hst2, hk2⟩
      clear hcl hst1 hk2
      have hcl := hst2.blk.cell
      go_wp2_with fail
      refine (hst2.step [a1] 2 _ _ _ (be 1 a0 ++ be 2 a1) (by simp) rfl rfl (by decide) (by simp) (by simp [be_length])).mono ?_
      rintro e w3 ⟨v3, rfl, hst3, hk3⟩
      clear hcl hst2 hk3
      have hcl := hst3.blk.cell
      go_wp2_with fail
      refine (hst3.step [a2, 1, a4, a5] 1 _ _ _ (headB ⟨a0, a1, a2, true, a4, a5, a6, a7, a8, a9, a10, a11, a12, a13⟩) (by simp [headB, b01]) rfl rfl (by decide) (by simp) (by simp [headB_len])).mono ?_
      rintro e w4 ⟨v4, rfl, hst4, hk4⟩
      clear hcl hst3 hk4
      have hcl := hst4.blk.cell
      go_wp2_with (go_at_call 79; refine (uses_any _ _).mono ?_; rintro e w' ⟨rfl, rfl⟩)
      obtain ⟨s, hs⟩ : ∃ s, s = usesS a5 := ⟨_, rfl⟩
      have HS := Lib.hid hs
      rw [← hs]
      clear hs
      have hssz : s.size ≤ 6 := by rw [HS.out]; exact usesL_le a5
      have hz4 := hst4.bel.size
      have hhl := headB_len ⟨a0, a1, a2, true, a4, a5, a6, a7, a8, a9, a10, a11, a12, a13⟩
      obtain ⟨hd, hhd⟩ : ∃ hd, hd = headB ⟨a0, a1, a2, true, a4, a5, a6, a7, a8, a9, a10, a11, a12, a13⟩ := ⟨_, rfl⟩
      have HHD := Lib.hid hhd
      rw [← hhd] at hst4 hhl
      clear hhd hcl
      go_loopw [4] (fun v wr => ∃ (pos : Nat) (l : List UInt8), pos ≤ s.size ∧ wr.heap[w4.heap.size]? = some (.stringIter s pos) ∧ BSt w w.heap.size #[.int .i64 a0, .int .i64 a1, .int .i64 a2, .bool true, .int .i64 a4, .int .i64 a5, .int .i64 a6, .int .i64 a7, .int .i64 a8, .int .i64 a9, .int .i64 a10, .int .i64 a11, .int .i64 a12, .int .i64 a13] v l wr ∧ l.length ≤ 7 + 6 * pos ∧ Hid (l = hd ++ (s.data.toList.take pos).flatMap (letterB ⟨a0, a1, a2, true, a4, a5, a6, a7, a8, a9, a10, a11, a12, a13⟩)))
        (fun _ wr => s.size - wr.iterPos w4.heap.size)
      case atStart => exact ⟨0, hd, Nat.zero_le _, World.iter_heap _ _ _, hst4.alloc _, by omega, by simp [Hid]⟩
      case round =>
        obtain ⟨pos, l, hpos, hit, hst, hlen, heq⟩ := hrel
        clear hst4 hhl
        have HIT := Lib.hid hit
        clear hit
        by_cases hlt : pos < s.size
        · have hmem : s[pos] ∈ usesL a5 := by
            have h1 : s[pos] ∈ s.data.toList := List.getElem_mem (l := s.data.toList) (n := pos) (by simpa using hlt)
            have h2 : s.data.toList = usesL a5 := by rw [HS.out]; rfl
            rw [h2] at h1
            exact h1
          have hc7 := uses_mem a5 _ hmem
          clear hmem
          have HT : Hid ((s.data.toList.take (pos + 1)).flatMap (letterB ⟨a0, a1, a2, true, a4, a5, a6, a7, a8, a9, a10, a11, a12, a13⟩) = (s.data.toList.take pos).flatMap (letterB ⟨a0, a1, a2, true, a4, a5, a6, a7, a8, a9, a10, a11, a12, a13⟩) ++ letterB ⟨a0, a1, a2, true, a4, a5, a6, a7, a8, a9, a10, a11, a12, a13⟩ s[pos]) := flat_take s.data.toList _ pos (by simpa using hlt)
          have hasc : s[pos].toNat < 128 := by rcases hc7 with h | h | h | h | h | h | h <;> rw [h] <;> decide
          have hnx : ∀ ty, (Instr.next (.pointer (some ⟨w4.heap.size, 0, none⟩)) true ty).run Try.prog wr = .ok (.tuple #[.bool true, .int .i64 pos, .int .i32 s[pos].toNat]) (wr.iterAt w4.heap.size s (pos + 1)) := fun ty => Lib.run_next_ascii_at wr _ s pos ty HIT.out hlt hasc
          have hsti := hst.iterAt HIT.out (p := pos + 1) hz4
          have HITI : Hid ((wr.iterAt w4.heap.size s (pos + 1)).heap[w4.heap.size]? = some (.stringIter s (pos + 1))) := Lib.iterAt_heap wr _ s pos (pos + 1) HIT.out
          clear hst hasc
          generalize wr.iterAt w4.heap.size s (pos + 1) = wi at *
          have hcl := hsti.blk.cell
          generalize s[pos] = c at *
          rcases hc7 with rfl | rfl | rfl | rfl | rfl | rfl | rfl
          ·
            go_wp2_with fail
            refine (hsti.step [a6] 1 _ _ _ (l ++ [a6].flatMap (be 1)) rfl rfl rfl (by decide) (by simp) (by simp [be_length]; omega)).mono ?_
            rintro e w5 ⟨v5, rfl, hst5, hk5⟩
            clear hcl hsti
            go_wp2
            go_roundw
            case rel =>
              go_light
              refine ⟨pos + 1, _, by omega, iter_kp HITI.out hk5, hst5, by simp [be_length]; omega, ?_⟩
              unfold Hid
              rw [HT.out, heq.out]
              simp [letterB]
            case measure =>
              go_light
              have h1 := iter_kp HITI.out hk5
              have h0 := HIT.out
              simp [World.iterPos, h1, h0]
              omega
          ·
            go_wp2_with fail
            refine (hsti.step [a7, a8] 3 _ _ _ (l ++ [a7, a8].flatMap (be 3)) rfl rfl rfl (by decide) (by simp) (by simp [be_length]; omega)).mono ?_
            rintro e w5 ⟨v5, rfl, hst5, hk5⟩
            clear hcl hsti
            go_wp2
            go_roundw
            case rel =>
              go_light
              refine ⟨pos + 1, _, by omega, iter_kp HITI.out hk5, hst5, by simp [be_length]; omega, ?_⟩
              unfold Hid
              rw [HT.out, heq.out]
              simp [letterB]
            case measure =>
              go_light
              have h1 := iter_kp HITI.out hk5
              have h0 := HIT.out
              simp [World.iterPos, h1, h0]
              omega
          ·
            go_wp2_with fail
            refine (hsti.step [a9] 1 _ _ _ (l ++ [a9].flatMap (be 1)) rfl rfl rfl (by decide) (by simp) (by simp [be_length]; omega)).mono ?_
            rintro e w5 ⟨v5, rfl, hst5, hk5⟩
            clear hcl hsti
            go_wp2
            go_roundw
            case rel =>
              go_light
              refine ⟨pos + 1, _, by omega, iter_kp HITI.out hk5, hst5, by simp [be_length]; omega, ?_⟩
              unfold Hid
              rw [HT.out, heq.out]
              simp [letterB]
            case measure =>
              go_light
              have h1 := iter_kp HITI.out hk5
              have h0 := HIT.out
              simp [World.iterPos, h1, h0]
              omega
          ·
            go_wp2_with fail
            refine (hsti.step [a10] 1 _ _ _ (l ++ [a10].flatMap (be 1)) rfl rfl rfl (by decide) (by simp) (by simp [be_length]; omega)).mono ?_
            rintro e w5 ⟨v5, rfl, hst5, hk5⟩
            clear hcl hsti
            go_wp2
            go_roundw
            case rel =>
              go_light
              refine ⟨pos + 1, _, by omega, iter_kp HITI.out hk5, hst5, by simp [be_length]; omega, ?_⟩
              unfold Hid
              rw [HT.out, heq.out]
              simp [letterB]
            case measure =>
              go_light
              have h1 := iter_kp HITI.out hk5
              have h0 := HIT.out
              simp [World.iterPos, h1, h0]
              omega
          ·
            go_wp2_with fail
            refine (hsti.step [a11] 2 _ _ _ (l ++ [a11].flatMap (be 2)) rfl rfl rfl (by decide) (by simp) (by simp [be_length]; omega)).mono ?_
            rintro e w5 ⟨v5, rfl, hst5, hk5⟩
            clear hcl hsti
            go_wp2
            go_roundw
            case rel =>
              go_light
              refine ⟨pos + 1, _, by omega, iter_kp HITI.out hk5, hst5, by simp [be_length]; omega, ?_⟩
              unfold Hid
              rw [HT.out, heq.out]
              simp [letterB]
            case measure =>
              go_light
              have h1 := iter_kp HITI.out hk5
              have h0 := HIT.out
              simp [World.iterPos, h1, h0]
              omega
          ·
            go_wp2_with fail
            refine (hsti.step [a12] 4 _ _ _ (l ++ [a12].flatMap (be 4)) rfl rfl rfl (by decide) (by simp) (by simp [be_length]; omega)).mono ?_
            rintro e w5 ⟨v5, rfl, hst5, hk5⟩
            clear hcl hsti
            go_wp2
            go_roundw
            case rel =>
              go_light
              refine ⟨pos + 1, _, by omega, iter_kp HITI.out hk5, hst5, by simp [be_length]; omega, ?_⟩
              unfold Hid
              rw [HT.out, heq.out]
              simp [letterB]
            case measure =>
              go_light
              have h1 := iter_kp HITI.out hk5
              have h0 := HIT.out
              simp [World.iterPos, h1, h0]
              omega
          ·
            go_wp2_with fail
            refine (hsti.step [a13] 1 _ _ _ (l ++ [a13].flatMap (be 1)) rfl rfl rfl (by decide) (by simp) (by simp [be_length]; omega)).mono ?_
            rintro e w5 ⟨v5, rfl, hst5, hk5⟩
            clear hcl hsti
            go_wp2
            go_roundw
            case rel =>
              go_light
              refine ⟨pos + 1, _, by omega, iter_kp HITI.out hk5, hst5, by simp [be_length]; omega, ?_⟩
              unfold Hid
              rw [HT.out, heq.out]
              simp [letterB]
            case measure =>
              go_light
              have h1 := iter_kp HITI.out hk5
              have h0 := HIT.out
              simp [World.iterPos, h1, h0]
              omega
        · have hnx : ∀ ty, (Instr.next (.pointer (some ⟨w4.heap.size, 0, none⟩)) true ty).run Try.prog wr = .ok (.tuple #[.bool false]) wr := fun ty => Lib.run_next_end_at wr _ s pos ty HIT.out hlt
          go_wp2
          go_ret
          have e : l = factL ⟨a0, a1, a2, true, a4, a5, a6, a7, a8, a9, a10, a11, a12, a13⟩ := by
            have h9 : s.data.toList.length = s.size := by simp
            have hp : pos = s.data.toList.length := by omega
            have := heq.out
            rw [hp, List.take_length, HHD.out, HS.out] at this
            exact this
          rw [HO.out, ← e]
          exact ⟨_, rfl, hst.own, hst.bel, Kp.of_below hst.bel⟩
end Go.Proofs.Ytkkjiihdmpngbaa
