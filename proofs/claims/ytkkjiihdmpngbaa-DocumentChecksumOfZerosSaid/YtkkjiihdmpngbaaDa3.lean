/-
  Contracts: the document's OfClaim, OfRequest, OfRemittance, OfNotice.
-/
import Derived.Test.YtkkjiihdmpngbaaDa1
import Derived.Test.YtkkjiihdmpngbaaDa2
import Derived.Test.YtkkjiihdmpngbaaRel
namespace Go.Proofs.Ytkkjiihdmpngbaa
open Go.RowKit

theorem own_mono {w : World} {base base' n : Nat} {t : TypeId} {v : Value} {xs : List Value} (h : w.ownsRow base t 1 v n xs) (hb : base' ≤ base) : w.ownsRow base' t 1 v n xs := by
  obtain ⟨q1, q2⟩ := h
  refine ⟨q1, ?_⟩
  rcases q2 with h0 | ⟨g, cap, cur, hv, hg, rest⟩
  · exact .inl h0
  · exact .inr ⟨g, cap, cur, hv, Nat.le_trans hb hg, rest⟩
/-- A body that is being written beside a struct that lies boxed. -/
structure NSt (w : World) (B : Nat) (T : TypeId) (cs : Array Value) (v : Value) (l : List UInt8) (wr : World) : Prop where
  own : wr.ownsRow B 5 1 v l.length (bytesV l)
  box : BlkIs wr w.heap.size T cs
  bel : Below w.heap.size w wr
  lo : w.heap.size < B
  hi : B ≤ wr.heap.size
def NStPost (w : World) (B : Nat) (T : TypeId) (cs : Array Value) (l : List UInt8) (e : Ending) (w' : World) : Prop := ∃ v, e = .returned v ∧ NSt w B T cs v l w'
theorem NSt.step {w wr : World} {B : Nat} {T : TypeId} {cs : Array Value} {v : Value} {l : List UInt8} (h : NSt w B T cs v l wr) (x : Int) (k : Nat) (kk : Int) (hk : kk = k) (h8 : k ≤ 8) (hl : l.length ≤ 1000) :
    Calls Try.prog 54 #[v, .int .i64 x, .int .i64 kk] wr (NStPost w B T cs (l ++ be k x)) := by
  subst hk
  refine (dnumber_any B v l x k wr h8 (by omega) h.own h.hi).mono ?_
  rintro e w' ⟨v', rfl, hown, hb, _⟩
  exact ⟨v', rfl, hown, h.box.below hb h.lo, h.bel.trans (hb.mono (Nat.le_of_lt h.lo)), h.lo, Nat.le_trans h.hi hb.size⟩
theorem NSt.start {w w1 : World} {T : TypeId} {cs : Array Value} (hb : Below (w.alloc (.cells cs T)).heap.size (w.alloc (.cells cs T)) w1) : NSt w w1.heap.size T cs (.slice none 0 0) [] w1 := by
  have hs := hb.size
  simp at hs
  exact ⟨⟨rfl, .inl ⟨rfl, rfl⟩⟩, (BlkIs.new _ _ _).below hb (by simp), bnext ((Below.refl _ _).alloc (Nat.le_refl _) _) hb, by omega, Nat.le_refl _⟩
/-- A body and whether there is one. -/
def OfPost (l : List UInt8) (b : Bool) (w : World) (e : Ending) (w' : World) : Prop := ∃ v, e = .returned (.tuple #[v, .bool b]) ∧ w'.ownsRow w.heap.size 5 1 v l.length (bytesV l) ∧ Below w.heap.size w w'

/-- The bytes of a claim. -/
def claimL (x0 x1 x2 x3 x4 x5 : Int) : List UInt8 := (((((([] ++ be 1 x0) ++ be 2 x1) ++ be 1 x2) ++ be 1 x3) ++ be 1 x4) ++ be 3 x5)
def claimO (x0 x1 x2 x3 x4 x5 : Int) : List UInt8 := if claimB x0 x1 x2 x3 x4 x5 then claimL x0 x1 x2 x3 x4 x5 else []
theorem claimL_len (x0 x1 x2 x3 x4 x5 : Int) : (claimL x0 x1 x2 x3 x4 x5).length = 9 := by simp [claimL, be_length]
set_option maxRecDepth 100000 in
set_option maxHeartbeats 2000000 in
theorem ofclaim_any (x0 x1 x2 x3 x4 x5 : Int) (w : World) : Calls Try.prog 37 #[.agg #[.int .i64 x0, .int .i64 x1, .int .i64 x2, .int .i64 x3, .int .i64 x4, .int .i64 x5]] w (OfPost (claimO x0 x1 x2 x3 x4 x5) (claimB x0 x1 x2 x3 x4 x5) w) := by
  have HV := Lib.hid (vclaim_any x0 x1 x2 x3 x4 x5)
  rcases hv : claimB x0 x1 x2 x3 x4 x5 with _ | _
  · rw [hv] at HV
    have HO : Hid (claimO x0 x1 x2 x3 x4 x5 = []) := by simp [Hid, claimO, hv]
    clear hv
    go_enter Try.func37, Try.ntmps37
    go_wp2_with (go_at_call 67; refine (HV.out _).mono ?_; rintro e w1 ⟨rfl, hb1⟩)
    go_ret2
    rw [HO.out]
    exact ⟨_, rfl, ⟨rfl, .inl ⟨rfl, rfl⟩⟩, bnext ((Below.refl _ _).alloc (Nat.le_refl _) _) hb1⟩
  · rw [hv] at HV
    have HO : Hid (claimO x0 x1 x2 x3 x4 x5 = (((((([] ++ be 1 x0) ++ be 2 x1) ++ be 1 x2) ++ be 1 x3) ++ be 1 x4) ++ be 3 x5)) := by simp [Hid, claimO, hv, claimL]
    clear hv
    go_enter Try.func37, Try.ntmps37
    go_wp2_with fail
    refine (HV.out _).mono ?_
    rintro e w1 ⟨rfl, hb1⟩
    have hst0 := NSt.start hb1
    clear hb1
    have hcl := hst0.box.cell
    go_wp2_with fail
    refine (hst0.step x0 1 _ rfl (by decide) (by simp)).mono ?_
    rintro e u0 ⟨v0, rfl, hst1⟩
    clear hst0 hcl
    have hcl := hst1.box.cell
    go_wp2_with fail
    refine (hst1.step x1 2 _ rfl (by decide) (by simp [be_length])).mono ?_
    rintro e u1 ⟨v1, rfl, hst2⟩
    clear hst1 hcl
    have hcl := hst2.box.cell
    go_wp2_with fail
    refine (hst2.step x2 1 _ rfl (by decide) (by simp [be_length])).mono ?_
    rintro e u2 ⟨v2, rfl, hst3⟩
    clear hst2 hcl
    have hcl := hst3.box.cell
    go_wp2_with fail
    refine (hst3.step x3 1 _ rfl (by decide) (by simp [be_length])).mono ?_
    rintro e u3 ⟨v3, rfl, hst4⟩
    clear hst3 hcl
    have hcl := hst4.box.cell
    go_wp2_with fail
    refine (hst4.step x4 1 _ rfl (by decide) (by simp [be_length])).mono ?_
    rintro e u4 ⟨v4, rfl, hst5⟩
    clear hst4 hcl
    have hcl := hst5.box.cell
    go_wp2_with fail
    refine (hst5.step x5 3 _ rfl (by decide) (by simp [be_length])).mono ?_
    rintro e u5 ⟨v5, rfl, hst6⟩
    clear hst5 hcl
    have hcl := hst6.box.cell
    go_wp2
    go_ret2
    rw [HO.out]
    exact ⟨_, rfl, own_mono hst6.own (Nat.le_of_lt hst6.lo), hst6.bel⟩
/-- The bytes of a request. -/
def requestL (x0 x1 x2 : Int) : List UInt8 := ((([] ++ be 1 x0) ++ be 2 x1) ++ be 5 x2)
def requestO (x0 x1 x2 : Int) : List UInt8 := if requestB x0 x1 x2 then requestL x0 x1 x2 else []
theorem requestL_len (x0 x1 x2 : Int) : (requestL x0 x1 x2).length = 8 := by simp [requestL, be_length]
set_option maxRecDepth 100000 in
set_option maxHeartbeats 2000000 in
theorem ofrequest_any (x0 x1 x2 : Int) (w : World) : Calls Try.prog 41 #[.agg #[.int .i64 x0, .int .i64 x1, .int .i64 x2]] w (OfPost (requestO x0 x1 x2) (requestB x0 x1 x2) w) := by
  have HV := Lib.hid (vrequest_any x0 x1 x2)
  rcases hv : requestB x0 x1 x2 with _ | _
  · rw [hv] at HV
    have HO : Hid (requestO x0 x1 x2 = []) := by simp [Hid, requestO, hv]
    clear hv
    go_enter Try.func41, Try.ntmps41
    go_wp2_with (go_at_call 64; refine (HV.out _).mono ?_; rintro e w1 ⟨rfl, hb1⟩)
    go_ret2
    rw [HO.out]
    exact ⟨_, rfl, ⟨rfl, .inl ⟨rfl, rfl⟩⟩, bnext ((Below.refl _ _).alloc (Nat.le_refl _) _) hb1⟩
  · rw [hv] at HV
    have HO : Hid (requestO x0 x1 x2 = ((([] ++ be 1 x0) ++ be 2 x1) ++ be 5 x2)) := by simp [Hid, requestO, hv, requestL]
    clear hv
    go_enter Try.func41, Try.ntmps41
    go_wp2_with fail
    refine (HV.out _).mono ?_
    rintro e w1 ⟨rfl, hb1⟩
    have hst0 := NSt.start hb1
    clear hb1
    have hcl := hst0.box.cell
    go_wp2_with fail
    refine (hst0.step x0 1 _ rfl (by decide) (by simp)).mono ?_
    rintro e u0 ⟨v0, rfl, hst1⟩
    clear hst0 hcl
    have hcl := hst1.box.cell
    go_wp2_with fail
    refine (hst1.step x1 2 _ rfl (by decide) (by simp [be_length])).mono ?_
    rintro e u1 ⟨v1, rfl, hst2⟩
    clear hst1 hcl
    have hcl := hst2.box.cell
    go_wp2_with fail
    refine (hst2.step x2 5 _ rfl (by decide) (by simp [be_length])).mono ?_
    rintro e u2 ⟨v2, rfl, hst3⟩
    clear hst2 hcl
    have hcl := hst3.box.cell
    go_wp2
    go_ret2
    rw [HO.out]
    exact ⟨_, rfl, own_mono hst3.own (Nat.le_of_lt hst3.lo), hst3.bel⟩
/-- The bytes of a remittance. -/
def remittanceL (x0 x1 x2 x3 x4 x5 : Int) : List UInt8 := (((((([] ++ be 1 x0) ++ be 1 x1) ++ be 2 x2) ++ be 2 x3) ++ be 5 x4) ++ be 5 x5)
def remittanceO (x0 x1 x2 x3 x4 x5 : Int) : List UInt8 := if remittanceB x0 x1 x2 x3 x4 x5 then remittanceL x0 x1 x2 x3 x4 x5 else []
theorem remittanceL_len (x0 x1 x2 x3 x4 x5 : Int) : (remittanceL x0 x1 x2 x3 x4 x5).length = 16 := by simp [remittanceL, be_length]
set_option maxRecDepth 100000 in
set_option maxHeartbeats 2000000 in
theorem ofremittance_any (x0 x1 x2 x3 x4 x5 : Int) (w : World) : Calls Try.prog 43 #[.agg #[.int .i64 x0, .int .i64 x1, .int .i64 x2, .int .i64 x3, .int .i64 x4, .int .i64 x5]] w (OfPost (remittanceO x0 x1 x2 x3 x4 x5) (remittanceB x0 x1 x2 x3 x4 x5) w) := by
  have HV := Lib.hid (vremittance_any x0 x1 x2 x3 x4 x5)
  rcases hv : remittanceB x0 x1 x2 x3 x4 x5 with _ | _
  · rw [hv] at HV
    have HO : Hid (remittanceO x0 x1 x2 x3 x4 x5 = []) := by simp [Hid, remittanceO, hv]
    clear hv
    go_enter Try.func43, Try.ntmps43
    go_wp2_with (go_at_call 65; refine (HV.out _).mono ?_; rintro e w1 ⟨rfl, hb1⟩)
    go_ret2
    rw [HO.out]
    exact ⟨_, rfl, ⟨rfl, .inl ⟨rfl, rfl⟩⟩, bnext ((Below.refl _ _).alloc (Nat.le_refl _) _) hb1⟩
  · rw [hv] at HV
    have HO : Hid (remittanceO x0 x1 x2 x3 x4 x5 = (((((([] ++ be 1 x0) ++ be 1 x1) ++ be 2 x2) ++ be 2 x3) ++ be 5 x4) ++ be 5 x5)) := by simp [Hid, remittanceO, hv, remittanceL]
    clear hv
    go_enter Try.func43, Try.ntmps43
    go_wp2_with fail
    refine (HV.out _).mono ?_
    rintro e w1 ⟨rfl, hb1⟩
    have hst0 := NSt.start hb1
    clear hb1
    have hcl := hst0.box.cell
    go_wp2_with fail
    refine (hst0.step x0 1 _ rfl (by decide) (by simp)).mono ?_
    rintro e u0 ⟨v0, rfl, hst1⟩
    clear hst0 hcl
    have hcl := hst1.box.cell
    go_wp2_with fail
    refine (hst1.step x1 1 _ rfl (by decide) (by simp [be_length])).mono ?_
    rintro e u1 ⟨v1, rfl, hst2⟩
    clear hst1 hcl
    have hcl := hst2.box.cell
    go_wp2_with fail
    refine (hst2.step x2 2 _ rfl (by decide) (by simp [be_length])).mono ?_
    rintro e u2 ⟨v2, rfl, hst3⟩
    clear hst2 hcl
    have hcl := hst3.box.cell
    go_wp2_with fail
    refine (hst3.step x3 2 _ rfl (by decide) (by simp [be_length])).mono ?_
    rintro e u3 ⟨v3, rfl, hst4⟩
    clear hst3 hcl
    have hcl := hst4.box.cell
    go_wp2_with fail
    refine (hst4.step x4 5 _ rfl (by decide) (by simp [be_length])).mono ?_
    rintro e u4 ⟨v4, rfl, hst5⟩
    clear hst4 hcl
    have hcl := hst5.box.cell
    go_wp2_with fail
    refine (hst5.step x5 5 _ rfl (by decide) (by simp [be_length])).mono ?_
    rintro e u5 ⟨v5, rfl, hst6⟩
    clear hst5 hcl
    have hcl := hst6.box.cell
    go_wp2
    go_ret2
    rw [HO.out]
    exact ⟨_, rfl, own_mono hst6.own (Nat.le_of_lt hst6.lo), hst6.bel⟩
/-- The bytes of a notice. -/
def noticeL (x0 x1 x2 x3 : Int) : List UInt8 := (((([] ++ be 1 x0) ++ be 2 x1) ++ be 5 x2) ++ be 6 (x3 + 1000000000000))
def noticeO (x0 x1 x2 x3 : Int) : List UInt8 := if noticeB x0 x1 x2 x3 then noticeL x0 x1 x2 x3 else []
theorem noticeL_len (x0 x1 x2 x3 : Int) : (noticeL x0 x1 x2 x3).length = 14 := by simp [noticeL, be_length]
set_option maxRecDepth 100000 in
set_option maxHeartbeats 2000000 in
theorem ofnotice_any (x0 x1 x2 x3 : Int) (w : World) : Calls Try.prog 45 #[.agg #[.int .i64 x0, .int .i64 x1, .int .i64 x2, .int .i64 x3]] w (OfPost (noticeO x0 x1 x2 x3) (noticeB x0 x1 x2 x3) w) := by
  have HV := Lib.hid (vnotice_any x0 x1 x2 x3)
  rcases hv : noticeB x0 x1 x2 x3 with _ | _
  · rw [hv] at HV
    have HO : Hid (noticeO x0 x1 x2 x3 = []) := by simp [Hid, noticeO, hv]
    clear hv
    go_enter Try.func45, Try.ntmps45
    go_wp2_with (go_at_call 66; refine (HV.out _).mono ?_; rintro e w1 ⟨rfl, hb1⟩)
    go_ret2
    rw [HO.out]
    exact ⟨_, rfl, ⟨rfl, .inl ⟨rfl, rfl⟩⟩, bnext ((Below.refl _ _).alloc (Nat.le_refl _) _) hb1⟩
  · rw [hv] at HV
    have HO : Hid (noticeO x0 x1 x2 x3 = (((([] ++ be 1 x0) ++ be 2 x1) ++ be 5 x2) ++ be 6 (x3 + 1000000000000))) := by simp [Hid, noticeO, hv, noticeL]
    have hbd : -1000000000000 ≤ x3 ∧ x3 ≤ 1000000000000 := by
      simp only [noticeB, btw, Bool.and_eq_true, decide_eq_true_eq] at hv
      exact hv.2
    clear hv
    go_enter Try.func45, Try.ntmps45
    go_wp2_with fail
    refine (HV.out _).mono ?_
    rintro e w1 ⟨rfl, hb1⟩
    have hst0 := NSt.start hb1
    clear hb1
    have hcl := hst0.box.cell
    go_wp2_with fail
    refine (hst0.step x0 1 _ rfl (by decide) (by simp)).mono ?_
    rintro e u0 ⟨v0, rfl, hst1⟩
    clear hst0 hcl
    have hcl := hst1.box.cell
    go_wp2_with fail
    refine (hst1.step x1 2 _ rfl (by decide) (by simp [be_length])).mono ?_
    rintro e u1 ⟨v1, rfl, hst2⟩
    clear hst1 hcl
    have hcl := hst2.box.cell
    go_wp2_with fail
    refine (hst2.step x2 5 _ rfl (by decide) (by simp [be_length])).mono ?_
    rintro e u2 ⟨v2, rfl, hst3⟩
    clear hst2 hcl
    have hcl := hst3.box.cell
    go_wp2_with fail
    refine (hst3.step (x3 + 1000000000000) 6 _ rfl (by decide) (by simp [be_length])).mono ?_
    rintro e u3 ⟨v3, rfl, hst4⟩
    clear hst3 hcl
    have hcl := hst4.box.cell
    go_wp2
    go_ret2
    rw [HO.out]
    exact ⟨_, rfl, own_mono hst4.own (Nat.le_of_lt hst4.lo), hst4.bel⟩
end Go.Proofs.Ytkkjiihdmpngbaa
