/-
  Contracts: the document's Claim, Request, Remittance, Notice (bodies read).
-/
import Derived.Test.YtkkjiihdmpngbaaDa3
namespace Go.Proofs.Ytkkjiihdmpngbaa
open Go.RowKit

theorem results_cell2 {P : Program} {fn : Func} {p u : Tmp} {ty : TypeId} (h : fn.results = #[.cell p ty, .tmp u]) (tmps : Array Value) (w : World) (g : Nat) (t : TypeId) (cs : Array Value) (fr : Nat × Nat) (d : TypeDesc) (v1 : Value)
    (hp : tmps.getD p undef = .pointer (some ⟨g, 0, none⟩)) (h1 : tmps.getD u undef = v1) (hg : w.heap[g]? = some (.cells cs t fr))
    (hu : P.underlying ty = some d) (hd : (match d with | .struct _ | .array _ _ => true | _ => false) = true) (hi : (P.info? ty).map (·.size) = some cs.size) :
    (results fn tmps).run P w = .ok (.tuple #[.agg cs, v1]) w := by
  have hp' : tmps[p]?.getD undef = .pointer (some ⟨g, 0, none⟩) := by simpa using hp
  have h1' : tmps[u]?.getD undef = v1 := by simpa using h1
  simp [results, h, hp', h1', asAddr, run_loadVar_row w g t ty cs fr d hg hu hd hi]
/-- Where reading a body stands. -/
structure DSt (w : World) (T : TypeId) (zs : Array Value) (l : List UInt8) (wr : World) : Prop where
  z : BlkIs wr w.heap.size T zs
  r : DRdr w.heap.size (w.heap.size + 1) l wr
  bel : Below w.heap.size w wr
  len : l.length ≤ 1000
def DStPost (w : World) (T : TypeId) (zs : Array Value) (k : Nat) (l : List UInt8) (wr : World) (e : Ending) (w' : World) : Prop :=
  ∃ (g : Int) (l' : List UInt8), Hid (g = numB (l.take k) ∧ l' = l.drop k) ∧ l'.length + k = l.length ∧ e = .returned (.int .i64 g) ∧ DSt w T zs l' w' ∧ wr.grownBy w' (some (w.heap.size + 1))
theorem DSt.next {w wr : World} {T : TypeId} {zs : Array Value} {l : List UInt8} (h : DSt w T zs l wr) (k : Nat) (kk : Int) (hkk : kk = k) (hk1 : 1 ≤ k) (hk6 : k ≤ 6) (hkl : k ≤ l.length) :
    Calls Try.prog 61 #[.pointer (some ⟨w.heap.size + 1, 0, none⟩), .int .i64 kk] wr (DStPost w T zs k l wr) := by
  refine (next_any w.heap.size (w.heap.size + 1) k kk l wr hkk hk1 hk6 h.r hkl (by have := h.len; omega)).mono ?_
  rintro e w' ⟨he, hr, hg⟩
  exact ⟨_, _, ⟨rfl, rfl⟩, by simp; omega, he, ⟨h.z.grown hg (by simp), hr, h.bel.grown hg h.bel.size (fun k hk => by injection hk; omega), by have := h.len; simp; omega⟩, hg⟩
theorem DSt.start {w : World} {T : TypeId} {zs : Array Value} {a : Option Addr} {c : Nat} {l : List UInt8} (h : Sl w.heap.size w (.slice a l.length c) l) (hl : l.length ≤ 1000) :
    DSt w T zs l ((w.alloc (.cells zs T)).alloc (.cells #[.slice a l.length c] 91)) := by
  have hb : Below w.heap.size w ((w.alloc (.cells zs T)).alloc (.cells #[.slice a l.length c] 91)) := ((Below.refl _ _).alloc (Nat.le_refl _) _).alloc (by simp) _
  exact ⟨(BlkIs.new _ _ _).alloc _, ⟨⟨_, BlkIs.newAt _ _ _ _ (by simp), h.below hb⟩, by omega⟩, hb, hl⟩
theorem DSt.alloc {w wr : World} {T : TypeId} {zs : Array Value} {l : List UInt8} (h : DSt w T zs l wr) (o : Obj) : DSt w T zs l (wr.alloc o) := by
  obtain ⟨hz, ⟨⟨v, hb, hs⟩, hB⟩, hbel, hlen⟩ := h
  have h1 : w.heap.size ≤ wr.heap.size := hbel.size
  exact ⟨hz.alloc o, ⟨⟨v, hb.alloc o, hs.below ((Below.refl _ _).alloc h1 o)⟩, hB⟩, hbel.alloc h1 o, hlen⟩
theorem numB_lt (l : List UInt8) (k : Nat) (hk : k ≤ 6) : 0 ≤ numB (l.take k) ∧ numB (l.take k) < 281474976710656 := by
  have h := numB_bd (l.take k)
  have h1 := pow256_le (l.take k).length (by simp; omega)
  omega

/-- Whether bytes are a claim, and its numbers. -/
def claimOk (l : List UInt8) : Bool := decide (l.length = 9) && claimB (numB (List.take 1 l)) (numB (List.take 2 (List.drop 1 l))) (numB (List.take 1 (List.drop 2 (List.drop 1 l)))) (numB (List.take 1 (List.drop 1 (List.drop 2 (List.drop 1 l))))) (numB (List.take 1 (List.drop 1 (List.drop 1 (List.drop 2 (List.drop 1 l)))))) (numB (List.take 3 (List.drop 1 (List.drop 1 (List.drop 1 (List.drop 2 (List.drop 1 l)))))))
def claimI0 (l : List UInt8) : Int := if claimOk l then (numB (List.take 1 l)) else 0
def claimI1 (l : List UInt8) : Int := if claimOk l then (numB (List.take 2 (List.drop 1 l))) else 0
def claimI2 (l : List UInt8) : Int := if claimOk l then (numB (List.take 1 (List.drop 2 (List.drop 1 l)))) else 0
def claimI3 (l : List UInt8) : Int := if claimOk l then (numB (List.take 1 (List.drop 1 (List.drop 2 (List.drop 1 l))))) else 0
def claimI4 (l : List UInt8) : Int := if claimOk l then (numB (List.take 1 (List.drop 1 (List.drop 1 (List.drop 2 (List.drop 1 l)))))) else 0
def claimI5 (l : List UInt8) : Int := if claimOk l then (numB (List.take 3 (List.drop 1 (List.drop 1 (List.drop 1 (List.drop 2 (List.drop 1 l))))))) else 0
def TookClaim (l : List UInt8) (w : World) (e : Ending) (w' : World) : Prop := e = .returned (.tuple #[.agg #[.int .i64 (claimI0 l), .int .i64 (claimI1 l), .int .i64 (claimI2 l), .int .i64 (claimI3 l), .int .i64 (claimI4 l), .int .i64 (claimI5 l)], .bool (claimOk l)]) ∧ Below w.heap.size w w'
theorem claim_put {wr : World} {g : Nat} {t : TypeId} {z : Array Value} (hz : z.size = 6) (h : BlkIs wr g t z) (g0 g1 g2 g3 g4 g5 : Int) : BlkIs ((((((wr.setCell ⟨g, 0, none⟩ (.int .i64 g0)).setCell ⟨g, 1, none⟩ (.int .i64 g1)).setCell ⟨g, 2, none⟩ (.int .i64 g2)).setCell ⟨g, 3, none⟩ (.int .i64 g3)).setCell ⟨g, 4, none⟩ (.int .i64 g4)).setCell ⟨g, 5, none⟩ (.int .i64 g5)) g t #[.int .i64 g0, .int .i64 g1, .int .i64 g2, .int .i64 g3, .int .i64 g4, .int .i64 g5] := by
  have e : ((((((z.setIfInBounds 0 (.int .i64 g0)).setIfInBounds 1 (.int .i64 g1)).setIfInBounds 2 (.int .i64 g2)).setIfInBounds 3 (.int .i64 g3)).setIfInBounds 4 (.int .i64 g4)).setIfInBounds 5 (.int .i64 g5)) = #[.int .i64 g0, .int .i64 g1, .int .i64 g2, .int .i64 g3, .int .i64 g4, .int .i64 g5] := by
    obtain ⟨z⟩ := z
    match z, hz with
    | [_, _, _, _, _, _], _ => rfl
  rw [← e]
  exact ((((((h.put 0 (.int .i64 g0)).put 1 (.int .i64 g1)).put 2 (.int .i64 g2)).put 3 (.int .i64 g3)).put 4 (.int .i64 g4)).put 5 (.int .i64 g5))
theorem claim_far {B : Nat} {w wr : World} {g : Nat} (h : Below B w wr) (hg : B ≤ g) (g0 g1 g2 g3 g4 g5 : Int) : Below B w ((((((wr.setCell ⟨g, 0, none⟩ (.int .i64 g0)).setCell ⟨g, 1, none⟩ (.int .i64 g1)).setCell ⟨g, 2, none⟩ (.int .i64 g2)).setCell ⟨g, 3, none⟩ (.int .i64 g3)).setCell ⟨g, 4, none⟩ (.int .i64 g4)).setCell ⟨g, 5, none⟩ (.int .i64 g5)) :=
  ((((((h.setCell (p := ⟨g, 0, none⟩) hg (.int .i64 g0)).setCell (p := ⟨g, 1, none⟩) hg (.int .i64 g1)).setCell (p := ⟨g, 2, none⟩) hg (.int .i64 g2)).setCell (p := ⟨g, 3, none⟩) hg (.int .i64 g3)).setCell (p := ⟨g, 4, none⟩) hg (.int .i64 g4)).setCell (p := ⟨g, 5, none⟩) hg (.int .i64 g5))
theorem info_claim : (Try.prog.info? 62).map (·.size) = some 6 := by kernel_rfl
theorem tookClaim_no {l : List UInt8} {w w' : World} (h : claimOk l = false) (hb : Below w.heap.size w w') : TookClaim l w (.returned (.tuple #[.agg #[.int .i64 0, .int .i64 0, .int .i64 0, .int .i64 0, .int .i64 0, .int .i64 0], .bool false])) w' := by
  refine ⟨?_, hb⟩
  simp [h, claimI0, claimI1, claimI2, claimI3, claimI4, claimI5]
theorem tookClaim_yes {l : List UInt8} {w w' : World} {g0 g1 g2 g3 g4 g5 : Int} (e0 : (numB (List.take 1 l)) = g0) (e1 : (numB (List.take 2 (List.drop 1 l))) = g1) (e2 : (numB (List.take 1 (List.drop 2 (List.drop 1 l)))) = g2) (e3 : (numB (List.take 1 (List.drop 1 (List.drop 2 (List.drop 1 l))))) = g3) (e4 : (numB (List.take 1 (List.drop 1 (List.drop 1 (List.drop 2 (List.drop 1 l)))))) = g4) (e5 : (numB (List.take 3 (List.drop 1 (List.drop 1 (List.drop 1 (List.drop 2 (List.drop 1 l))))))) = g5) (h : claimOk l = true) (hb : Below w.heap.size w w') : TookClaim l w (.returned (.tuple #[.agg #[.int .i64 g0, .int .i64 g1, .int .i64 g2, .int .i64 g3, .int .i64 g4, .int .i64 g5], .bool true])) w' := by
  subst e0 e1 e2 e3 e4 e5
  refine ⟨?_, hb⟩
  simp [h, claimI0, claimI1, claimI2, claimI3, claimI4, claimI5]
set_option maxRecDepth 100000 in
set_option maxHeartbeats 4000000 in
theorem takeClaim_any (v : Value) (l : List UInt8) (w : World) (hsl : Sl w.heap.size w v l) : Calls Try.prog 39 #[v] w (TookClaim l w) := by
  obtain ⟨a, c, hv, hc, hx⟩ := id hsl
  subst hv
  clear hx
  by_cases hlen : l.length = 9
  · have hst0 := DSt.start (T := 62) (zs := #[.int .i64 0, .int .i64 0, .int .i64 0, .int .i64 0, .int .i64 0, .int .i64 0]) hsl (by omega)
    rw [hlen] at hst0 hc ⊢
    have HLEN := Lib.hid hlen
    clear hlen
    clear hsl
    go_enter Try.func39, Try.ntmps39
    go_wp2_with fail
    refine (hst0.next 1 _ rfl (by decide) (by decide) (by have := HLEN.out; omega)).mono ?_
    rintro e u0 ⟨g0, l1, HG0, hl1, rfl, hst1, hgr⟩
    clear hst0 hgr
    go_wp2_with fail
    refine (hst1.next 2 _ rfl (by decide) (by decide) (by have := HLEN.out; omega)).mono ?_
    rintro e u1 ⟨g1, l2, HG1, hl2, rfl, hst2, hgr⟩
    clear hst1 hgr
    go_wp2_with fail
    refine (hst2.next 1 _ rfl (by decide) (by decide) (by have := HLEN.out; omega)).mono ?_
    rintro e u2 ⟨g2, l3, HG2, hl3, rfl, hst3, hgr⟩
    clear hst2 hgr
    go_wp2_with fail
    refine (hst3.next 1 _ rfl (by decide) (by decide) (by have := HLEN.out; omega)).mono ?_
    rintro e u3 ⟨g3, l4, HG3, hl4, rfl, hst4, hgr⟩
    clear hst3 hgr
    go_wp2_with fail
    refine (hst4.next 1 _ rfl (by decide) (by decide) (by have := HLEN.out; omega)).mono ?_
    rintro e u4 ⟨g4, l5, HG4, hl5, rfl, hst5, hgr⟩
    clear hst4 hgr
    go_wp2_with fail
    refine (hst5.next 3 _ rfl (by decide) (by decide) (by have := HLEN.out; omega)).mono ?_
    rintro e u5 ⟨g5, l6, HG5, hl6, rfl, hst6, hgr⟩
    clear hst5 hgr
    have e0 : (numB (List.take 1 l)) = g0 := by rw [HG0.out.1]
    have e1 : (numB (List.take 2 (List.drop 1 l))) = g1 := by rw [HG1.out.1, HG0.out.2]
    have e2 : (numB (List.take 1 (List.drop 2 (List.drop 1 l)))) = g2 := by rw [HG2.out.1, HG1.out.2, HG0.out.2]
    have e3 : (numB (List.take 1 (List.drop 1 (List.drop 2 (List.drop 1 l))))) = g3 := by rw [HG3.out.1, HG2.out.2, HG1.out.2, HG0.out.2]
    have e4 : (numB (List.take 1 (List.drop 1 (List.drop 1 (List.drop 2 (List.drop 1 l)))))) = g4 := by rw [HG4.out.1, HG3.out.2, HG2.out.2, HG1.out.2, HG0.out.2]
    have e5 : (numB (List.take 3 (List.drop 1 (List.drop 1 (List.drop 1 (List.drop 2 (List.drop 1 l))))))) = g5 := by rw [HG5.out.1, HG4.out.2, HG3.out.2, HG2.out.2, HG1.out.2, HG0.out.2]
    have HOK : Hid (claimOk l = claimB g0 g1 g2 g3 g4 g5) := by
      unfold Hid claimOk
      rw [e0, e1, e2, e3, e4, e5, HLEN.out]
      rfl
    go_wp2_with fail
    have hn : w.heap.size + 1 < u5.heap.size := by obtain ⟨⟨_, hb, _⟩, _⟩ := hst6.r; exact hb.lt
    have hz := hst6.z.alloc (.cells #[.int .i64 g0, .int .i64 g1, .int .i64 g2, .int .i64 g3, .int .i64 g4, .int .i64 g5] 62)
    have hbel := hst6.bel.alloc (by omega) (.cells #[.int .i64 g0, .int .i64 g1, .int .i64 g2, .int .i64 g3, .int .i64 g4, .int .i64 g5] 62)
    have hnew := BlkIs.new u5 62 #[.int .i64 g0, .int .i64 g1, .int .i64 g2, .int .i64 g3, .int .i64 g4, .int .i64 g5]
    clear hst6
    refine (vclaim_any g0 g1 g2 g3 g4 g5 _).mono ?_
    rintro e wv ⟨rfl, hbv⟩
    replace hz := hz.below hbv hz.lt
    replace hnew := hnew.below hbv hnew.lt
    replace hbel := bnext hbel hbv
    clear hbv
    have hcz := hz.cell
    have hfz := hz.frozen
    have hcn := hnew.cell
    rw [← HOK.out]
    rcases hok : claimOk l with _ | _
    · go_wp2
      refine bodyPost_ret (v := .tuple #[.agg #[.int .i64 0, .int .i64 0, .int .i64 0, .int .i64 0, .int .i64 0, .int .i64 0], .bool false]) (results_cell2 Try.results39 _ _ w.heap.size 62 _ (0, 0) _ _ rfl rfl (claim_put rfl hz 0 0 0 0 0 0) Try.underlying62 rfl info_claim) rfl ?_
      exact tookClaim_no hok (claim_far hbel (Nat.le_refl _) 0 0 0 0 0 0)
    · go_wp2
      refine bodyPost_ret (v := .tuple #[.agg #[.int .i64 g0, .int .i64 g1, .int .i64 g2, .int .i64 g3, .int .i64 g4, .int .i64 g5], .bool true]) (results_cell2 Try.results39 _ _ w.heap.size 62 _ (0, 0) _ _ rfl rfl (claim_put rfl hz g0 g1 g2 g3 g4 g5) Try.underlying62 rfl info_claim) rfl ?_
      exact tookClaim_yes e0 e1 e2 e3 e4 e5 hok (claim_far hbel (Nat.le_refl _) g0 g1 g2 g3 g4 g5)
  · have hok : claimOk l = false := by simp [claimOk, hlen]
    have hne : ¬ (l.length : Int) = 9 := by omega
    have hz : BlkIs (w.alloc (.cells #[.int .i64 0, .int .i64 0, .int .i64 0, .int .i64 0, .int .i64 0, .int .i64 0] 62)) w.heap.size 62 #[.int .i64 0, .int .i64 0, .int .i64 0, .int .i64 0, .int .i64 0, .int .i64 0] := BlkIs.new _ _ _
    go_enter Try.func39, Try.ntmps39
    go_wp2
    refine bodyPost_ret (v := .tuple #[.agg #[.int .i64 0, .int .i64 0, .int .i64 0, .int .i64 0, .int .i64 0, .int .i64 0], .bool false]) (results_cell2 Try.results39 _ _ w.heap.size 62 _ (0, 0) _ _ rfl rfl hz Try.underlying62 rfl info_claim) rfl ?_
    exact tookClaim_no hok ((Below.refl _ _).alloc (Nat.le_refl _) _)
/-- Whether bytes are a request, and its numbers. -/
def requestOk (l : List UInt8) : Bool := decide (l.length = 8) && requestB (numB (List.take 1 l)) (numB (List.take 2 (List.drop 1 l))) (numB (List.take 5 (List.drop 2 (List.drop 1 l))))
def requestI0 (l : List UInt8) : Int := if requestOk l then (numB (List.take 1 l)) else 0
def requestI1 (l : List UInt8) : Int := if requestOk l then (numB (List.take 2 (List.drop 1 l))) else 0
def requestI2 (l : List UInt8) : Int := if requestOk l then (numB (List.take 5 (List.drop 2 (List.drop 1 l)))) else 0
def TookRequest (l : List UInt8) (w : World) (e : Ending) (w' : World) : Prop := e = .returned (.tuple #[.agg #[.int .i64 (requestI0 l), .int .i64 (requestI1 l), .int .i64 (requestI2 l)], .bool (requestOk l)]) ∧ Below w.heap.size w w'
theorem request_put {wr : World} {g : Nat} {t : TypeId} {z : Array Value} (hz : z.size = 3) (h : BlkIs wr g t z) (g0 g1 g2 : Int) : BlkIs (((wr.setCell ⟨g, 0, none⟩ (.int .i64 g0)).setCell ⟨g, 1, none⟩ (.int .i64 g1)).setCell ⟨g, 2, none⟩ (.int .i64 g2)) g t #[.int .i64 g0, .int .i64 g1, .int .i64 g2] := by
  have e : (((z.setIfInBounds 0 (.int .i64 g0)).setIfInBounds 1 (.int .i64 g1)).setIfInBounds 2 (.int .i64 g2)) = #[.int .i64 g0, .int .i64 g1, .int .i64 g2] := by
    obtain ⟨z⟩ := z
    match z, hz with
    | [_, _, _], _ => rfl
  rw [← e]
  exact (((h.put 0 (.int .i64 g0)).put 1 (.int .i64 g1)).put 2 (.int .i64 g2))
theorem request_far {B : Nat} {w wr : World} {g : Nat} (h : Below B w wr) (hg : B ≤ g) (g0 g1 g2 : Int) : Below B w (((wr.setCell ⟨g, 0, none⟩ (.int .i64 g0)).setCell ⟨g, 1, none⟩ (.int .i64 g1)).setCell ⟨g, 2, none⟩ (.int .i64 g2)) :=
  (((h.setCell (p := ⟨g, 0, none⟩) hg (.int .i64 g0)).setCell (p := ⟨g, 1, none⟩) hg (.int .i64 g1)).setCell (p := ⟨g, 2, none⟩) hg (.int .i64 g2))
theorem info_request : (Try.prog.info? 48).map (·.size) = some 3 := by kernel_rfl
theorem tookRequest_no {l : List UInt8} {w w' : World} (h : requestOk l = false) (hb : Below w.heap.size w w') : TookRequest l w (.returned (.tuple #[.agg #[.int .i64 0, .int .i64 0, .int .i64 0], .bool false])) w' := by
  refine ⟨?_, hb⟩
  simp [h, requestI0, requestI1, requestI2]
theorem tookRequest_yes {l : List UInt8} {w w' : World} {g0 g1 g2 : Int} (e0 : (numB (List.take 1 l)) = g0) (e1 : (numB (List.take 2 (List.drop 1 l))) = g1) (e2 : (numB (List.take 5 (List.drop 2 (List.drop 1 l)))) = g2) (h : requestOk l = true) (hb : Below w.heap.size w w') : TookRequest l w (.returned (.tuple #[.agg #[.int .i64 g0, .int .i64 g1, .int .i64 g2], .bool true])) w' := by
  subst e0 e1 e2
  refine ⟨?_, hb⟩
  simp [h, requestI0, requestI1, requestI2]
set_option maxRecDepth 100000 in
set_option maxHeartbeats 4000000 in
theorem takeRequest_any (v : Value) (l : List UInt8) (w : World) (hsl : Sl w.heap.size w v l) : Calls Try.prog 30 #[v] w (TookRequest l w) := by
  obtain ⟨a, c, hv, hc, hx⟩ := id hsl
  subst hv
  clear hx
  by_cases hlen : l.length = 8
  · have hst0 := DSt.start (T := 48) (zs := #[.int .i64 0, .int .i64 0, .int .i64 0]) hsl (by omega)
    rw [hlen] at hst0 hc ⊢
    have HLEN := Lib.hid hlen
    clear hlen
    clear hsl
    go_enter Try.func30, Try.ntmps30
    go_wp2_with fail
    refine (hst0.next 1 _ rfl (by decide) (by decide) (by have := HLEN.out; omega)).mono ?_
    rintro e u0 ⟨g0, l1, HG0, hl1, rfl, hst1, hgr⟩
    clear hst0 hgr
    go_wp2_with fail
    refine (hst1.next 2 _ rfl (by decide) (by decide) (by have := HLEN.out; omega)).mono ?_
    rintro e u1 ⟨g1, l2, HG1, hl2, rfl, hst2, hgr⟩
    clear hst1 hgr
    go_wp2_with fail
    refine (hst2.next 5 _ rfl (by decide) (by decide) (by have := HLEN.out; omega)).mono ?_
    rintro e u2 ⟨g2, l3, HG2, hl3, rfl, hst3, hgr⟩
    clear hst2 hgr
    have e0 : (numB (List.take 1 l)) = g0 := by rw [HG0.out.1]
    have e1 : (numB (List.take 2 (List.drop 1 l))) = g1 := by rw [HG1.out.1, HG0.out.2]
    have e2 : (numB (List.take 5 (List.drop 2 (List.drop 1 l)))) = g2 := by rw [HG2.out.1, HG1.out.2, HG0.out.2]
    have HOK : Hid (requestOk l = requestB g0 g1 g2) := by
      unfold Hid requestOk
      rw [e0, e1, e2, HLEN.out]
      rfl
    go_wp2_with fail
    have hn : w.heap.size + 1 < u2.heap.size := by obtain ⟨⟨_, hb, _⟩, _⟩ := hst3.r; exact hb.lt
    have hz := hst3.z.alloc (.cells #[.int .i64 g0, .int .i64 g1, .int .i64 g2] 48)
    have hbel := hst3.bel.alloc (by omega) (.cells #[.int .i64 g0, .int .i64 g1, .int .i64 g2] 48)
    have hnew := BlkIs.new u2 48 #[.int .i64 g0, .int .i64 g1, .int .i64 g2]
    clear hst3
    refine (vrequest_any g0 g1 g2 _).mono ?_
    rintro e wv ⟨rfl, hbv⟩
    replace hz := hz.below hbv hz.lt
    replace hnew := hnew.below hbv hnew.lt
    replace hbel := bnext hbel hbv
    clear hbv
    have hcz := hz.cell
    have hfz := hz.frozen
    have hcn := hnew.cell
    rw [← HOK.out]
    rcases hok : requestOk l with _ | _
    · go_wp2
      refine bodyPost_ret (v := .tuple #[.agg #[.int .i64 0, .int .i64 0, .int .i64 0], .bool false]) (results_cell2 Try.results30 _ _ w.heap.size 48 _ (0, 0) _ _ rfl rfl (request_put rfl hz 0 0 0) Try.underlying48 rfl info_request) rfl ?_
      exact tookRequest_no hok (request_far hbel (Nat.le_refl _) 0 0 0)
    · go_wp2
      refine bodyPost_ret (v := .tuple #[.agg #[.int .i64 g0, .int .i64 g1, .int .i64 g2], .bool true]) (results_cell2 Try.results30 _ _ w.heap.size 48 _ (0, 0) _ _ rfl rfl (request_put rfl hz g0 g1 g2) Try.underlying48 rfl info_request) rfl ?_
      exact tookRequest_yes e0 e1 e2 hok (request_far hbel (Nat.le_refl _) g0 g1 g2)
  · have hok : requestOk l = false := by simp [requestOk, hlen]
    have hne : ¬ (l.length : Int) = 8 := by omega
    have hz : BlkIs (w.alloc (.cells #[.int .i64 0, .int .i64 0, .int .i64 0] 48)) w.heap.size 48 #[.int .i64 0, .int .i64 0, .int .i64 0] := BlkIs.new _ _ _
    go_enter Try.func30, Try.ntmps30
    go_wp2
    refine bodyPost_ret (v := .tuple #[.agg #[.int .i64 0, .int .i64 0, .int .i64 0], .bool false]) (results_cell2 Try.results30 _ _ w.heap.size 48 _ (0, 0) _ _ rfl rfl hz Try.underlying48 rfl info_request) rfl ?_
    exact tookRequest_no hok ((Below.refl _ _).alloc (Nat.le_refl _) _)
/-- Whether bytes are a remittance, and its numbers. -/
def remittanceOk (l : List UInt8) : Bool := decide (l.length = 16) && remittanceB (numB (List.take 1 l)) (numB (List.take 1 (List.drop 1 l))) (numB (List.take 2 (List.drop 1 (List.drop 1 l)))) (numB (List.take 2 (List.drop 2 (List.drop 1 (List.drop 1 l))))) (numB (List.take 5 (List.drop 2 (List.drop 2 (List.drop 1 (List.drop 1 l)))))) (numB (List.take 5 (List.drop 5 (List.drop 2 (List.drop 2 (List.drop 1 (List.drop 1 l)))))))
def remittanceI0 (l : List UInt8) : Int := if remittanceOk l then (numB (List.take 1 l)) else 0
def remittanceI1 (l : List UInt8) : Int := if remittanceOk l then (numB (List.take 1 (List.drop 1 l))) else 0
def remittanceI2 (l : List UInt8) : Int := if remittanceOk l then (numB (List.take 2 (List.drop 1 (List.drop 1 l)))) else 0
def remittanceI3 (l : List UInt8) : Int := if remittanceOk l then (numB (List.take 2 (List.drop 2 (List.drop 1 (List.drop 1 l))))) else 0
def remittanceI4 (l : List UInt8) : Int := if remittanceOk l then (numB (List.take 5 (List.drop 2 (List.drop 2 (List.drop 1 (List.drop 1 l)))))) else 0
def remittanceI5 (l : List UInt8) : Int := if remittanceOk l then (numB (List.take 5 (List.drop 5 (List.drop 2 (List.drop 2 (List.drop 1 (List.drop 1 l))))))) else 0
def TookRemittance (l : List UInt8) (w : World) (e : Ending) (w' : World) : Prop := e = .returned (.tuple #[.agg #[.int .i64 (remittanceI0 l), .int .i64 (remittanceI1 l), .int .i64 (remittanceI2 l), .int .i64 (remittanceI3 l), .int .i64 (remittanceI4 l), .int .i64 (remittanceI5 l)], .bool (remittanceOk l)]) ∧ Below w.heap.size w w'
theorem remittance_put {wr : World} {g : Nat} {t : TypeId} {z : Array Value} (hz : z.size = 6) (h : BlkIs wr g t z) (g0 g1 g2 g3 g4 g5 : Int) : BlkIs ((((((wr.setCell ⟨g, 0, none⟩ (.int .i64 g0)).setCell ⟨g, 1, none⟩ (.int .i64 g1)).setCell ⟨g, 2, none⟩ (.int .i64 g2)).setCell ⟨g, 3, none⟩ (.int .i64 g3)).setCell ⟨g, 4, none⟩ (.int .i64 g4)).setCell ⟨g, 5, none⟩ (.int .i64 g5)) g t #[.int .i64 g0, .int .i64 g1, .int .i64 g2, .int .i64 g3, .int .i64 g4, .int .i64 g5] := by
  have e : ((((((z.setIfInBounds 0 (.int .i64 g0)).setIfInBounds 1 (.int .i64 g1)).setIfInBounds 2 (.int .i64 g2)).setIfInBounds 3 (.int .i64 g3)).setIfInBounds 4 (.int .i64 g4)).setIfInBounds 5 (.int .i64 g5)) = #[.int .i64 g0, .int .i64 g1, .int .i64 g2, .int .i64 g3, .int .i64 g4, .int .i64 g5] := by
    obtain ⟨z⟩ := z
    match z, hz with
    | [_, _, _, _, _, _], _ => rfl
  rw [← e]
  exact ((((((h.put 0 (.int .i64 g0)).put 1 (.int .i64 g1)).put 2 (.int .i64 g2)).put 3 (.int .i64 g3)).put 4 (.int .i64 g4)).put 5 (.int .i64 g5))
theorem remittance_far {B : Nat} {w wr : World} {g : Nat} (h : Below B w wr) (hg : B ≤ g) (g0 g1 g2 g3 g4 g5 : Int) : Below B w ((((((wr.setCell ⟨g, 0, none⟩ (.int .i64 g0)).setCell ⟨g, 1, none⟩ (.int .i64 g1)).setCell ⟨g, 2, none⟩ (.int .i64 g2)).setCell ⟨g, 3, none⟩ (.int .i64 g3)).setCell ⟨g, 4, none⟩ (.int .i64 g4)).setCell ⟨g, 5, none⟩ (.int .i64 g5)) :=
  ((((((h.setCell (p := ⟨g, 0, none⟩) hg (.int .i64 g0)).setCell (p := ⟨g, 1, none⟩) hg (.int .i64 g1)).setCell (p := ⟨g, 2, none⟩) hg (.int .i64 g2)).setCell (p := ⟨g, 3, none⟩) hg (.int .i64 g3)).setCell (p := ⟨g, 4, none⟩) hg (.int .i64 g4)).setCell (p := ⟨g, 5, none⟩) hg (.int .i64 g5))
theorem info_remittance : (Try.prog.info? 52).map (·.size) = some 6 := by kernel_rfl
theorem tookRemittance_no {l : List UInt8} {w w' : World} (h : remittanceOk l = false) (hb : Below w.heap.size w w') : TookRemittance l w (.returned (.tuple #[.agg #[.int .i64 0, .int .i64 0, .int .i64 0, .int .i64 0, .int .i64 0, .int .i64 0], .bool false])) w' := by
  refine ⟨?_, hb⟩
  simp [h, remittanceI0, remittanceI1, remittanceI2, remittanceI3, remittanceI4, remittanceI5]
theorem tookRemittance_yes {l : List UInt8} {w w' : World} {g0 g1 g2 g3 g4 g5 : Int} (e0 : (numB (List.take 1 l)) = g0) (e1 : (numB (List.take 1 (List.drop 1 l))) = g1) (e2 : (numB (List.take 2 (List.drop 1 (List.drop 1 l)))) = g2) (e3 : (numB (List.take 2 (List.drop 2 (List.drop 1 (List.drop 1 l))))) = g3) (e4 : (numB (List.take 5 (List.drop 2 (List.drop 2 (List.drop 1 (List.drop 1 l)))))) = g4) (e5 : (numB (List.take 5 (List.drop 5 (List.drop 2 (List.drop 2 (List.drop 1 (List.drop 1 l))))))) = g5) (h : remittanceOk l = true) (hb : Below w.heap.size w w') : TookRemittance l w (.returned (.tuple #[.agg #[.int .i64 g0, .int .i64 g1, .int .i64 g2, .int .i64 g3, .int .i64 g4, .int .i64 g5], .bool true])) w' := by
  subst e0 e1 e2 e3 e4 e5
  refine ⟨?_, hb⟩
  simp [h, remittanceI0, remittanceI1, remittanceI2, remittanceI3, remittanceI4, remittanceI5]
set_option maxRecDepth 100000 in
set_option maxHeartbeats 4000000 in
theorem takeRemittance_any (v : Value) (l : List UInt8) (w : World) (hsl : Sl w.heap.size w v l) : Calls Try.prog 32 #[v] w (TookRemittance l w) := by
  obtain ⟨a, c, hv, hc, hx⟩ := id hsl
  subst hv
  clear hx
  by_cases hlen : l.length = 16
  · have hst0 := DSt.start (T := 52) (zs := #[.int .i64 0, .int .i64 0, .int .i64 0, .int .i64 0, .int .i64 0, .int .i64 0]) hsl (by omega)
    rw [hlen] at hst0 hc ⊢
    have HLEN := Lib.hid hlen
    clear hlen
    clear hsl
    go_enter Try.func32, Try.ntmps32
    go_wp2_with fail
    refine (hst0.next 1 _ rfl (by decide) (by decide) (by have := HLEN.out; omega)).mono ?_
    rintro e u0 ⟨g0, l1, HG0, hl1, rfl, hst1, hgr⟩
    clear hst0 hgr
    go_wp2_with fail
    refine (hst1.next 1 _ rfl (by decide) (by decide) (by have := HLEN.out; omega)).mono ?_
    rintro e u1 ⟨g1, l2, HG1, hl2, rfl, hst2, hgr⟩
    clear hst1 hgr
    go_wp2_with fail
    refine (hst2.next 2 _ rfl (by decide) (by decide) (by have := HLEN.out; omega)).mono ?_
    rintro e u2 ⟨g2, l3, HG2, hl3, rfl, hst3, hgr⟩
    clear hst2 hgr
    go_wp2_with fail
    refine (hst3.next 2 _ rfl (by decide) (by decide) (by have := HLEN.out; omega)).mono ?_
    rintro e u3 ⟨g3, l4, HG3, hl4, rfl, hst4, hgr⟩
    clear hst3 hgr
    go_wp2_with fail
    refine (hst4.next 5 _ rfl (by decide) (by decide) (by have := HLEN.out; omega)).mono ?_
    rintro e u4 ⟨g4, l5, HG4, hl5, rfl, hst5, hgr⟩
    clear hst4 hgr
    go_wp2_with fail
    refine (hst5.next 5 _ rfl (by decide) (by decide) (by have := HLEN.out; omega)).mono ?_
    rintro e u5 ⟨g5, l6, HG5, hl6, rfl, hst6, hgr⟩
    clear hst5 hgr
    have e0 : (numB (List.take 1 l)) = g0 := by rw [HG0.out.1]
    have e1 : (numB (List.take 1 (List.drop 1 l))) = g1 := by rw [HG1.out.1, HG0.out.2]
    have e2 : (numB (List.take 2 (List.drop 1 (List.drop 1 l)))) = g2 := by rw [HG2.out.1, HG1.out.2, HG0.out.2]
    have e3 : (numB (List.take 2 (List.drop 2 (List.drop 1 (List.drop 1 l))))) = g3 := by rw [HG3.out.1, HG2.out.2, HG1.out.2, HG0.out.2]
    have e4 : (numB (List.take 5 (List.drop 2 (List.drop 2 (List.drop 1 (List.drop 1 l)))))) = g4 := by rw [HG4.out.1, HG3.out.2, HG2.out.2, HG1.out.2, HG0.out.2]
    have e5 : (numB (List.take 5 (List.drop 5 (List.drop 2 (List.drop 2 (List.drop 1 (List.drop 1 l))))))) = g5 := by rw [HG5.out.1, HG4.out.2, HG3.out.2, HG2.out.2, HG1.out.2, HG0.out.2]
    have HOK : Hid (remittanceOk l = remittanceB g0 g1 g2 g3 g4 g5) := by
      unfold Hid remittanceOk
      rw [e0, e1, e2, e3, e4, e5, HLEN.out]
      rfl
    go_wp2_with fail
    have hn : w.heap.size + 1 < u5.heap.size := by obtain ⟨⟨_, hb, _⟩, _⟩ := hst6.r; exact hb.lt
    have hz := hst6.z.alloc (.cells #[.int .i64 g0, .int .i64 g1, .int .i64 g2, .int .i64 g3, .int .i64 g4, .int .i64 g5] 52)
    have hbel := hst6.bel.alloc (by omega) (.cells #[.int .i64 g0, .int .i64 g1, .int .i64 g2, .int .i64 g3, .int .i64 g4, .int .i64 g5] 52)
    have hnew := BlkIs.new u5 52 #[.int .i64 g0, .int .i64 g1, .int .i64 g2, .int .i64 g3, .int .i64 g4, .int .i64 g5]
    clear hst6
    refine (vremittance_any g0 g1 g2 g3 g4 g5 _).mono ?_
    rintro e wv ⟨rfl, hbv⟩
    replace hz := hz.below hbv hz.lt
    replace hnew := hnew.below hbv hnew.lt
    replace hbel := bnext hbel hbv
    clear hbv
    have hcz := hz.cell
    have hfz := hz.frozen
    have hcn := hnew.cell
    rw [← HOK.out]
    rcases hok : remittanceOk l with _ | _
    · go_wp2
      refine bodyPost_ret (v := .tuple #[.agg #[.int .i64 0, .int .i64 0, .int .i64 0, .int .i64 0, .int .i64 0, .int .i64 0], .bool false]) (results_cell2 Try.results32 _ _ w.heap.size 52 _ (0, 0) _ _ rfl rfl (remittance_put rfl hz 0 0 0 0 0 0) Try.underlying52 rfl info_remittance) rfl ?_
      exact tookRemittance_no hok (remittance_far hbel (Nat.le_refl _) 0 0 0 0 0 0)
    · go_wp2
      refine bodyPost_ret (v := .tuple #[.agg #[.int .i64 g0, .int .i64 g1, .int .i64 g2, .int .i64 g3, .int .i64 g4, .int .i64 g5], .bool true]) (results_cell2 Try.results32 _ _ w.heap.size 52 _ (0, 0) _ _ rfl rfl (remittance_put rfl hz g0 g1 g2 g3 g4 g5) Try.underlying52 rfl info_remittance) rfl ?_
      exact tookRemittance_yes e0 e1 e2 e3 e4 e5 hok (remittance_far hbel (Nat.le_refl _) g0 g1 g2 g3 g4 g5)
  · have hok : remittanceOk l = false := by simp [remittanceOk, hlen]
    have hne : ¬ (l.length : Int) = 16 := by omega
    have hz : BlkIs (w.alloc (.cells #[.int .i64 0, .int .i64 0, .int .i64 0, .int .i64 0, .int .i64 0, .int .i64 0] 52)) w.heap.size 52 #[.int .i64 0, .int .i64 0, .int .i64 0, .int .i64 0, .int .i64 0, .int .i64 0] := BlkIs.new _ _ _
    go_enter Try.func32, Try.ntmps32
    go_wp2
    refine bodyPost_ret (v := .tuple #[.agg #[.int .i64 0, .int .i64 0, .int .i64 0, .int .i64 0, .int .i64 0, .int .i64 0], .bool false]) (results_cell2 Try.results32 _ _ w.heap.size 52 _ (0, 0) _ _ rfl rfl hz Try.underlying52 rfl info_remittance) rfl ?_
    exact tookRemittance_no hok ((Below.refl _ _).alloc (Nat.le_refl _) _)
/-- Whether bytes are a notice, and its numbers. -/
def noticeOk (l : List UInt8) : Bool := decide (l.length = 14) && noticeB (numB (List.take 1 l)) (numB (List.take 2 (List.drop 1 l))) (numB (List.take 5 (List.drop 2 (List.drop 1 l)))) (numB (List.take 6 (List.drop 5 (List.drop 2 (List.drop 1 l)))) - 1000000000000)
def noticeI0 (l : List UInt8) : Int := if noticeOk l then (numB (List.take 1 l)) else 0
def noticeI1 (l : List UInt8) : Int := if noticeOk l then (numB (List.take 2 (List.drop 1 l))) else 0
def noticeI2 (l : List UInt8) : Int := if noticeOk l then (numB (List.take 5 (List.drop 2 (List.drop 1 l)))) else 0
def noticeI3 (l : List UInt8) : Int := if noticeOk l then (numB (List.take 6 (List.drop 5 (List.drop 2 (List.drop 1 l)))) - 1000000000000) else 0
def TookNotice (l : List UInt8) (w : World) (e : Ending) (w' : World) : Prop := e = .returned (.tuple #[.agg #[.int .i64 (noticeI0 l), .int .i64 (noticeI1 l), .int .i64 (noticeI2 l), .int .i64 (noticeI3 l)], .bool (noticeOk l)]) ∧ Below w.heap.size w w'
theorem notice_put {wr : World} {g : Nat} {t : TypeId} {z : Array Value} (hz : z.size = 4) (h : BlkIs wr g t z) (g0 g1 g2 g3 : Int) : BlkIs ((((wr.setCell ⟨g, 0, none⟩ (.int .i64 g0)).setCell ⟨g, 1, none⟩ (.int .i64 g1)).setCell ⟨g, 2, none⟩ (.int .i64 g2)).setCell ⟨g, 3, none⟩ (.int .i64 g3)) g t #[.int .i64 g0, .int .i64 g1, .int .i64 g2, .int .i64 g3] := by
  have e : ((((z.setIfInBounds 0 (.int .i64 g0)).setIfInBounds 1 (.int .i64 g1)).setIfInBounds 2 (.int .i64 g2)).setIfInBounds 3 (.int .i64 g3)) = #[.int .i64 g0, .int .i64 g1, .int .i64 g2, .int .i64 g3] := by
    obtain ⟨z⟩ := z
    match z, hz with
    | [_, _, _, _], _ => rfl
  rw [← e]
  exact ((((h.put 0 (.int .i64 g0)).put 1 (.int .i64 g1)).put 2 (.int .i64 g2)).put 3 (.int .i64 g3))
theorem notice_far {B : Nat} {w wr : World} {g : Nat} (h : Below B w wr) (hg : B ≤ g) (g0 g1 g2 g3 : Int) : Below B w ((((wr.setCell ⟨g, 0, none⟩ (.int .i64 g0)).setCell ⟨g, 1, none⟩ (.int .i64 g1)).setCell ⟨g, 2, none⟩ (.int .i64 g2)).setCell ⟨g, 3, none⟩ (.int .i64 g3)) :=
  ((((h.setCell (p := ⟨g, 0, none⟩) hg (.int .i64 g0)).setCell (p := ⟨g, 1, none⟩) hg (.int .i64 g1)).setCell (p := ⟨g, 2, none⟩) hg (.int .i64 g2)).setCell (p := ⟨g, 3, none⟩) hg (.int .i64 g3))
theorem info_notice : (Try.prog.info? 56).map (·.size) = some 4 := by kernel_rfl
theorem tookNotice_no {l : List UInt8} {w w' : World} (h : noticeOk l = false) (hb : Below w.heap.size w w') : TookNotice l w (.returned (.tuple #[.agg #[.int .i64 0, .int .i64 0, .int .i64 0, .int .i64 0], .bool false])) w' := by
  refine ⟨?_, hb⟩
  simp [h, noticeI0, noticeI1, noticeI2, noticeI3]
theorem tookNotice_yes {l : List UInt8} {w w' : World} {g0 g1 g2 g3 : Int} (e0 : (numB (List.take 1 l)) = g0) (e1 : (numB (List.take 2 (List.drop 1 l))) = g1) (e2 : (numB (List.take 5 (List.drop 2 (List.drop 1 l)))) = g2) (e3 : (numB (List.take 6 (List.drop 5 (List.drop 2 (List.drop 1 l)))) - 1000000000000) = g3) (h : noticeOk l = true) (hb : Below w.heap.size w w') : TookNotice l w (.returned (.tuple #[.agg #[.int .i64 g0, .int .i64 g1, .int .i64 g2, .int .i64 g3], .bool true])) w' := by
  subst e0 e1 e2 e3
  refine ⟨?_, hb⟩
  simp [h, noticeI0, noticeI1, noticeI2, noticeI3]
set_option maxRecDepth 100000 in
set_option maxHeartbeats 4000000 in
theorem takeNotice_any (v : Value) (l : List UInt8) (w : World) (hsl : Sl w.heap.size w v l) : Calls Try.prog 34 #[v] w (TookNotice l w) := by
  obtain ⟨a, c, hv, hc, hx⟩ := id hsl
  subst hv
  clear hx
  by_cases hlen : l.length = 14
  · have hst0 := DSt.start (T := 56) (zs := #[.int .i64 0, .int .i64 0, .int .i64 0, .int .i64 0]) hsl (by omega)
    rw [hlen] at hst0 hc ⊢
    have HLEN := Lib.hid hlen
    clear hlen
    clear hsl
    go_enter Try.func34, Try.ntmps34
    go_wp2_with fail
    refine (hst0.next 1 _ rfl (by decide) (by decide) (by have := HLEN.out; omega)).mono ?_
    rintro e u0 ⟨g0, l1, HG0, hl1, rfl, hst1, hgr⟩
    clear hst0 hgr
    go_wp2_with fail
    refine (hst1.next 2 _ rfl (by decide) (by decide) (by have := HLEN.out; omega)).mono ?_
    rintro e u1 ⟨g1, l2, HG1, hl2, rfl, hst2, hgr⟩
    clear hst1 hgr
    go_wp2_with fail
    refine (hst2.next 5 _ rfl (by decide) (by decide) (by have := HLEN.out; omega)).mono ?_
    rintro e u2 ⟨g2, l3, HG2, hl3, rfl, hst3, hgr⟩
    clear hst2 hgr
    have hn : w.heap.size + 1 < u2.heap.size := by obtain ⟨⟨_, hb, _⟩, _⟩ := hst3.r; exact hb.lt
    replace hst3 := hst3.alloc (.cells #[.int .i64 g0, .int .i64 g1, .int .i64 g2, .int .i64 0] 56)
    have hnew := BlkIs.new u2 56 #[.int .i64 g0, .int .i64 g1, .int .i64 g2, .int .i64 0]
    go_wp2_with fail
    refine (hst3.next 6 _ rfl (by decide) (by decide) (by have := HLEN.out; omega)).mono ?_
    rintro e u3 ⟨g3, l4, HG3, hl4, rfl, hst4, hgr⟩
    clear hst3
    replace hnew := hnew.grown hgr (by simp; omega)
    clear hgr
    have e0 : (numB (List.take 1 l)) = g0 := by rw [HG0.out.1]
    have e1 : (numB (List.take 2 (List.drop 1 l))) = g1 := by rw [HG1.out.1, HG0.out.2]
    have e2 : (numB (List.take 5 (List.drop 2 (List.drop 1 l)))) = g2 := by rw [HG2.out.1, HG1.out.2, HG0.out.2]
    have e3 : (numB (List.take 6 (List.drop 5 (List.drop 2 (List.drop 1 l)))) - 1000000000000) = (g3 - 1000000000000) := by rw [HG3.out.1, HG2.out.2, HG1.out.2, HG0.out.2]
    have hb3 : 0 ≤ g3 ∧ g3 < 281474976710656 := by rw [HG3.out.1]; exact numB_lt _ 6 (by decide)
    have HOK : Hid (noticeOk l = noticeB g0 g1 g2 (g3 - 1000000000000)) := by
      unfold Hid noticeOk
      rw [e0, e1, e2, e3, HLEN.out]
      rfl
    have hcn := hnew.cell
    have hfn := hnew.frozen
    have hz := hst4.z.far (p := ⟨u2.heap.size, 3, none⟩) (by simp; omega) (.int .i64 (g3 - 1000000000000))
    have hbel := hst4.bel.setCell (p := ⟨u2.heap.size, 3, none⟩) (by simp; omega) (.int .i64 (g3 - 1000000000000))
    clear hst4
    go_wp2_with fail
    replace hnew := hnew.put 3 (.int .i64 (g3 - 1000000000000))
    replace hnew : BlkIs _ u2.heap.size 56 #[.int .i64 g0, .int .i64 g1, .int .i64 g2, .int .i64 (g3 - 1000000000000)] := hnew
    clear hcn hfn
    refine (vnotice_any g0 g1 g2 (g3 - 1000000000000) _).mono ?_
    rintro e wv ⟨rfl, hbv⟩
    replace hz := hz.below hbv hz.lt
    replace hnew := hnew.below hbv hnew.lt
    replace hbel := bnext hbel hbv
    clear hbv
    have hcz := hz.cell
    have hfz := hz.frozen
    have hcn := hnew.cell
    rw [← HOK.out]
    rcases hok : noticeOk l with _ | _
    · go_wp2
      refine bodyPost_ret (v := .tuple #[.agg #[.int .i64 0, .int .i64 0, .int .i64 0, .int .i64 0], .bool false]) (results_cell2 Try.results34 _ _ w.heap.size 56 _ (0, 0) _ _ rfl rfl (notice_put rfl hz 0 0 0 0) Try.underlying56 rfl info_notice) rfl ?_
      exact tookNotice_no hok (notice_far hbel (Nat.le_refl _) 0 0 0 0)
    · go_wp2
      refine bodyPost_ret (v := .tuple #[.agg #[.int .i64 g0, .int .i64 g1, .int .i64 g2, .int .i64 (g3 - 1000000000000)], .bool true]) (results_cell2 Try.results34 _ _ w.heap.size 56 _ (0, 0) _ _ rfl rfl (notice_put rfl hz g0 g1 g2 (g3 - 1000000000000)) Try.underlying56 rfl info_notice) rfl ?_
      exact tookNotice_yes e0 e1 e2 e3 hok (notice_far hbel (Nat.le_refl _) g0 g1 g2 (g3 - 1000000000000))
  · have hok : noticeOk l = false := by simp [noticeOk, hlen]
    have hne : ¬ (l.length : Int) = 14 := by omega
    have hz : BlkIs (w.alloc (.cells #[.int .i64 0, .int .i64 0, .int .i64 0, .int .i64 0] 56)) w.heap.size 56 #[.int .i64 0, .int .i64 0, .int .i64 0, .int .i64 0] := BlkIs.new _ _ _
    go_enter Try.func34, Try.ntmps34
    go_wp2
    refine bodyPost_ret (v := .tuple #[.agg #[.int .i64 0, .int .i64 0, .int .i64 0, .int .i64 0], .bool false]) (results_cell2 Try.results34 _ _ w.heap.size 56 _ (0, 0) _ _ rfl rfl hz Try.underlying56 rfl info_notice) rfl ?_
    exact tookNotice_no hok ((Below.refl _ _).alloc (Nat.le_refl _) _)
end Go.Proofs.Ytkkjiihdmpngbaa
