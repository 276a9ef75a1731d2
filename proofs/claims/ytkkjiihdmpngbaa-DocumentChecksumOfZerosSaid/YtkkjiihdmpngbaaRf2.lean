/-
  The contract of the reference's Read.
-/
import Derived.Test.YtkkjiihdmpngbaaRf1
import Derived.Test.YtkkjiihdmpngbaaRd2
import Derived.Test.YtkkjiihdmpngbaaRel
import Derived.Test.YtkkjiihdmpngbaaFrb
namespace Go.Proofs.Ytkkjiihdmpngbaa
open Go.RowKit

theorem alloc_fact (w : World) : (Instr.alloc 76 true (.tuple #[])).run Try.prog w = .ok (ptrTo w.heap.size) (w.alloc (.cells #[.int .i64 0, .int .i64 0, .int .i64 0, .bool false, .int .i64 0, .int .i64 0, .int .i64 0, .int .i64 0, .int .i64 0, .int .i64 0, .int .i64 0, .int .i64 0, .int .i64 0, .int .i64 0] 76)) := by
  go_simp
  rfl
theorem al_fact1 (i d : Nat) : ∀ x ∈ [(⟨i, d, 76, #[.int .i64 0, .int .i64 0, .int .i64 0, .bool false, .int .i64 0, .int .i64 0, .int .i64 0, .int .i64 0, .int .i64 0, .int .i64 0, .int .i64 0, .int .i64 0, .int .i64 0, .int .i64 0]⟩ : Al)], ∀ w, (Instr.alloc x.t true (.tuple #[])).run Try.prog w = .ok (ptrTo w.heap.size) (w.alloc (.cells x.z x.t)) := by
  intro x hx w
  simp only [List.mem_cons, List.not_mem_nil, or_false] at hx
  subst hx
  exact alloc_fact w
theorem w64_u8 (b : UInt8) : wrap64 (b.toNat : Int) = (b.toNat : Int) := by
  have := b.toNat_lt
  unfold wrap64
  omega
theorem Sl.sub {B : Nat} {w : World} {b o c n k : Nat} {l : List UInt8} (h : Sl B w (.slice (some ⟨b, o, none⟩) l.length c) l) (hn : n + k ≤ l.length) : Sl B w (.slice (some ⟨b, o + n, none⟩) k (c - n)) ((l.drop n).take k) := by
  obtain ⟨a, c', he, hc, h⟩ := h
  injection he with h1 h2 h3
  subst h1 h3
  have hlen : ((l.drop n).take k).length = k := by simp; omega
  refine ⟨_, _, by rw [hlen], by rw [hlen]; omega, fun hl => ?_⟩
  rw [hlen] at hl
  obtain ⟨b', o', ha, hb, hcell⟩ := h (by omega)
  injection ha with ha
  injection ha with ha1 ha2
  subst ha1 ha2
  refine ⟨_, _, rfl, hb, fun j u hu => ?_⟩
  have hj : j < k := by have := (List.getElem?_eq_some_iff.1 hu).1; omega
  rw [List.getElem?_take_of_lt hj, List.getElem?_drop] at hu
  rw [Nat.add_assoc]
  exact hcell _ u hu

/-- Where the reference's Read stands. -/
structure RrSt (w : World) (g : Nat) (f : Fct) (wr : World) : Prop where
  z : BlkIs wr w.heap.size 76 (fcells zeroFct)
  f : BlkIs wr g 76 (fcells f)
  bel : Below w.heap.size w wr
  hg : w.heap.size < g

theorem below_put14 {B : Nat} {w wr : World} {g : Nat} (h : Below B w wr) (hg : B ≤ g) (g0 g1 g2 : Int) (g3 : Bool) (g4 g5 g6 g7 g8 g9 g10 g11 g12 g13 : Int) :
    Below B w (((((((((((((((wr.setCell ⟨g, 0, none⟩ (.int .i64 g0)).setCell ⟨g, 1, none⟩ (.int .i64 g1)).setCell ⟨g, 2, none⟩ (.int .i64 g2)).setCell ⟨g, 3, none⟩ (.bool g3)).setCell ⟨g, 4, none⟩ (.int .i64 g4)).setCell ⟨g, 5, none⟩ (.int .i64 g5)).setCell ⟨g, 6, none⟩ (.int .i64 g6)).setCell ⟨g, 7, none⟩ (.int .i64 g7)).setCell ⟨g, 8, none⟩ (.int .i64 g8)).setCell ⟨g, 9, none⟩ (.int .i64 g9)).setCell ⟨g, 10, none⟩ (.int .i64 g10)).setCell ⟨g, 11, none⟩ (.int .i64 g11)).setCell ⟨g, 12, none⟩ (.int .i64 g12)).setCell ⟨g, 13, none⟩ (.int .i64 g13))) :=
  ((((((((((((((h.setCell hg _).setCell hg _).setCell hg _).setCell hg _).setCell hg _).setCell hg _).setCell hg _).setCell hg _).setCell hg _).setCell hg _).setCell hg _).setCell hg _).setCell hg _).setCell hg _)
theorem far_put14 {wr : World} {g b : Nat} {t : TypeId} {cs : Array Value} (h : BlkIs wr b t cs) (hg : b ≠ g) (g0 g1 g2 : Int) (g3 : Bool) (g4 g5 g6 g7 g8 g9 g10 g11 g12 g13 : Int) :
    BlkIs (((((((((((((((wr.setCell ⟨g, 0, none⟩ (.int .i64 g0)).setCell ⟨g, 1, none⟩ (.int .i64 g1)).setCell ⟨g, 2, none⟩ (.int .i64 g2)).setCell ⟨g, 3, none⟩ (.bool g3)).setCell ⟨g, 4, none⟩ (.int .i64 g4)).setCell ⟨g, 5, none⟩ (.int .i64 g5)).setCell ⟨g, 6, none⟩ (.int .i64 g6)).setCell ⟨g, 7, none⟩ (.int .i64 g7)).setCell ⟨g, 8, none⟩ (.int .i64 g8)).setCell ⟨g, 9, none⟩ (.int .i64 g9)).setCell ⟨g, 10, none⟩ (.int .i64 g10)).setCell ⟨g, 11, none⟩ (.int .i64 g11)).setCell ⟨g, 12, none⟩ (.int .i64 g12)).setCell ⟨g, 13, none⟩ (.int .i64 g13))) b t cs :=
  ((((((((((((((h.far hg _).far hg _).far hg _).far hg _).far hg _).far hg _).far hg _).far hg _).far hg _).far hg _).far hg _).far hg _).far hg _).far hg _)
theorem rr_start {w wr : World} {g : Nat} {f : Fct} (h : RrSt w g f wr) (g0 g1 g2 : Int) (g3 : Bool) (g4 g5 g6 g7 g8 g9 g10 g11 g12 g13 : Int) : RrSt w g ⟨g0, g1, g2, g3, g4, g5, g6, g7, g8, g9, g10, g11, g12, g13⟩ (((((((((((((((wr.setCell ⟨g, 0, none⟩ (.int .i64 g0)).setCell ⟨g, 1, none⟩ (.int .i64 g1)).setCell ⟨g, 2, none⟩ (.int .i64 g2)).setCell ⟨g, 3, none⟩ (.bool g3)).setCell ⟨g, 4, none⟩ (.int .i64 g4)).setCell ⟨g, 5, none⟩ (.int .i64 g5)).setCell ⟨g, 6, none⟩ (.int .i64 g6)).setCell ⟨g, 7, none⟩ (.int .i64 g7)).setCell ⟨g, 8, none⟩ (.int .i64 g8)).setCell ⟨g, 9, none⟩ (.int .i64 g9)).setCell ⟨g, 10, none⟩ (.int .i64 g10)).setCell ⟨g, 11, none⟩ (.int .i64 g11)).setCell ⟨g, 12, none⟩ (.int .i64 g12)).setCell ⟨g, 13, none⟩ (.int .i64 g13))) :=
  ⟨far_put14 h.z (Nat.ne_of_lt h.hg) _ _ _ _ _ _ _ _ _ _ _ _ _ _, f_put14 h.f _ _ _ _ _ _ _ _ _ _ _ _ _ _, below_put14 h.bel (Nat.le_of_lt h.hg) _ _ _ _ _ _ _ _ _ _ _ _ _ _, h.hg⟩
theorem RrSt.put {w wr : World} {g : Nat} {f f' : Fct} (h : RrSt w g f wr) (i : Nat) (u : Value) (hf : (fcells f).setIfInBounds i u = fcells f') : RrSt w g f' (wr.setCell ⟨g, i, none⟩ u) :=
  ⟨h.z.far (Nat.ne_of_lt h.hg) u, by rw [← hf]; exact h.f.put i u, h.bel.setCell (Nat.le_of_lt h.hg) u, h.hg⟩
theorem RrSt.next {w wr w' : World} {g : Nat} {f : Fct} (h : RrSt w g f wr) (hb : Below wr.heap.size wr w') : RrSt w g f w' :=
  ⟨h.z.below hb h.z.lt, h.f.below hb h.f.lt, bnext h.bel hb, h.hg⟩
theorem RrSt.drew {w wr : World} {g : Nat} {f : Fct} (h : RrSt w g f wr) : RrSt w g f wr.drew := ⟨h.z.drew, h.f.drew, h.bel.drew, h.hg⟩

theorem short_true {k : Nat} {l : List UInt8} (h : l.length < k) (sh : Bool) : tkShort k l sh = true := by simp [tkShort, h]
theorem letterP_short {f : Fct} {l : List UInt8} (h : l.length < 6) : (rdLetter ⟨f, l, false⟩ 80).sh = true := by
  have e : (rdLetter ⟨f, l, false⟩ 80).sh = tkShort 3 (tkRest 3 l) (tkShort 3 l false) := by simp [rdLetter]
  rw [e]
  by_cases h3 : l.length < 3
  · rw [short_true h3]; simp [tkShort]
  · obtain ⟨_, e2, e3⟩ := tk_long 3 l (by omega)
    rw [e2, e3]
    exact short_true (by simp; omega) _
theorem letterP_fit {f : Fct} {l : List UInt8} {n : Nat} (h : n + 6 ≤ l.length) : rdLetter ⟨f, l.drop n, false⟩ 80 = ⟨{ f with fr := numB ((l.drop n).take 3), til := numB ((l.drop (n + 3)).take 3) }, l.drop (n + 6), false⟩ := by
  obtain ⟨e1, e2, e3⟩ := tk_long 3 (l.drop n) (by simp; omega)
  obtain ⟨d1, d2, d3⟩ := tk_long 3 (l.drop (n + 3)) (by simp; omega)
  simp [rdLetter, e1, e2, e3, List.drop_drop, d1, d2, d3]
theorem cut_at (u : List UInt8) (n : Nat) (h : n < u.length) : u = u.take n ++ u[n] :: u.drop (n + 1) := by
  rw [← List.drop_eq_getElem_cons h, List.take_append_drop]
theorem rd_good2 {l : List UInt8} {f : Fct} {n : Nat} {w w' : World} (ha : rdAll l = ⟨f, l.drop n, false⟩) (hn : n ≤ l.length) (h : rdOk l = true) (hb : Below w.heap.size w w') :
    ReadPost l w (.returned (.tuple #[.agg (fcells f), .int .i64 (n : Int), .bool true])) w' := by
  refine ⟨?_, hb⟩
  have e : (l.length : Int) - ((l.drop n).length : Int) = (n : Int) := by rw [List.length_drop]; omega
  simp only [rdFact, rdLen, h, ha, if_true, e]


set_option maxRecDepth 100000 in
set_option maxHeartbeats 16000000 in
theorem rread_any (v : Value) (l : List UInt8) (w : World) (hsl : Sl w.heap.size w v l) (hl : l.length ≤ 4611686018427387904) :
    Calls Try.prog 76 #[v] w (ReadPost l w) := by
  obtain ⟨a, c, hv, hc, hx⟩ := id hsl
  subst hv
  by_cases h7 : (l.length : Int) < 7
  · have HOK := Lib.hid (rdOk_len (l := l) (by omega))
    have hz : BlkIs (w.alloc (.cells #[.int .i64 0, .int .i64 0, .int .i64 0, .bool false, .int .i64 0, .int .i64 0, .int .i64 0, .int .i64 0, .int .i64 0, .int .i64 0, .int .i64 0, .int .i64 0, .int .i64 0, .int .i64 0] 76)) w.heap.size 76 (fcells zeroFct) := BlkIs.new _ _ _
    clear hx hsl
    go_enter Try.func76, Try.ntmps76
    go_wp2
    refine bodyPost_ret (v := .tuple #[.agg (fcells ⟨0, 0, 0, false, 0, 0, 0, 0, 0, 0, 0, 0, 0, 0⟩), .int .i64 0, .bool false]) (results_cell3 Try.results76 _ _ w.heap.size 76 _ (0, 0) _ _ _ rfl rfl rfl hz Try.underlying76 rfl info_fact) rfl ?_
    exact rd_zero HOK.out ((Below.refl _ _).alloc (Nat.le_refl _) _)
  obtain ⟨b, o, rfl, hb, hcell⟩ := hx (by omega)
  clear hx
  obtain ⟨b0, b1, b2, b3, b4, b5, b6, t, hlt⟩ := seven (l := l) (by omega)
  have HH : Hid (rdKind l = (b6.toNat : Int) ∧ rdGone l = (b4.toNat : Int) ∧ rdHead l = ⟨⟨(b0.toNat : Int), numB [b1, b2], (b3.toNat : Int), (b4.toNat : Int) == 1, (b5.toNat : Int), (b6.toNat : Int), 0, 0, 0, 0, 0, 0, 0, 0⟩, l.drop 7, false⟩) := by
    unfold Hid
    rw [hlt]
    exact rdHead_seven b0 b1 b2 b3 b4 b5 b6 t
  have hs12 := hsl.sub (n := 1) (k := 2) (by omega)
  have e12 : (l.drop 1).take 2 = [b1, b2] := by rw [hlt]; rfl
  rw [e12] at hs12
  have c0 := hcell 0 b0 (by rw [hlt]; rfl)
  have c3 := hcell 3 b3 (by rw [hlt]; rfl)
  have c4 := hcell 4 b4 (by rw [hlt]; rfl)
  have c5 := hcell 5 b5 (by rw [hlt]; rfl)
  have c6 := hcell 6 b6 (by rw [hlt]; rfl)
  rw [Nat.add_zero] at c0
  clear hcell hlt e12
  go_enter Try.func76, Try.ntmps76
  go_wp2_with fail
  refine wp_region_rely [⟨24, 5, 76, #[.int .i64 0, .int .i64 0, .int .i64 0, .bool false, .int .i64 0, .int .i64 0, .int .i64 0, .int .i64 0, .int .i64 0, .int .i64 0, .int .i64 0, .int .i64 0, .int .i64 0, .int .i64 0]⟩] [6, 25] [0, 1, 2, 3, 4, 5, 7, 8, 9, 10, 11, 12, 13, 14, 15, 16, 17, 18, 19, 20, 21, 22, 6, 23] [25] #[true, true, true, true, true, true, true, true, true, true, true, true, true, true, true, true, true, true, true, true, true, true, true, true, true, false] (by kernel_rfl) (by kernel_rfl) rfl (by decide) (by decide) (by kernel_rfl) (by kernel_rfl) (by kernel_rfl) (by kernel_rfl) (by decide) (by kernel_rfl) (al_fact1 24 5) (fun _ _ _ _ _ h => h) (fun _ _ _ _ _ h => h) ?_
  simp only [marked, List.getElem?_cons_zero, List.getElem?_cons_succ, List.contains_cons, List.contains_nil, Nat.reduceBEq, Bool.or_false, Bool.or_true, BEq.rfl]
  obtain ⟨W, hW⟩ : ∃ W, W = (w.alloc (.cells #[.int .i64 0, .int .i64 0, .int .i64 0, .bool false, .int .i64 0, .int .i64 0, .int .i64 0, .int .i64 0, .int .i64 0, .int .i64 0, .int .i64 0, .int .i64 0, .int .i64 0, .int .i64 0] 76)).drew := ⟨_, rfl⟩
  have hz : BlkIs W w.heap.size 76 (fcells zeroFct) := by rw [hW]; exact BlkIs.new _ _ _
  have hbel : Below w.heap.size w W := by rw [hW]; exact ((Below.refl _ _).alloc (Nat.le_refl _) _).drew
  rw [← hW]
  clear hW
  replace c0 := (hbel.cell (p := ⟨b, o, none⟩) hb).trans c0
  replace c3 := (hbel.cell (p := ⟨b, o + 3, none⟩) hb).trans c3
  replace c4 := (hbel.cell (p := ⟨b, o + 4, none⟩) hb).trans c4
  replace c5 := (hbel.cell (p := ⟨b, o + 5, none⟩) hb).trans c5
  replace c6 := (hbel.cell (p := ⟨b, o + 6, none⟩) hb).trans c6
  have hbW : b < W.heap.size := Nat.lt_of_lt_of_le hb hbel.size
  have q0 : wrap64 (b0.toNat : Int) = (b0.toNat : Int) := w64_u8 b0
  have q3 : wrap64 (b3.toNat : Int) = (b3.toNat : Int) := w64_u8 b3
  have q5 : wrap64 (b5.toNat : Int) = (b5.toNat : Int) := w64_u8 b5
  have q6 : wrap64 (b6.toNat : Int) = (b6.toNat : Int) := w64_u8 b6
  repeat (refine rl_quiet ?_; go_big_quiet_step (fail); refine wpQuiet_nil ?_)
  clear q0 q3 q5 q6
  refine rl_loud rfl ?_
  intro W1 hW1 K hK
  replace hz := hz.below hW1 hz.lt
  replace hbel := bnext hbel hW1
  clear hW1 c0 c3 c4 c5 c6 hbW
  go_simp
  go_at_call 83
  refine (number_any _ _ _ _ (hs12.below hbel) (by simp)).mono ?_
  rintro e w1 ⟨rfl, rfl⟩
  refine hK _ _ (Below.refl _ _) ?_
  clear hK K
  repeat (refine rl_quiet ?_; go_big_quiet_step (fail); refine wpQuiet_nil ?_)
  refine rl_nil ?_
  intro W2 hW2 s hs1 hs2 hM
  replace hz := hz.below hW2 hz.lt
  replace hbel := bnext hbel hW2
  clear hW2
  obtain ⟨g, rfl, hg, hf⟩ := made1 hs1 hs2 hM
  clear hs1 hs2 hM
  simp at hg
  have hst0 : RrSt w g zeroFct W2 := ⟨hz, hf, hbel, by omega⟩
  have hcf : ∀ x, W2.cell? ⟨g, x, none⟩ = (#[.int .i64 0, .int .i64 0, .int .i64 0, .bool false, .int .i64 0, .int .i64 0, .int .i64 0, .int .i64 0, .int .i64 0, .int .i64 0, .int .i64 0, .int .i64 0, .int .i64 0, .int .i64 0] : Array Value)[x]? := hf.cell
  have hff := hf.frozen
  clear hz hf hbel
  simp only [sets, ptrTo]
  refine ml_loud rfl ?_
  intro K hK
  go_simp
  simp only [w64_u8]
  have hst1 := rr_start hst0 (b0.toNat : Int) (numB [b1, b2]) (b3.toNat : Int) ((b4.toNat : Int) == 1) (b5.toNat : Int) (b6.toNat : Int) 0 0 0 0 0 0 0 0
  refine hK _ _ _ (Nat.le_refl _) (below_put14 (Below.refl _ _) (by simp; omega) _ _ _ _ _ _ _ _ _ _ _ _ _ _) ?_
  clear hK K hcf hff hst0
  refine ml_nil ?_
  generalize (((((((((((((((W2.setCell ⟨g, 0, none⟩ (.int .i64 (b0.toNat : Int))).setCell ⟨g, 1, none⟩ (.int .i64 (numB [b1, b2]))).setCell ⟨g, 2, none⟩ (.int .i64 (b3.toNat : Int))).setCell ⟨g, 3, none⟩ (.bool ((b4.toNat : Int) == 1))).setCell ⟨g, 4, none⟩ (.int .i64 (b5.toNat : Int))).setCell ⟨g, 5, none⟩ (.int .i64 (b6.toNat : Int))).setCell ⟨g, 6, none⟩ (.int .i64 0)).setCell ⟨g, 7, none⟩ (.int .i64 0)).setCell ⟨g, 8, none⟩ (.int .i64 0)).setCell ⟨g, 9, none⟩ (.int .i64 0)).setCell ⟨g, 10, none⟩ (.int .i64 0)).setCell ⟨g, 11, none⟩ (.int .i64 0)).setCell ⟨g, 12, none⟩ (.int .i64 0)).setCell ⟨g, 13, none⟩ (.int .i64 0))) = W3 at *
  have hcf := hst1.f.cell
  simp only [fcells] at hcf
  go_wp2_with (go_at_call 71; refine (ruses_any _ _).mono ?_; rintro e w4 ⟨rfl, hb4⟩)
  replace hst1 := hst1.next hb4
  clear hb4 hcf
  obtain ⟨s, hs⟩ : ∃ s, s = usesS (b6.toNat : Int) := ⟨_, rfl⟩
  have HS := Lib.hid hs
  rw [← hs]
  clear hs
  have hssz : s.size ≤ 6 := by rw [HS.out]; exact usesL_le _
  go_loopw [6, 8] (fun t6 t8 wr => ∃ (pos n : Nat) (f : Fct), pos ≤ s.size ∧ n ≤ l.length ∧ t8 = .int .i64 pos ∧ t6 = .int .i64 n ∧ RrSt w g f wr ∧ Hid ((s.data.toList.take pos).foldl rdLetter (rdHead l) = ⟨f, l.drop n, false⟩))
    (fun _ t8 _ => s.size - (intOf t8).toNat)
  case atStart =>
    refine ⟨0, 7, _, Nat.zero_le _, by omega, rfl, rfl, hst1, ?_⟩
    unfold Hid
    rw [List.take_zero, List.foldl_nil]
    exact HH.out.2.2
  case round =>
    obtain ⟨pos, n, ⟨g0, g1, g2, g3, g4, g5, g6, g7, g8, g9, g10, g11, g12, g13⟩, hpos, hn, rfl, rfl, hst, heq⟩ := hrel
    clear hst1
    have hcf : ∀ x, wr.cell? ⟨g, x, none⟩ = (#[.int .i64 g0, .int .i64 g1, .int .i64 g2, .bool g3, .int .i64 g4, .int .i64 g5, .int .i64 g6, .int .i64 g7, .int .i64 g8, .int .i64 g9, .int .i64 g10, .int .i64 g11, .int .i64 g12, .int .i64 g13] : Array Value)[x]? := hst.f.cell
    have hcz : ∀ x, wr.cell? ⟨w.heap.size, x, none⟩ = (#[.int .i64 0, .int .i64 0, .int .i64 0, .bool false, .int .i64 0, .int .i64 0, .int .i64 0, .int .i64 0, .int .i64 0, .int .i64 0, .int .i64 0, .int .i64 0, .int .i64 0, .int .i64 0] : Array Value)[x]? := hst.z.cell
    have hff := hst.f.frozen
    have hfz := hst.z.frozen
    by_cases hlt : pos < s.size
    · have hsl9 : s.data.toList = usesL (rdKind l) := by rw [HS.out, HH.out.1]; rfl
      have hmem : s[pos] ∈ usesL (rdKind l) := by
        have h1 : s[pos] ∈ s.data.toList := List.getElem_mem (l := s.data.toList) (n := pos) (by simpa using hlt)
        rw [hsl9] at h1
        exact h1
      have hc7 := uses_mem _ _ hmem
      clear hmem
      have HT : Hid ((s.data.toList.take (pos + 1)).foldl rdLetter (rdHead l) = rdLetter ((s.data.toList.take pos).foldl rdLetter (rdHead l)) s[pos]) := by
        unfold Hid
        rw [List.take_succ_eq_append_getElem (l := s.data.toList) (i := pos) (by simpa using hlt), List.foldl_append]
        rfl
      have HCUT : Hid ((rdLetter ⟨⟨g0, g1, g2, g3, g4, g5, g6, g7, g8, g9, g10, g11, g12, g13⟩, l.drop n, false⟩ s[pos]).sh = true → rdOk l = false) := by
        intro hsh
        have hu : usesL (rdKind l) = s.data.toList.take pos ++ s[pos] :: s.data.toList.drop (pos + 1) := by rw [← hsl9]; exact cut_at s.data.toList pos (by simpa using hlt)
        refine rdOk_cut hu ?_
        rw [heq.out]
        exact hsh
      clear hsl9
      rcases hc7 with hsj | hsj | hsj | hsj | hsj | hsj | hsj
      ·
        by_cases hfit : (n : Int) + 1 ≤ (l.length : Int)
        · have HSUB := Lib.hid ((hsl.sub (n := n) (k := 1) (by omega)).below hst.bel)
          go_wp2_with fail
          refine (number_any _ _ _ _ HSUB.out (by simp; omega)).mono ?_
          rintro e wy ⟨rfl, rfl⟩
          go_wp2
          go_roundw
          case rel =>
            go_light
            refine ⟨pos + 1, n + 1, { iss := g0, num := g1, ver := g2, gone := g3, per := g4, kind := g5, st := numB ((l.drop n).take 1), fr := g7, til := g8, seat := g9, share := g10, cur := g11, amt := g12, ref := g13 }, by omega, by omega, by go_num, by go_num, hst.put 6 (.int .i64 (numB ((l.drop n).take 1))) rfl, ?_⟩
            unfold Hid
            rw [HT.out, heq.out, hsj]
            obtain ⟨e1, e2, e3⟩ := tk_long 1 (l.drop n) (by simp; omega)
            simp [rdLetter, e1, e2, e3, List.drop_drop]
          case measure => simp [intOf]; omega
        · have hok := HCUT.out (by rw [hsj]; simp [rdLetter, short_true (k := 1) (l := l.drop n) (by simp; omega)])
          go_wp2_with fail
          refine bodyPost_ret (v := .tuple #[.agg (fcells ⟨0, 0, 0, false, 0, 0, 0, 0, 0, 0, 0, 0, 0, 0⟩), .int .i64 0, .bool false]) (results_cell3 Try.results76 _ _ w.heap.size 76 _ (0, 0) _ _ _ rfl rfl rfl (f_put14 hst.z 0 0 0 false 0 0 0 0 0 0 0 0 0 0) Try.underlying76 rfl info_fact) rfl ?_
          exact rd_zero hok (b_put14 hst.bel (Nat.le_refl _) 0 0 0 false 0 0 0 0 0 0 0 0 0 0)
      · by_cases hfit : (n : Int) + 6 ≤ (l.length : Int)
        ·
          go_wp2_with fail
          refine wp_region_ml [2, 5, 8] [0, 1, 3, 4, 2, 5, 6, 7, 8] g (by kernel_rfl) (by kernel_rfl) rfl (by decide) (by kernel_rfl) (fun _ _ _ _ _ h => h) ?_
          simp only [marked, List.getElem?_cons_zero, List.getElem?_cons_succ, List.contains_cons, List.contains_nil, Nat.reduceBEq, Bool.or_false, Bool.or_true, BEq.rfl]
          clear hcf hcz hff hfz
          replace hst := hst.drew
          generalize wr.drew = wr2 at *
          have hcf : ∀ x, wr2.cell? ⟨g, x, none⟩ = (#[.int .i64 g0, .int .i64 g1, .int .i64 g2, .bool g3, .int .i64 g4, .int .i64 g5, .int .i64 g6, .int .i64 g7, .int .i64 g8, .int .i64 g9, .int .i64 g10, .int .i64 g11, .int .i64 g12, .int .i64 g13] : Array Value)[x]? := hst.f.cell
          have hff := hst.f.frozen
          have HSA := Lib.hid ((hsl.sub (n := n) (k := 3) (by omega)).below hst.bel)
          have HSB := (hsl.sub (n := n + 3) (k := 3) (by omega)).below hst.bel
          rw [← Nat.add_assoc, Nat.sub_add_eq] at HSB
          replace HSB := Lib.hid HSB
          repeat (refine ml_quiet ?_; go_big_quiet_step (fail); refine wpQuiet_nil ?_)
          refine ml_loud rfl ?_
          intro K hK
          go_simp
          go_at_call 83
          refine (number_any _ _ _ _ HSA.out (by simp; omega)).mono ?_
          rintro e wy ⟨rfl, rfl⟩
          refine hK _ _ g (Nat.le_refl _) (Below.refl _ _) ?_
          clear hK K
          repeat (refine ml_quiet ?_; go_big_quiet_step (fail); refine wpQuiet_nil ?_)
          refine ml_loud rfl ?_
          intro K hK
          go_simp
          go_at_call 83
          refine (number_any _ _ _ _ HSB.out (by simp; omega)).mono ?_
          rintro e wy ⟨rfl, rfl⟩
          refine hK _ _ g (Nat.le_refl _) (Below.refl _ _) ?_
          clear hK K
          repeat (refine ml_quiet ?_; go_big_quiet_step (fail); refine wpQuiet_nil ?_)
          refine ml_loud rfl ?_
          intro K hK
          go_simp
          refine hK _ _ g (Nat.le_refl _) (((Below.refl g wr2).setCell (p := ⟨g, 7, none⟩) (Nat.le_refl _) _).setCell (p := ⟨g, 8, none⟩) (Nat.le_refl _) _) ?_
          clear hK K
          refine ml_nil ?_
          go_wp2
          go_roundw
          case rel =>
            go_light
            refine ⟨pos + 1, n + 6, { iss := g0, num := g1, ver := g2, gone := g3, per := g4, kind := g5, st := g6, fr := numB ((l.drop n).take 3), til := numB ((l.drop (n + 3)).take 3), seat := g9, share := g10, cur := g11, amt := g12, ref := g13 }, by omega, by omega, by go_num, by go_num, (hst.put (f' := { iss := g0, num := g1, ver := g2, gone := g3, per := g4, kind := g5, st := g6, fr := numB ((l.drop n).take 3), til := g8, seat := g9, share := g10, cur := g11, amt := g12, ref := g13 }) 7 (.int .i64 (numB ((l.drop n).take 3))) rfl).put 8 (.int .i64 (numB ((l.drop (n + 3)).take 3))) rfl, ?_⟩
            unfold Hid
            rw [HT.out, heq.out, hsj]
            exact letterP_fit (by omega)
          case measure => simp [intOf]; omega
        · have hok := HCUT.out (by rw [hsj]; exact letterP_short (by simp; omega))
          go_wp2_with fail
          refine bodyPost_ret (v := .tuple #[.agg (fcells ⟨0, 0, 0, false, 0, 0, 0, 0, 0, 0, 0, 0, 0, 0⟩), .int .i64 0, .bool false]) (results_cell3 Try.results76 _ _ w.heap.size 76 _ (0, 0) _ _ _ rfl rfl rfl (f_put14 hst.z 0 0 0 false 0 0 0 0 0 0 0 0 0 0) Try.underlying76 rfl info_fact) rfl ?_
          exact rd_zero hok (b_put14 hst.bel (Nat.le_refl _) 0 0 0 false 0 0 0 0 0 0 0 0 0 0)
      ·
        by_cases hfit : (n : Int) + 1 ≤ (l.length : Int)
        · have HSUB := Lib.hid ((hsl.sub (n := n) (k := 1) (by omega)).below hst.bel)
          go_wp2_with fail
          refine (number_any _ _ _ _ HSUB.out (by simp; omega)).mono ?_
          rintro e wy ⟨rfl, rfl⟩
          go_wp2
          go_roundw
          case rel =>
            go_light
            refine ⟨pos + 1, n + 1, { iss := g0, num := g1, ver := g2, gone := g3, per := g4, kind := g5, st := g6, fr := g7, til := g8, seat := numB ((l.drop n).take 1), share := g10, cur := g11, amt := g12, ref := g13 }, by omega, by omega, by go_num, by go_num, hst.put 9 (.int .i64 (numB ((l.drop n).take 1))) rfl, ?_⟩
            unfold Hid
            rw [HT.out, heq.out, hsj]
            obtain ⟨e1, e2, e3⟩ := tk_long 1 (l.drop n) (by simp; omega)
            simp [rdLetter, e1, e2, e3, List.drop_drop]
          case measure => simp [intOf]; omega
        · have hok := HCUT.out (by rw [hsj]; simp [rdLetter, short_true (k := 1) (l := l.drop n) (by simp; omega)])
          go_wp2_with fail
          refine bodyPost_ret (v := .tuple #[.agg (fcells ⟨0, 0, 0, false, 0, 0, 0, 0, 0, 0, 0, 0, 0, 0⟩), .int .i64 0, .bool false]) (results_cell3 Try.results76 _ _ w.heap.size 76 _ (0, 0) _ _ _ rfl rfl rfl (f_put14 hst.z 0 0 0 false 0 0 0 0 0 0 0 0 0 0) Try.underlying76 rfl info_fact) rfl ?_
          exact rd_zero hok (b_put14 hst.bel (Nat.le_refl _) 0 0 0 false 0 0 0 0 0 0 0 0 0 0)
      ·
        by_cases hfit : (n : Int) + 1 ≤ (l.length : Int)
        · have HSUB := Lib.hid ((hsl.sub (n := n) (k := 1) (by omega)).below hst.bel)
          go_wp2_with fail
          refine (number_any _ _ _ _ HSUB.out (by simp; omega)).mono ?_
          rintro e wy ⟨rfl, rfl⟩
          go_wp2
          go_roundw
          case rel =>
            go_light
            refine ⟨pos + 1, n + 1, { iss := g0, num := g1, ver := g2, gone := g3, per := g4, kind := g5, st := g6, fr := g7, til := g8, seat := g9, share := numB ((l.drop n).take 1), cur := g11, amt := g12, ref := g13 }, by omega, by omega, by go_num, by go_num, hst.put 10 (.int .i64 (numB ((l.drop n).take 1))) rfl, ?_⟩
            unfold Hid
            rw [HT.out, heq.out, hsj]
            obtain ⟨e1, e2, e3⟩ := tk_long 1 (l.drop n) (by simp; omega)
            simp [rdLetter, e1, e2, e3, List.drop_drop]
          case measure => simp [intOf]; omega
        · have hok := HCUT.out (by rw [hsj]; simp [rdLetter, short_true (k := 1) (l := l.drop n) (by simp; omega)])
          go_wp2_with fail
          refine bodyPost_ret (v := .tuple #[.agg (fcells ⟨0, 0, 0, false, 0, 0, 0, 0, 0, 0, 0, 0, 0, 0⟩), .int .i64 0, .bool false]) (results_cell3 Try.results76 _ _ w.heap.size 76 _ (0, 0) _ _ _ rfl rfl rfl (f_put14 hst.z 0 0 0 false 0 0 0 0 0 0 0 0 0 0) Try.underlying76 rfl info_fact) rfl ?_
          exact rd_zero hok (b_put14 hst.bel (Nat.le_refl _) 0 0 0 false 0 0 0 0 0 0 0 0 0 0)
      ·
        by_cases hfit : (n : Int) + 2 ≤ (l.length : Int)
        · have HSUB := Lib.hid ((hsl.sub (n := n) (k := 2) (by omega)).below hst.bel)
          go_wp2_with fail
          refine (number_any _ _ _ _ HSUB.out (by simp; omega)).mono ?_
          rintro e wy ⟨rfl, rfl⟩
          go_wp2
          go_roundw
          case rel =>
            go_light
            refine ⟨pos + 1, n + 2, { iss := g0, num := g1, ver := g2, gone := g3, per := g4, kind := g5, st := g6, fr := g7, til := g8, seat := g9, share := g10, cur := numB ((l.drop n).take 2), amt := g12, ref := g13 }, by omega, by omega, by go_num, by go_num, hst.put 11 (.int .i64 (numB ((l.drop n).take 2))) rfl, ?_⟩
            unfold Hid
            rw [HT.out, heq.out, hsj]
            obtain ⟨e1, e2, e3⟩ := tk_long 2 (l.drop n) (by simp; omega)
            simp [rdLetter, e1, e2, e3, List.drop_drop]
          case measure => simp [intOf]; omega
        · have hok := HCUT.out (by rw [hsj]; simp [rdLetter, short_true (k := 2) (l := l.drop n) (by simp; omega)])
          go_wp2_with fail
          refine bodyPost_ret (v := .tuple #[.agg (fcells ⟨0, 0, 0, false, 0, 0, 0, 0, 0, 0, 0, 0, 0, 0⟩), .int .i64 0, .bool false]) (results_cell3 Try.results76 _ _ w.heap.size 76 _ (0, 0) _ _ _ rfl rfl rfl (f_put14 hst.z 0 0 0 false 0 0 0 0 0 0 0 0 0 0) Try.underlying76 rfl info_fact) rfl ?_
          exact rd_zero hok (b_put14 hst.bel (Nat.le_refl _) 0 0 0 false 0 0 0 0 0 0 0 0 0 0)
      ·
        by_cases hfit : (n : Int) + 4 ≤ (l.length : Int)
        · have HSUB := Lib.hid ((hsl.sub (n := n) (k := 4) (by omega)).below hst.bel)
          go_wp2_with fail
          refine (number_any _ _ _ _ HSUB.out (by simp; omega)).mono ?_
          rintro e wy ⟨rfl, rfl⟩
          go_wp2
          go_roundw
          case rel =>
            go_light
            refine ⟨pos + 1, n + 4, { iss := g0, num := g1, ver := g2, gone := g3, per := g4, kind := g5, st := g6, fr := g7, til := g8, seat := g9, share := g10, cur := g11, amt := numB ((l.drop n).take 4), ref := g13 }, by omega, by omega, by go_num, by go_num, hst.put 12 (.int .i64 (numB ((l.drop n).take 4))) rfl, ?_⟩
            unfold Hid
            rw [HT.out, heq.out, hsj]
            obtain ⟨e1, e2, e3⟩ := tk_long 4 (l.drop n) (by simp; omega)
            simp [rdLetter, e1, e2, e3, List.drop_drop]
          case measure => simp [intOf]; omega
        · have hok := HCUT.out (by rw [hsj]; simp [rdLetter, short_true (k := 4) (l := l.drop n) (by simp; omega)])
          go_wp2_with fail
          refine bodyPost_ret (v := .tuple #[.agg (fcells ⟨0, 0, 0, false, 0, 0, 0, 0, 0, 0, 0, 0, 0, 0⟩), .int .i64 0, .bool false]) (results_cell3 Try.results76 _ _ w.heap.size 76 _ (0, 0) _ _ _ rfl rfl rfl (f_put14 hst.z 0 0 0 false 0 0 0 0 0 0 0 0 0 0) Try.underlying76 rfl info_fact) rfl ?_
          exact rd_zero hok (b_put14 hst.bel (Nat.le_refl _) 0 0 0 false 0 0 0 0 0 0 0 0 0 0)
      ·
        by_cases hfit : (n : Int) + 1 ≤ (l.length : Int)
        · have HSUB := Lib.hid ((hsl.sub (n := n) (k := 1) (by omega)).below hst.bel)
          go_wp2_with fail
          refine (number_any _ _ _ _ HSUB.out (by simp; omega)).mono ?_
          rintro e wy ⟨rfl, rfl⟩
          go_wp2
          go_roundw
          case rel =>
            go_light
            refine ⟨pos + 1, n + 1, { iss := g0, num := g1, ver := g2, gone := g3, per := g4, kind := g5, st := g6, fr := g7, til := g8, seat := g9, share := g10, cur := g11, amt := g12, ref := numB ((l.drop n).take 1) }, by omega, by omega, by go_num, by go_num, hst.put 13 (.int .i64 (numB ((l.drop n).take 1))) rfl, ?_⟩
            unfold Hid
            rw [HT.out, heq.out, hsj]
            obtain ⟨e1, e2, e3⟩ := tk_long 1 (l.drop n) (by simp; omega)
            simp [rdLetter, e1, e2, e3, List.drop_drop]
          case measure => simp [intOf]; omega
        · have hok := HCUT.out (by rw [hsj]; simp [rdLetter, short_true (k := 1) (l := l.drop n) (by simp; omega)])
          go_wp2_with fail
          refine bodyPost_ret (v := .tuple #[.agg (fcells ⟨0, 0, 0, false, 0, 0, 0, 0, 0, 0, 0, 0, 0, 0⟩), .int .i64 0, .bool false]) (results_cell3 Try.results76 _ _ w.heap.size 76 _ (0, 0) _ _ _ rfl rfl rfl (f_put14 hst.z 0 0 0 false 0 0 0 0 0 0 0 0 0 0) Try.underlying76 rfl info_fact) rfl ?_
          exact rd_zero hok (b_put14 hst.bel (Nat.le_refl _) 0 0 0 false 0 0 0 0 0 0 0 0 0 0)
    · have HA : Hid (rdAll l = ⟨⟨g0, g1, g2, g3, g4, g5, g6, g7, g8, g9, g10, g11, g12, g13⟩, l.drop n, false⟩) := by
        unfold Hid
        have h9 : s.data.toList.length = s.size := by simp
        have hp : pos = s.data.toList.length := by omega
        have := heq.out
        rw [hp, List.take_length, HS.out, ← HH.out.1] at this
        exact this
      have HRF := Lib.hid (rd_ref HA.out)
      have HST := (hsl.sub (n := 0) (k := n) (by omega)).below hst.bel
      rw [Nat.add_zero, Nat.sub_zero, List.drop_zero] at HST
      replace HST := Lib.hid HST
      clear heq HS
      go_wp2_with (go_at_call 74; refine (rbytes_any g0 g1 g2 g3 g4 g5 g6 g7 g8 g9 g10 g11 g12 g13 _).mono ?_; rintro e w5 ⟨v5, rfl, hown5, hb5, hk5⟩)
      replace HST := Lib.hid (((HST.out.mono hst.bel.size).below hb5).mono hb5.size)
      replace hst := hst.next hb5
      clear hcf hcz hff hfz hb5 hk5
      rcases hvd : validB ⟨g0, g1, g2, g3, g4, g5, g6, g7, g8, g9, g10, g11, g12, g13⟩ with _ | _
      · have hok : rdOk l = false := by rw [HRF.out, hvd]; rfl
        rw [show factO ⟨g0, g1, g2, g3, g4, g5, g6, g7, g8, g9, g10, g11, g12, g13⟩ = [] by simp [factO, hvd]] at hown5
        obtain ⟨aa, cc, rfl⟩ := own_len hown5
        clear hown5
        refine wp_region_after (by kernel_rfl) (by kernel_rfl) ?_
        repeat (go_big_quiet_step (fail))
        refine wpQuiet_nil ?_
        rintro w6 ⟨⟨w7, hb6⟩, hw7⟩
        subst hw7
        replace hst := hst.next hb6
        clear hb6
        have hcz : ∀ x, w6.cell? ⟨w.heap.size, x, none⟩ = (#[.int .i64 0, .int .i64 0, .int .i64 0, .bool false, .int .i64 0, .int .i64 0, .int .i64 0, .int .i64 0, .int .i64 0, .int .i64 0, .int .i64 0, .int .i64 0, .int .i64 0, .int .i64 0] : Array Value)[x]? := hst.z.cell
        have hfz := hst.z.frozen
        have hcf : ∀ x, w6.cell? ⟨g, x, none⟩ = (#[.int .i64 g0, .int .i64 g1, .int .i64 g2, .bool g3, .int .i64 g4, .int .i64 g5, .int .i64 g6, .int .i64 g7, .int .i64 g8, .int .i64 g9, .int .i64 g10, .int .i64 g11, .int .i64 g12, .int .i64 g13] : Array Value)[x]? := hst.f.cell
        go_wp2
        refine bodyPost_ret (v := .tuple #[.agg (fcells ⟨0, 0, 0, false, 0, 0, 0, 0, 0, 0, 0, 0, 0, 0⟩), .int .i64 0, .bool false]) (results_cell3 Try.results76 _ _ w.heap.size 76 _ (0, 0) _ _ _ rfl rfl rfl (f_put14 hst.z 0 0 0 false 0 0 0 0 0 0 0 0 0 0) Try.underlying76 rfl info_fact) rfl ?_
        exact rd_zero hok (b_put14 hst.bel (Nat.le_refl _) 0 0 0 false 0 0 0 0 0 0 0 0 0 0)
      · rw [factO_valid hvd] at hown5
        obtain ⟨l1, l2⟩ := factL_len ⟨g0, g1, g2, g3, g4, g5, g6, g7, g8, g9, g10, g11, g12, g13⟩
        rw [hvd] at HRF
        clear hvd
        generalize factL ⟨g0, g1, g2, g3, g4, g5, g6, g7, g8, g9, g10, g11, g12, g13⟩ = L at *
        have hcv5 : ∀ y : After w5, (convert 22 9 v5).run Try.prog y.x = .ok (.string ⟨L.toArray⟩) y.x := fun y => ((Sl.of_own hown5).below y.h).string
        have hcvb : ∀ y : After w5, (convert 22 9 (.slice (some ⟨b, o, none⟩) n c)).run Try.prog y.x = .ok (.string ⟨(l.take n).toArray⟩) y.x := fun y => (HST.out.below y.h).string
        obtain ⟨aa, cc, rfl⟩ := own_len hown5
        clear hown5 HST
        obtain ⟨k, hk⟩ : ∃ k, k = L.length := ⟨_, rfl⟩
        rw [← hk] at hcv5 l1 l2 ⊢
        clear hk
        have hk0 : ((k : Int) == 0) = false := beq_eq_false_iff_ne.2 (by omega)
        have hk1 : (k == 0) = false := beq_eq_false_iff_ne.2 (by omega)
        have hk2 : ¬ k = 0 := by omega
        by_cases heqL : L = l.take n
        · have hok : rdOk l = true := by rw [HRF.out]; simp [heqL]
          rw [← heqL] at hcvb
          clear HRF
          refine wp_region_after (by kernel_rfl) (by kernel_rfl) ?_
          repeat (go_big_quiet_step (fail))
          refine wpQuiet_nil ?_
          rintro w6 ⟨⟨w7, hb6⟩, hw7⟩
          subst hw7
          replace hst := hst.next hb6
          clear hb6
          have hcz : ∀ x, w6.cell? ⟨w.heap.size, x, none⟩ = (#[.int .i64 0, .int .i64 0, .int .i64 0, .bool false, .int .i64 0, .int .i64 0, .int .i64 0, .int .i64 0, .int .i64 0, .int .i64 0, .int .i64 0, .int .i64 0, .int .i64 0, .int .i64 0] : Array Value)[x]? := hst.z.cell
          have hfz := hst.z.frozen
          have hcf : ∀ x, w6.cell? ⟨g, x, none⟩ = (#[.int .i64 g0, .int .i64 g1, .int .i64 g2, .bool g3, .int .i64 g4, .int .i64 g5, .int .i64 g6, .int .i64 g7, .int .i64 g8, .int .i64 g9, .int .i64 g10, .int .i64 g11, .int .i64 g12, .int .i64 g13] : Array Value)[x]? := hst.f.cell
          go_wp2
          refine bodyPost_ret (v := .tuple #[.agg (fcells ⟨g0, g1, g2, g3, g4, g5, g6, g7, g8, g9, g10, g11, g12, g13⟩), .int .i64 (n : Int), .bool true]) (results_cell3 Try.results76 _ _ w.heap.size 76 _ (0, 0) _ _ _ rfl rfl rfl (f_put14 hst.z g0 g1 g2 g3 g4 g5 g6 g7 g8 g9 g10 g11 g12 g13) Try.underlying76 rfl info_fact) rfl ?_
          exact rd_good2 HA.out hn hok (b_put14 hst.bel (Nat.le_refl _) g0 g1 g2 g3 g4 g5 g6 g7 g8 g9 g10 g11 g12 g13)
        · have hok : rdOk l = false := by rw [HRF.out]; simp [heqL]
          clear HRF
          have hne1 : (L == l.take n) = false := beq_eq_false_iff_ne.2 heqL
          refine wp_region_after (by kernel_rfl) (by kernel_rfl) ?_
          repeat (go_big_quiet_step (fail))
          refine wpQuiet_nil ?_
          rintro w6 ⟨⟨w7, hb6⟩, hw7⟩
          subst hw7
          replace hst := hst.next hb6
          clear hb6
          have hcz : ∀ x, w6.cell? ⟨w.heap.size, x, none⟩ = (#[.int .i64 0, .int .i64 0, .int .i64 0, .bool false, .int .i64 0, .int .i64 0, .int .i64 0, .int .i64 0, .int .i64 0, .int .i64 0, .int .i64 0, .int .i64 0, .int .i64 0, .int .i64 0] : Array Value)[x]? := hst.z.cell
          have hfz := hst.z.frozen
          have hcf : ∀ x, w6.cell? ⟨g, x, none⟩ = (#[.int .i64 g0, .int .i64 g1, .int .i64 g2, .bool g3, .int .i64 g4, .int .i64 g5, .int .i64 g6, .int .i64 g7, .int .i64 g8, .int .i64 g9, .int .i64 g10, .int .i64 g11, .int .i64 g12, .int .i64 g13] : Array Value)[x]? := hst.f.cell
          go_wp2
          refine bodyPost_ret (v := .tuple #[.agg (fcells ⟨0, 0, 0, false, 0, 0, 0, 0, 0, 0, 0, 0, 0, 0⟩), .int .i64 0, .bool false]) (results_cell3 Try.results76 _ _ w.heap.size 76 _ (0, 0) _ _ _ rfl rfl rfl (f_put14 hst.z 0 0 0 false 0 0 0 0 0 0 0 0 0 0) Try.underlying76 rfl info_fact) rfl ?_
          exact rd_zero hok (b_put14 hst.bel (Nat.le_refl _) 0 0 0 false 0 0 0 0 0 0 0 0 0 0)
end Go.Proofs.Ytkkjiihdmpngbaa
