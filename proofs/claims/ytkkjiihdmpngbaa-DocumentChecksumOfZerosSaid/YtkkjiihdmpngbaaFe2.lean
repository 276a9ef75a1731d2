/-
  The contract of fact.Read.
-/
import Derived.Test.YtkkjiihdmpngbaaFd0
import Derived.Lib.OthersKept
import Derived.Test.YtkkjiihdmpngbaaFe1
import Derived.RegionTactic
namespace Go.Proofs.Ytkkjiihdmpngbaa
open Go.RowKit

/-- The reader's state: the fact so far, the bytes that are left, whether there were too few. -/
structure RdS where
  f : Fct
  l : List UInt8
  sh : Bool

def rdLetter (s : RdS) (c : UInt8) : RdS :=
  if c = 83 then ⟨{ s.f with st := tkVal 1 s.l }, tkRest 1 s.l, tkShort 1 s.l s.sh⟩
  else if c = 80 then ⟨{ s.f with fr := tkVal 3 s.l, til := tkVal 3 (tkRest 3 s.l) }, tkRest 3 (tkRest 3 s.l), tkShort 3 (tkRest 3 s.l) (tkShort 3 s.l s.sh)⟩
  else if c = 84 then ⟨{ s.f with seat := tkVal 1 s.l }, tkRest 1 s.l, tkShort 1 s.l s.sh⟩
  else if c = 72 then ⟨{ s.f with share := tkVal 1 s.l }, tkRest 1 s.l, tkShort 1 s.l s.sh⟩
  else if c = 67 then ⟨{ s.f with cur := tkVal 2 s.l }, tkRest 2 s.l, tkShort 2 s.l s.sh⟩
  else if c = 65 then ⟨{ s.f with amt := tkVal 4 s.l }, tkRest 4 s.l, tkShort 4 s.l s.sh⟩
  else if c = 82 then ⟨{ s.f with ref := tkVal 1 s.l }, tkRest 1 s.l, tkShort 1 s.l s.sh⟩
  else s

def rd1 (l : List UInt8) : List UInt8 := tkRest 1 l
def rd2 (l : List UInt8) : List UInt8 := tkRest 2 (rd1 l)
def rd3 (l : List UInt8) : List UInt8 := tkRest 1 (rd2 l)
def rd4 (l : List UInt8) : List UInt8 := tkRest 1 (rd3 l)
def rd5 (l : List UInt8) : List UInt8 := tkRest 1 (rd4 l)
def rd6 (l : List UInt8) : List UInt8 := tkRest 1 (rd5 l)
def rdSh (l : List UInt8) : Bool := tkShort 1 (rd5 l) (tkShort 1 (rd4 l) (tkShort 1 (rd3 l) (tkShort 1 (rd2 l) (tkShort 2 (rd1 l) (tkShort 1 l false)))))
def rdGone (l : List UInt8) : Int := tkVal 1 (rd3 l)
def rdKind (l : List UInt8) : Int := tkVal 1 (rd5 l)
def rdHead (l : List UInt8) : RdS := ⟨⟨tkVal 1 l, tkVal 2 (rd1 l), tkVal 1 (rd2 l), rdGone l == 1, tkVal 1 (rd4 l), rdKind l, 0, 0, 0, 0, 0, 0, 0, 0⟩, rd6 l, rdSh l⟩
def rdAll (l : List UInt8) : RdS := (usesL (rdKind l)).foldl rdLetter (rdHead l)
def rdOk (l : List UInt8) : Bool := !(rdAll l).sh && decide (rdGone l ≤ 1) && validB (rdAll l).f
def zeroFct : Fct := ⟨0, 0, 0, false, 0, 0, 0, 0, 0, 0, 0, 0, 0, 0⟩
def rdFact (l : List UInt8) : Fct := if rdOk l then (rdAll l).f else zeroFct
def rdLen (l : List UInt8) : Int := if rdOk l then (l.length : Int) - ((rdAll l).l.length : Int) else 0

theorem rdKind_eq (l : List UInt8) : tkVal 1 (tkRest 1 (tkRest 1 (tkRest 1 (tkRest 2 (tkRest 1 l))))) = rdKind l := by unfold rdKind rd5 rd4 rd3 rd2 rd1; exact Eq.refl _
theorem rdGone_eq (l : List UInt8) : tkVal 1 (tkRest 1 (tkRest 2 (tkRest 1 l))) = rdGone l := by unfold rdGone rd3 rd2 rd1; exact Eq.refl _
theorem rd6_eq (l : List UInt8) : tkRest 1 (tkRest 1 (tkRest 1 (tkRest 1 (tkRest 2 (tkRest 1 l))))) = rd6 l := by unfold rd6 rd5 rd4 rd3 rd2 rd1; exact Eq.refl _
theorem rdSh_eq (l : List UInt8) : tkShort 1 (tkRest 1 (tkRest 1 (tkRest 1 (tkRest 2 (tkRest 1 l))))) (tkShort 1 (tkRest 1 (tkRest 1 (tkRest 2 (tkRest 1 l)))) (tkShort 1 (tkRest 1 (tkRest 2 (tkRest 1 l))) (tkShort 1 (tkRest 2 (tkRest 1 l)) (tkShort 2 (tkRest 1 l) (tkShort 1 l false))))) = rdSh l := by unfold rdSh rd5 rd4 rd3 rd2 rd1; exact Eq.refl _
theorem tkRest_len (k : Nat) (l : List UInt8) : (tkRest k l).length ≤ l.length := by
  unfold tkRest; split <;> simp

attribute [local irreducible] tkVal tkRest tkShort

/-- Where Read stands. -/
structure RdSt (w : World) (f : Fct) (l : List UInt8) (sh : Bool) (wr : World) : Prop where
  f : BlkIs wr w.heap.size 76 (fcells f)
  r : Rdr w.heap.size (w.heap.size + 1) l sh wr
  bel : Below w.heap.size w wr
  len : l.length ≤ 4611686018427387904

def RdStPost (w : World) (f : Fct) (k : Nat) (l : List UInt8) (sh : Bool) (wr : World) (e : Ending) (w' : World) : Prop :=
  e = .returned (.int .i64 (tkVal k l)) ∧ RdSt w f (tkRest k l) (tkShort k l sh) w' ∧ wr.grownBy w' (some (w.heap.size + 1))

theorem RdSt.take {w wr : World} {f : Fct} {l : List UInt8} {sh : Bool} (h : RdSt w f l sh wr) (k : Nat) (kk : Int) (hkk : kk = k) (hk : 1 ≤ k) (hk6 : k ≤ 6) :
    Calls Try.prog 82 #[.pointer (some ⟨w.heap.size + 1, 0, none⟩), .int .i64 kk] wr (RdStPost w f k l sh wr) := by
  refine (take_any w.heap.size (w.heap.size + 1) k kk l sh wr hkk hk hk6 h.r h.len).mono ?_
  rintro e w' ⟨he, hr, hg⟩
  refine ⟨he, ⟨h.f.grown hg (by simp), hr, h.bel.grown hg h.bel.size (fun k hk => by injection hk; omega), Nat.le_trans (tkRest_len k l) h.len⟩, hg⟩
theorem RdSt.put {w wr : World} {f f' : Fct} {l : List UInt8} {sh : Bool} (h : RdSt w f l sh wr) (i : Nat) (u : Value) (hf : (fcells f).setIfInBounds i u = fcells f') : RdSt w f' l sh (wr.setCell ⟨w.heap.size, i, none⟩ u) := by
  refine ⟨by rw [← hf]; exact h.f.put i u, ?_, h.bel.setCell (by simp) u, h.len⟩
  obtain ⟨⟨v, hb, hs⟩, hB⟩ := h.r
  refine ⟨⟨v, hb.far (by simp) u, ?_⟩, hB⟩
  obtain ⟨a, c, hv, hc, hx⟩ := hs
  refine ⟨a, c, hv, hc, fun hl => ?_⟩
  obtain ⟨b, o, ha, hb, hcell⟩ := hx hl
  exact ⟨b, o, ha, hb, fun j u hu => (World.cell?_setCell_other wr _ _ _ (by intro e; injection e; omega)).trans (hcell j u hu)⟩

theorem RdSt.same {w wr w' : World} {f : Fct} {l : List UInt8} {sh : Bool} (h : RdSt w f l sh wr) (h1 : w'.heap[w.heap.size]? = wr.heap[w.heap.size]?) (h2 : w'.heap[w.heap.size + 1]? = wr.heap[w.heap.size + 1]?) (hb : Below w.heap.size wr w') : RdSt w f l sh w' := by
  obtain ⟨hf, ⟨⟨v, hv, hs⟩, hB⟩, bel, len⟩ := h
  exact ⟨h1.trans hf, ⟨⟨v, h2.trans hv, hs.below hb⟩, hB⟩, bel.trans hb, len⟩
theorem RdSt.lt {w wr : World} {f : Fct} {l : List UInt8} {sh : Bool} (h : RdSt w f l sh wr) : w.heap.size + 1 < wr.heap.size := by
  obtain ⟨_, ⟨⟨v, hv, _⟩, _⟩, _, _⟩ := h
  exact hv.lt
theorem RdSt.iterAt {w wr : World} {f : Fct} {l : List UInt8} {sh : Bool} (h : RdSt w f l sh wr) (k : Nat) (s : ByteArray) (p : Nat) (hk : w.heap.size + 1 < k) : RdSt w f l sh (wr.iterAt k s p) :=
  h.same (Lib.iterAt_other _ _ _ _ _ (by omega)) (Lib.iterAt_other _ _ _ _ _ (by omega)) (Lib.below_iterAt (Below.refl _ _) (by omega) s p)
theorem RdSt.iter {w wr : World} {f : Fct} {l : List UInt8} {sh : Bool} (h : RdSt w f l sh wr) (s : ByteArray) (p : Nat) : RdSt w f l sh (wr.iter s p) :=
  h.same (Below.heap_alloc _ _ _ (by have := h.lt; omega)) (Below.heap_alloc _ _ _ h.lt) ((Below.refl _ _).alloc (by have := h.lt; omega) _)
theorem iter_grown {w w' : World} {k g : Nat} {s : ByteArray} {pos : Nat} (h : w.heap[k]? = some (.stringIter s pos)) (hg : w.grownBy w' (some g)) (hne : k ≠ g) : w'.heap[k]? = some (.stringIter s pos) :=
  (hg.block k (Array.getElem?_eq_some_iff.1 h).1 (by intro e; injection e; omega)).trans h
theorem iter_set {w : World} {k g i : Nat} {s : ByteArray} {pos : Nat} (h : w.heap[k]? = some (.stringIter s pos)) (u : Value) (hne : k ≠ g) : (w.setCell ⟨g, i, none⟩ u).heap[k]? = some (.stringIter s pos) :=
  (Below.heap_setCell w ⟨g, i, none⟩ u k hne).trans h

def ReadPost (l : List UInt8) (w : World) (e : Ending) (w' : World) : Prop :=
  e = .returned (.tuple #[.agg (fcells (rdFact l)), .int .i64 (rdLen l), .bool (rdOk l)]) ∧ Below w.heap.size w w'

theorem f_put14 {wr : World} {g : Nat} {t : TypeId} {f : Fct} (h : BlkIs wr g t (fcells f)) (g0 g1 g2 : Int) (g3 : Bool) (g4 g5 g6 g7 g8 g9 g10 g11 g12 g13 : Int) :
    BlkIs (((((((((((((((wr.setCell ⟨g, 0, none⟩ (.int .i64 g0)).setCell ⟨g, 1, none⟩ (.int .i64 g1)).setCell ⟨g, 2, none⟩ (.int .i64 g2)).setCell ⟨g, 3, none⟩ (.bool g3)).setCell ⟨g, 4, none⟩ (.int .i64 g4)).setCell ⟨g, 5, none⟩ (.int .i64 g5)).setCell ⟨g, 6, none⟩ (.int .i64 g6)).setCell ⟨g, 7, none⟩ (.int .i64 g7)).setCell ⟨g, 8, none⟩ (.int .i64 g8)).setCell ⟨g, 9, none⟩ (.int .i64 g9)).setCell ⟨g, 10, none⟩ (.int .i64 g10)).setCell ⟨g, 11, none⟩ (.int .i64 g11)).setCell ⟨g, 12, none⟩ (.int .i64 g12)).setCell ⟨g, 13, none⟩ (.int .i64 g13))) g t (fcells ⟨g0, g1, g2, g3, g4, g5, g6, g7, g8, g9, g10, g11, g12, g13⟩) := by
  have e : (((((((((((((((fcells f).setIfInBounds 0 (.int .i64 g0)).setIfInBounds 1 (.int .i64 g1)).setIfInBounds 2 (.int .i64 g2)).setIfInBounds 3 (.bool g3)).setIfInBounds 4 (.int .i64 g4)).setIfInBounds 5 (.int .i64 g5)).setIfInBounds 6 (.int .i64 g6)).setIfInBounds 7 (.int .i64 g7)).setIfInBounds 8 (.int .i64 g8)).setIfInBounds 9 (.int .i64 g9)).setIfInBounds 10 (.int .i64 g10)).setIfInBounds 11 (.int .i64 g11)).setIfInBounds 12 (.int .i64 g12)).setIfInBounds 13 (.int .i64 g13)) = fcells ⟨g0, g1, g2, g3, g4, g5, g6, g7, g8, g9, g10, g11, g12, g13⟩ := by simp [fcells]
  rw [← e]
  exact ((((((((((((((h.put 0 (.int .i64 g0)).put 1 (.int .i64 g1)).put 2 (.int .i64 g2)).put 3 (.bool g3)).put 4 (.int .i64 g4)).put 5 (.int .i64 g5)).put 6 (.int .i64 g6)).put 7 (.int .i64 g7)).put 8 (.int .i64 g8)).put 9 (.int .i64 g9)).put 10 (.int .i64 g10)).put 11 (.int .i64 g11)).put 12 (.int .i64 g12)).put 13 (.int .i64 g13))
theorem results_cell3 {P : Program} {fn : Func} {p u x : Tmp} {ty : TypeId} (h : fn.results = #[.cell p ty, .tmp u, .tmp x]) (tmps : Array Value) (w : World) (g : Nat) (t : TypeId) (cs : Array Value) (fr : Nat × Nat) (d : TypeDesc) (v1 v2 : Value)
    (hp : tmps.getD p undef = .pointer (some ⟨g, 0, none⟩)) (h1 : tmps.getD u undef = v1) (h2 : tmps.getD x undef = v2) (hg : w.heap[g]? = some (.cells cs t fr))
    (hu : P.underlying ty = some d) (hd : (match d with | .struct _ | .array _ _ => true | _ => false) = true) (hi : (P.info? ty).map (·.size) = some cs.size) :
    (results fn tmps).run P w = .ok (.tuple #[.agg cs, v1, v2]) w := by
  have hp' : tmps[p]?.getD undef = .pointer (some ⟨g, 0, none⟩) := by simpa using hp
  have h1' : tmps[u]?.getD undef = v1 := by simpa using h1
  have h2' : tmps[x]?.getD undef = v2 := by simpa using h2
  simp [results, h, hp', h1', h2', asAddr, run_loadVar_row w g t ty cs fr d hg hu hd hi]
theorem rd_zero {l : List UInt8} {w w' : World} (h : rdOk l = false) (hb : Below w.heap.size w w') :
    ReadPost l w (.returned (.tuple #[.agg (fcells ⟨0, 0, 0, false, 0, 0, 0, 0, 0, 0, 0, 0, 0, 0⟩), .int .i64 0, .bool false])) w' := by
  refine ⟨?_, hb⟩
  simp [rdFact, rdLen, h, zeroFct]
theorem rd_good {l rl : List UInt8} {f : Fct} {rs : Bool} {w w' : World} (ha : rdAll l = ⟨f, rl, rs⟩) (h : rdOk l = true) (hb : Below w.heap.size w w') :
    ReadPost l w (.returned (.tuple #[.agg (fcells f), .int .i64 ((l.length : Int) - (rl.length : Int)), .bool true])) w' := by
  refine ⟨?_, hb⟩
  simp [rdFact, rdLen, h, ha]
theorem rdOk_short {l rl : List UInt8} {f : Fct} (ha : rdAll l = ⟨f, rl, true⟩) : rdOk l = false := by simp [rdOk, ha]
theorem rdOk_gone {l : List UInt8} (hg : ¬ rdGone l ≤ 1) : rdOk l = false := by simp [rdOk, hg]
theorem rdOk_valid {l rl : List UInt8} {f : Fct} (ha : rdAll l = ⟨f, rl, false⟩) (hg : rdGone l ≤ 1) : rdOk l = validB f := by simp [rdOk, ha, hg]

set_option maxRecDepth 100000 in
set_option maxHeartbeats 4000000 in
theorem read_any (v : Value) (l : List UInt8) (w : World) (hsl : Sl w.heap.size w v l) (hl : l.length ≤ 4611686018427387904) :
    Calls Try.prog 75 #[v] w (ReadPost l w) := by
  obtain ⟨a, c, hv, hc, hx⟩ := id hsl
  subst hv
  clear hx
  have hst0 : RdSt w zeroFct l false ((w.alloc (.cells #[.int .i64 0, .int .i64 0, .int .i64 0, .bool false, .int .i64 0, .int .i64 0, .int .i64 0, .int .i64 0, .int .i64 0, .int .i64 0, .int .i64 0, .int .i64 0, .int .i64 0, .int .i64 0] 76)).alloc (.cells #[.slice a l.length c, .bool false] 111)) := by
    refine ⟨(BlkIs.new _ _ _).alloc _, ⟨⟨_, BlkIs.newAt _ _ _ _ (by simp), ?_⟩, by omega⟩, ((Below.refl _ _).alloc (Nat.le_refl _) _).alloc (by simp) _, hl⟩
    exact hsl.below (((Below.refl _ _).alloc (Nat.le_refl _) _).alloc (by simp) _)
  clear hsl
  go_enter Try.func75, Try.ntmps75
  go_wp2_with fail
  refine (hst0.take 1 _ rfl (by decide) (by decide)).mono ?_
  rintro e w1 ⟨rfl, hst1, hg1⟩
  clear hg1
  clear hst0
  go_wp2_with fail
  refine (hst1.take 2 _ rfl (by decide) (by decide)).mono ?_
  rintro e w2 ⟨rfl, hst2, hg2⟩
  clear hg2
  clear hst1
  go_wp2_with fail
  refine (hst2.take 1 _ rfl (by decide) (by decide)).mono ?_
  rintro e w3 ⟨rfl, hst3, hg3⟩
  clear hg3
  clear hst2
  have hcf : ∀ x, w3.cell? ⟨w.heap.size, x, none⟩ = (#[.int .i64 0, .int .i64 0, .int .i64 0, .bool false, .int .i64 0, .int .i64 0, .int .i64 0, .int .i64 0, .int .i64 0, .int .i64 0, .int .i64 0, .int .i64 0, .int .i64 0, .int .i64 0] : Array Value)[x]? := hst3.f.cell
  have hff := hst3.f.frozen
  go_wp2_with fail
  have hst4 := ((hst3.put (f' := { zeroFct with iss := tkVal 1 l }) 0 (.int .i64 (tkVal 1 l)) rfl).put (f' := { zeroFct with iss := tkVal 1 l, num := tkVal 2 (rd1 l) }) 1 (.int .i64 (tkVal 2 (tkRest 1 l))) rfl).put (f' := { zeroFct with iss := tkVal 1 l, num := tkVal 2 (rd1 l), ver := tkVal 1 (rd2 l) }) 2 (.int .i64 (tkVal 1 (tkRest 2 (tkRest 1 l)))) rfl
  clear hst3 hcf hff
  refine (hst4.take 1 _ rfl (by decide) (by decide)).mono ?_
  rintro e w5 ⟨rfl, hst5, hg5⟩
  clear hg5 hst4
  have hcf := hst5.f.cell
  have hff := hst5.f.frozen
  simp only [fcells, zeroFct] at hcf
  go_wp2_with fail
  have hst6 := hst5.put (f' := { zeroFct with iss := tkVal 1 l, num := tkVal 2 (rd1 l), ver := tkVal 1 (rd2 l), gone := rdGone l == 1 }) 3 (.bool (tkVal 1 (tkRest 1 (tkRest 2 (tkRest 1 l))) == 1)) rfl
  clear hst5 hcf hff
  refine (hst6.take 1 _ rfl (by decide) (by decide)).mono ?_
  rintro e w7 ⟨rfl, hst7, hg7⟩
  clear hg7 hst6
  go_wp2_with fail
  refine (hst7.take 1 _ rfl (by decide) (by decide)).mono ?_
  rintro e w8 ⟨rfl, hst8, hg8⟩
  clear hg8 hst7
  have hcf := hst8.f.cell
  have hff := hst8.f.frozen
  simp only [fcells, zeroFct] at hcf
  go_wp2_with (go_at_call 79; refine (uses_any _ _).mono ?_; rintro e w' ⟨rfl, rfl⟩)
  have hst9 := (hst8.put (f' := { zeroFct with iss := tkVal 1 l, num := tkVal 2 (rd1 l), ver := tkVal 1 (rd2 l), gone := rdGone l == 1, per := tkVal 1 (rd4 l) }) 4 (.int .i64 (tkVal 1 (tkRest 1 (tkRest 1 (tkRest 2 (tkRest 1 l)))))) rfl).put (f' := ⟨tkVal 1 l, tkVal 2 (rd1 l), tkVal 1 (rd2 l), rdGone l == 1, tkVal 1 (rd4 l), rdKind l, 0, 0, 0, 0, 0, 0, 0, 0⟩) 5 (.int .i64 (tkVal 1 (tkRest 1 (tkRest 1 (tkRest 1 (tkRest 2 (tkRest 1 l))))))) rfl
  have hk8 : w.heap.size + 1 < w8.heap.size := hst8.lt
  clear hst8 hcf hff
  rw [rdKind_eq] at hst9 ⊢
  rw [rdGone_eq]
  have hsz9 : ((w8.setCell ⟨w.heap.size, 4, none⟩ (.int .i64 (tkVal 1 (tkRest 1 (tkRest 1 (tkRest 2 (tkRest 1 l))))))).setCell ⟨w.heap.size, 5, none⟩ (.int .i64 (rdKind l))).heap.size = w8.heap.size := by simp [World.setCell]
  have hit9 := World.iter_heap ((w8.setCell ⟨w.heap.size, 4, none⟩ (.int .i64 (tkVal 1 (tkRest 1 (tkRest 1 (tkRest 2 (tkRest 1 l))))))).setCell ⟨w.heap.size, 5, none⟩ (.int .i64 (rdKind l))) (usesS (rdKind l)) 0
  rw [hsz9] at hit9
  have HIT9 := Lib.hid hit9
  clear hsz9 hit9
  replace hst9 := hst9.iter (usesS (rdKind l)) 0
  rw [rd6_eq, rdSh_eq] at hst9
  obtain ⟨kb, hkb⟩ : ∃ kb, kb = w8.heap.size := ⟨_, rfl⟩
  rw [← hkb] at HIT9 hk8 ⊢
  clear hkb
  generalize ((w8.setCell ⟨w.heap.size, 4, none⟩ (.int .i64 (tkVal 1 (tkRest 1 (tkRest 1 (tkRest 2 (tkRest 1 l))))))).setCell ⟨w.heap.size, 5, none⟩ (.int .i64 (rdKind l))).iter (usesS (rdKind l)) 0 = w9 at *
  obtain ⟨s, hs⟩ : ∃ s, s = usesS (rdKind l) := ⟨_, rfl⟩
  have HS := Lib.hid hs
  rw [← hs] at HIT9 ⊢
  clear hs
  have hssz : s.size ≤ 6 := by rw [HS.out]; exact usesL_le (rdKind l)
  go_loopw [8] (fun _ wr => ∃ (pos : Nat) (st : RdS), pos ≤ s.size ∧ Hid (wr.heap[kb]? = some (.stringIter s pos)) ∧ RdSt w st.f st.l st.sh wr ∧ Hid (st = (s.data.toList.take pos).foldl rdLetter (rdHead l)))
    (fun _ wr => s.size - wr.iterPos kb)
  case atStart =>
    clear HS
    refine ⟨0, rdHead l, Nat.zero_le _, HIT9, ?_, ?_⟩
    · unfold rdHead; exact hst9
    · simp [Hid]
  case round =>
    obtain ⟨pos, ⟨⟨g0, g1, g2, g3, g4, g5, g6, g7, g8, g9, g10, g11, g12, g13⟩, rl, rs⟩, hpos, HIT, hst, heq⟩ := hrel
    clear hst9 HIT9
    simp only at hst
    by_cases hlt : pos < s.size
    · have hmem : s[pos] ∈ usesL (rdKind l) := by
        have h1 : s[pos] ∈ s.data.toList := List.getElem_mem (l := s.data.toList) (n := pos) (by simpa using hlt)
        have h2 : s.data.toList = usesL (rdKind l) := by rw [HS.out]; rfl
        rw [h2] at h1
        exact h1
      have hc7 := uses_mem _ _ hmem
      clear hmem
      have HT : Hid ((s.data.toList.take (pos + 1)).foldl rdLetter (rdHead l) = rdLetter ((s.data.toList.take pos).foldl rdLetter (rdHead l)) s[pos]) := by
        unfold Hid
        rw [List.take_succ_eq_append_getElem (l := s.data.toList) (i := pos) (by simpa using hlt), List.foldl_append]
        rfl
      have hasc : s[pos].toNat < 128 := by rcases hc7 with h | h | h | h | h | h | h <;> rw [h] <;> decide
      have hnx : ∀ ty, (Instr.next (.pointer (some ⟨kb, 0, none⟩)) true ty).run Try.prog wr = .ok (.tuple #[.bool true, .int .i64 pos, .int .i32 s[pos].toNat]) (wr.iterAt kb s (pos + 1)) := fun ty => Lib.run_next_ascii_at wr _ s pos ty HIT.out hlt hasc
      have hsti := hst.iterAt kb s (pos + 1) hk8
      have HITI : Hid ((wr.iterAt kb s (pos + 1)).heap[kb]? = some (.stringIter s (pos + 1))) := Lib.iterAt_heap wr _ s pos (pos + 1) HIT.out
      clear hst hasc
      generalize wr.iterAt kb s (pos + 1) = wi at *
      generalize s[pos] = cch at *
      rcases hc7 with rfl | rfl | rfl | rfl | rfl | rfl | rfl
      ·
        go_wp2_with fail
        refine (hsti.take 1 _ rfl (by decide) (by decide)).mono ?_
        rintro e w10 ⟨rfl, hst10, hg10⟩
        have HI10 : Hid (w10.heap[kb]? = some (.stringIter s (pos + 1))) := iter_grown HITI.out hg10 (by omega)
        clear hg10 hsti
        have hcf := hst10.f.cell
        have hff := hst10.f.frozen
        simp only [fcells] at hcf
        go_wp2
        go_roundw
        case rel =>
          go_light
          refine ⟨pos + 1, ⟨{ iss := g0, num := g1, ver := g2, gone := g3, per := g4, kind := g5, st := tkVal 1 rl, fr := g7, til := g8, seat := g9, share := g10, cur := g11, amt := g12, ref := g13 }, _, _⟩, by omega, iter_set HI10.out _ (by omega), hst10.put 6 _ rfl, ?_⟩
          unfold Hid
          rw [HT.out, ← heq.out]
          simp [rdLetter]
        case measure =>
          go_light
          have h0 := HIT.out
          have h1 := iter_set (i := 6) HI10.out (.int .i64 (tkVal 1 rl)) (g := w.heap.size) (by omega)
          simp only [World.iterPos, h1, h0]
          omega
      · go_wp2_with fail
        refine (hsti.take 3 _ rfl (by decide) (by decide)).mono ?_
        rintro e w10 ⟨rfl, hst10, hg10⟩
        have HI10 : Hid (w10.heap[kb]? = some (.stringIter s (pos + 1))) := iter_grown HITI.out hg10 (by omega)
        clear hg10 hsti
        go_wp2_with fail
        refine (hst10.take 3 _ rfl (by decide) (by decide)).mono ?_
        rintro e w11 ⟨rfl, hst11, hg11⟩
        have HI11 : Hid (w11.heap[kb]? = some (.stringIter s (pos + 1))) := iter_grown HI10.out hg11 (by omega)
        clear hg11 hst10
        have hcf := hst11.f.cell
        have hff := hst11.f.frozen
        simp only [fcells] at hcf
        go_wp2
        go_roundw
        case rel =>
          go_light
          refine ⟨pos + 1, ⟨{ iss := g0, num := g1, ver := g2, gone := g3, per := g4, kind := g5, st := g6, fr := tkVal 3 rl, til := tkVal 3 (tkRest 3 rl), seat := g9, share := g10, cur := g11, amt := g12, ref := g13 }, _, _⟩, by omega, iter_set (iter_set HI11.out _ (by omega)) _ (by omega), (hst11.put (f' := { iss := g0, num := g1, ver := g2, gone := g3, per := g4, kind := g5, st := g6, fr := tkVal 3 rl, til := g8, seat := g9, share := g10, cur := g11, amt := g12, ref := g13 }) 7 _ rfl).put 8 _ rfl, ?_⟩
          unfold Hid
          rw [HT.out, ← heq.out]
          simp [rdLetter]
        case measure =>
          go_light
          have h0 := HIT.out
          have h1 := iter_set (i := 8) (iter_set (i := 7) HI11.out (.int .i64 (tkVal 3 rl)) (g := w.heap.size) (by omega)) (.int .i64 (tkVal 3 (tkRest 3 rl))) (g := w.heap.size) (by omega)
          simp only [World.iterPos, h1, h0]
          omega
      ·
        go_wp2_with fail
        refine (hsti.take 1 _ rfl (by decide) (by decide)).mono ?_
        rintro e w10 ⟨rfl, hst10, hg10⟩
        have HI10 : Hid (w10.heap[kb]? = some (.stringIter s (pos + 1))) := iter_grown HITI.out hg10 (by omega)
        clear hg10 hsti
        have hcf := hst10.f.cell
        have hff := hst10.f.frozen
        simp only [fcells] at hcf
        go_wp2
        go_roundw
        case rel =>
          go_light
          refine ⟨pos + 1, ⟨{ iss := g0, num := g1, ver := g2, gone := g3, per := g4, kind := g5, st := g6, fr := g7, til := g8, seat := tkVal 1 rl, share := g10, cur := g11, amt := g12, ref := g13 }, _, _⟩, by omega, iter_set HI10.out _ (by omega), hst10.put 9 _ rfl, ?_⟩
          unfold Hid
          rw [HT.out, ← heq.out]
          simp [rdLetter]
        case measure =>
          go_light
          have h0 := HIT.out
          have h1 := iter_set (i := 9) HI10.out (.int .i64 (tkVal 1 rl)) (g := w.heap.size) (by omega)
          simp only [World.iterPos, h1, h0]
          omega
      ·
        go_wp2_with fail
        refine (hsti.take 1 _ rfl (by decide) (by decide)).mono ?_
        rintro e w10 ⟨rfl, hst10, hg10⟩
        have HI10 : Hid (w10.heap[kb]? = some (.stringIter s (pos + 1))) := iter_grown HITI.out hg10 (by omega)
        clear hg10 hsti
        have hcf := hst10.f.cell
        have hff := hst10.f.frozen
        simp only [fcells] at hcf
        go_wp2
        go_roundw
        case rel =>
          go_light
          refine ⟨pos + 1, ⟨{ iss := g0, num := g1, ver := g2, gone := g3, per := g4, kind := g5, st := g6, fr := g7, til := g8, seat := g9, share := tkVal 1 rl, cur := g11, amt := g12, ref := g13 }, _, _⟩, by omega, iter_set HI10.out _ (by omega), hst10.put 10 _ rfl, ?_⟩
          unfold Hid
          rw [HT.out, ← heq.out]
          simp [rdLetter]
        case measure =>
          go_light
          have h0 := HIT.out
          have h1 := iter_set (i := 10) HI10.out (.int .i64 (tkVal 1 rl)) (g := w.heap.size) (by omega)
          simp only [World.iterPos, h1, h0]
          omega
      ·
        go_wp2_with fail
        refine (hsti.take 2 _ rfl (by decide) (by decide)).mono ?_
        rintro e w10 ⟨rfl, hst10, hg10⟩
        have HI10 : Hid (w10.heap[kb]? = some (.stringIter s (pos + 1))) := iter_grown HITI.out hg10 (by omega)
        clear hg10 hsti
        have hcf := hst10.f.cell
        have hff := hst10.f.frozen
        simp only [fcells] at hcf
        go_wp2
        go_roundw
        case rel =>
          go_light
          refine ⟨pos + 1, ⟨{ iss := g0, num := g1, ver := g2, gone := g3, per := g4, kind := g5, st := g6, fr := g7, til := g8, seat := g9, share := g10, cur := tkVal 2 rl, amt := g12, ref := g13 }, _, _⟩, by omega, iter_set HI10.out _ (by omega), hst10.put 11 _ rfl, ?_⟩
          unfold Hid
          rw [HT.out, ← heq.out]
          simp [rdLetter]
        case measure =>
          go_light
          have h0 := HIT.out
          have h1 := iter_set (i := 11) HI10.out (.int .i64 (tkVal 2 rl)) (g := w.heap.size) (by omega)
          simp only [World.iterPos, h1, h0]
          omega
      ·
        go_wp2_with fail
        refine (hsti.take 4 _ rfl (by decide) (by decide)).mono ?_
        rintro e w10 ⟨rfl, hst10, hg10⟩
        have HI10 : Hid (w10.heap[kb]? = some (.stringIter s (pos + 1))) := iter_grown HITI.out hg10 (by omega)
        clear hg10 hsti
        have hcf := hst10.f.cell
        have hff := hst10.f.frozen
        simp only [fcells] at hcf
        go_wp2
        go_roundw
        case rel =>
          go_light
          refine ⟨pos + 1, ⟨{ iss := g0, num := g1, ver := g2, gone := g3, per := g4, kind := g5, st := g6, fr := g7, til := g8, seat := g9, share := g10, cur := g11, amt := tkVal 4 rl, ref := g13 }, _, _⟩, by omega, iter_set HI10.out _ (by omega), hst10.put 12 _ rfl, ?_⟩
          unfold Hid
          rw [HT.out, ← heq.out]
          simp [rdLetter]
        case measure =>
          go_light
          have h0 := HIT.out
          have h1 := iter_set (i := 12) HI10.out (.int .i64 (tkVal 4 rl)) (g := w.heap.size) (by omega)
          simp only [World.iterPos, h1, h0]
          omega
      ·
        go_wp2_with fail
        refine (hsti.take 1 _ rfl (by decide) (by decide)).mono ?_
        rintro e w10 ⟨rfl, hst10, hg10⟩
        have HI10 : Hid (w10.heap[kb]? = some (.stringIter s (pos + 1))) := iter_grown HITI.out hg10 (by omega)
        clear hg10 hsti
        have hcf := hst10.f.cell
        have hff := hst10.f.frozen
        simp only [fcells] at hcf
        go_wp2
        go_roundw
        case rel =>
          go_light
          refine ⟨pos + 1, ⟨{ iss := g0, num := g1, ver := g2, gone := g3, per := g4, kind := g5, st := g6, fr := g7, til := g8, seat := g9, share := g10, cur := g11, amt := g12, ref := tkVal 1 rl }, _, _⟩, by omega, iter_set HI10.out _ (by omega), hst10.put 13 _ rfl, ?_⟩
          unfold Hid
          rw [HT.out, ← heq.out]
          simp [rdLetter]
        case measure =>
          go_light
          have h0 := HIT.out
          have h1 := iter_set (i := 13) HI10.out (.int .i64 (tkVal 1 rl)) (g := w.heap.size) (by omega)
          simp only [World.iterPos, h1, h0]
          omega
    · have hnx : ∀ ty, (Instr.next (.pointer (some ⟨kb, 0, none⟩)) true ty).run Try.prog wr = .ok (.tuple #[.bool false]) wr := fun ty => Lib.run_next_end_at wr _ s pos ty HIT.out hlt
      have HA : Hid (rdAll l = ⟨⟨g0, g1, g2, g3, g4, g5, g6, g7, g8, g9, g10, g11, g12, g13⟩, rl, rs⟩) := by
        unfold Hid
        have h9 : s.data.toList.length = s.size := by simp
        have hp : pos = s.data.toList.length := by omega
        have := heq.out
        rw [hp, List.take_length, HS.out] at this
        exact this.symm
      clear HS HIT heq
      have HV := Lib.hid (valid_any g0 g1 g2 g3 g4 g5 g6 g7 g8 g9 g10 g11 g12 g13)
      obtain ⟨hfb, ⟨⟨vr, hrb, hrs⟩, hB⟩, hbel, hlen⟩ := hst
      obtain ⟨ra, rc, rfl, hrc, hrx⟩ := hrs
      clear hrx
      have hcf : ∀ x, wr.cell? ⟨w.heap.size, x, none⟩ = (#[.int .i64 g0, .int .i64 g1, .int .i64 g2, .bool g3, .int .i64 g4, .int .i64 g5, .int .i64 g6, .int .i64 g7, .int .i64 g8, .int .i64 g9, .int .i64 g10, .int .i64 g11, .int .i64 g12, .int .i64 g13] : Array Value)[x]? := hfb.cell
      have hcr : ∀ x, wr.cell? ⟨w.heap.size + 1, x, none⟩ = (#[.slice ra rl.length rc, .bool rs] : Array Value)[x]? := hrb.cell
      have hff := hfb.frozen
      cases rs
      · by_cases hgo : rdGone l ≤ 1
        · have HOK := Lib.hid (rdOk_valid HA.out hgo)
          go_wp2_with fail
          refine (HV.out _).mono ?_
          rintro e w' ⟨rfl, hbv⟩
          have hfb' := hfb.below hbv hfb.lt
          have hrb' := hrb.below hbv hrb.lt
          have hbel' := hbel.trans (hbv.mono (by have := hfb.lt; omega))
          clear hcf hcr hff
          have hcf : ∀ x, w'.cell? ⟨w.heap.size, x, none⟩ = (#[.int .i64 g0, .int .i64 g1, .int .i64 g2, .bool g3, .int .i64 g4, .int .i64 g5, .int .i64 g6, .int .i64 g7, .int .i64 g8, .int .i64 g9, .int .i64 g10, .int .i64 g11, .int .i64 g12, .int .i64 g13] : Array Value)[x]? := hfb'.cell
          have hcr : ∀ x, w'.cell? ⟨w.heap.size + 1, x, none⟩ = (#[.slice ra rl.length rc, .bool false] : Array Value)[x]? := hrb'.cell
          have hff := hfb'.frozen
          rw [← HOK.out]
          cases hok : rdOk l
          · go_wp2
            refine bodyPost_ret (v := .tuple #[.agg (fcells ⟨0, 0, 0, false, 0, 0, 0, 0, 0, 0, 0, 0, 0, 0⟩), .int .i64 0, .bool false]) (results_cell3 Try.results75 _ _ w.heap.size 76 _ (0, 0) _ _ _ rfl rfl rfl (f_put14 hfb' 0 0 0 false 0 0 0 0 0 0 0 0 0 0) Try.underlying76 rfl info_fact) rfl ?_
            exact rd_zero hok (b_put14 hbel' (Nat.le_refl _) 0 0 0 false 0 0 0 0 0 0 0 0 0 0)
          · go_wp2_with fail
            go_region
            go_wp2
            refine bodyPost_ret (v := .tuple #[.agg (fcells ⟨g0, g1, g2, g3, g4, g5, g6, g7, g8, g9, g10, g11, g12, g13⟩), .int .i64 ((l.length : Int) - (rl.length : Int)), .bool true]) (results_cell3 Try.results75 _ _ w.heap.size 76 _ (0, 0) _ _ _ rfl rfl rfl (f_put14 hfb' g0 g1 g2 g3 g4 g5 g6 g7 g8 g9 g10 g11 g12 g13).drew Try.underlying76 rfl info_fact) rfl ?_
            exact rd_good HA.out hok (b_put14 hbel' (Nat.le_refl _) g0 g1 g2 g3 g4 g5 g6 g7 g8 g9 g10 g11 g12 g13).drew
        · have HOK := Lib.hid (rdOk_gone hgo)
          go_wp2_with fail
          any_goals (exfalso; omega)
          refine bodyPost_ret (v := .tuple #[.agg (fcells ⟨0, 0, 0, false, 0, 0, 0, 0, 0, 0, 0, 0, 0, 0⟩), .int .i64 0, .bool false]) (results_cell3 Try.results75 _ _ w.heap.size 76 _ (0, 0) _ _ _ rfl rfl rfl (f_put14 hfb 0 0 0 false 0 0 0 0 0 0 0 0 0 0) Try.underlying76 rfl info_fact) rfl ?_
          exact rd_zero HOK.out (b_put14 hbel (Nat.le_refl _) 0 0 0 false 0 0 0 0 0 0 0 0 0 0)
      · have HOK := Lib.hid (rdOk_short HA.out)
        go_wp2_with fail
        refine bodyPost_ret (v := .tuple #[.agg (fcells ⟨0, 0, 0, false, 0, 0, 0, 0, 0, 0, 0, 0, 0, 0⟩), .int .i64 0, .bool false]) (results_cell3 Try.results75 _ _ w.heap.size 76 _ (0, 0) _ _ _ rfl rfl rfl (f_put14 hfb 0 0 0 false 0 0 0 0 0 0 0 0 0 0) Try.underlying76 rfl info_fact) rfl ?_
        exact rd_zero HOK.out (b_put14 hbel (Nat.le_refl _) 0 0 0 false 0 0 0 0 0 0 0 0 0 0)
end Go.Proofs.Ytkkjiihdmpngbaa
