/-
  Contracts: Fact of the document and of the reference (bodies read).
-/
import Derived.Test.YtkkjiihdmpngbaaDc1
namespace Go.Proofs.Ytkkjiihdmpngbaa
open Go.RowKit
set_option linter.unusedVariables false

/-- Whether bytes are a fact's, and the fact. -/
def fcOk (l : List UInt8) : Bool := rdOk l && decide (rdLen l = (l.length : Int))
def fcR (l : List UInt8) : Fct := if fcOk l then rdFact l else zeroFct
def TookFact (l : List UInt8) (w : World) (e : Ending) (w' : World) : Prop := e = .returned (.tuple #[.agg (fcells (fcR l)), .bool (fcOk l)]) ∧ Below w.heap.size w w'
theorem tookFact_no {l : List UInt8} {w w' : World} (h : fcOk l = false) (hb : Below w.heap.size w w') : TookFact l w (.returned (.tuple #[.agg (fcells ⟨0, 0, 0, false, 0, 0, 0, 0, 0, 0, 0, 0, 0, 0⟩), .bool false])) w' := by
  refine ⟨?_, hb⟩
  simp [fcR, h, zeroFct]
theorem tookFact_yes {l : List UInt8} {f : Fct} {w w' : World} (h : fcOk l = true) (hf : f = rdFact l) (hb : Below w.heap.size w w') : TookFact l w (.returned (.tuple #[.agg (fcells f), .bool true])) w' := by
  refine ⟨?_, hb⟩
  simp [fcR, h, hf]
set_option maxRecDepth 100000 in
set_option maxHeartbeats 4000000 in
theorem takefact_any (v : Value) (l : List UInt8) (w : World) (hsl : Sl w.heap.size w v l) (hl : l.length ≤ 4611686018427387904) : Calls Try.prog 51 #[v] w (TookFact l w) := by
  obtain ⟨a, c, hv, hc, hx⟩ := id hsl
  subst hv
  clear hx
  obtain ⟨W, hW⟩ : ∃ W, W = w.alloc (.cells #[.int .i64 0, .int .i64 0, .int .i64 0, .bool false, .int .i64 0, .int .i64 0, .int .i64 0, .int .i64 0, .int .i64 0, .int .i64 0, .int .i64 0, .int .i64 0, .int .i64 0, .int .i64 0] 76) := ⟨_, rfl⟩
  have hz : BlkIs W w.heap.size 76 (fcells zeroFct) := by rw [hW]; exact BlkIs.new _ _ _
  have hbel : Below w.heap.size w W := by rw [hW]; exact (Below.refl _ _).alloc (Nat.le_refl _) _
  have HSL := Lib.hid ((hsl.below hbel).mono hbel.size)
  obtain ⟨F, hF⟩ : ∃ F, F = rdFact l := ⟨_, rfl⟩
  obtain ⟨m, hm⟩ : ∃ m, m = rdLen l := ⟨_, rfl⟩
  obtain ⟨k, hk⟩ : ∃ k, k = rdOk l := ⟨_, rfl⟩
  have HOK : Hid (fcOk l = (k && decide (m = (l.length : Int)))) := by unfold Hid fcOk; rw [hk, hm]
  have HR := Lib.hid (And.intro hF (And.intro hm hk))
  have HF := Lib.hid hF
  clear hF hm hk hsl
  obtain ⟨g0, g1, g2, g3, g4, g5, g6, g7, g8, g9, g10, g11, g12, g13⟩ := F
  go_enter Try.func51, Try.ntmps51
  go_wp2_with fail
  rw [← hW]
  clear hW
  refine (read_any _ l _ HSL.out hl).mono ?_
  rintro e w1 ⟨rfl, hb1⟩
  obtain ⟨q1, q2, q3⟩ := HR.out
  rw [← q1, ← q2, ← q3]
  clear q1 q2 q3 HR
  simp only [fcells]
  replace hz := (hz.below hb1 hz.lt).alloc (.cells #[.int .i64 g0, .int .i64 g1, .int .i64 g2, .bool g3, .int .i64 g4, .int .i64 g5, .int .i64 g6, .int .i64 g7, .int .i64 g8, .int .i64 g9, .int .i64 g10, .int .i64 g11, .int .i64 g12, .int .i64 g13] 76)
  replace hbel := bnext hbel hb1
  have hnew := BlkIs.new w1 76 #[.int .i64 g0, .int .i64 g1, .int .i64 g2, .bool g3, .int .i64 g4, .int .i64 g5, .int .i64 g6, .int .i64 g7, .int .i64 g8, .int .i64 g9, .int .i64 g10, .int .i64 g11, .int .i64 g12, .int .i64 g13]
  replace hbel := hbel.alloc hbel.size (.cells #[.int .i64 g0, .int .i64 g1, .int .i64 g2, .bool g3, .int .i64 g4, .int .i64 g5, .int .i64 g6, .int .i64 g7, .int .i64 g8, .int .i64 g9, .int .i64 g10, .int .i64 g11, .int .i64 g12, .int .i64 g13] 76)
  clear hb1
  have hcz : ∀ x, (w1.alloc (.cells #[.int .i64 g0, .int .i64 g1, .int .i64 g2, .bool g3, .int .i64 g4, .int .i64 g5, .int .i64 g6, .int .i64 g7, .int .i64 g8, .int .i64 g9, .int .i64 g10, .int .i64 g11, .int .i64 g12, .int .i64 g13] 76)).cell? ⟨w.heap.size, x, none⟩ = (#[.int .i64 0, .int .i64 0, .int .i64 0, .bool false, .int .i64 0, .int .i64 0, .int .i64 0, .int .i64 0, .int .i64 0, .int .i64 0, .int .i64 0, .int .i64 0, .int .i64 0, .int .i64 0] : Array Value)[x]? := hz.cell
  have hfz := hz.frozen
  have hcn := hnew.cell
  cases k
  · have hok : fcOk l = false := by rw [HOK.out]; rfl
    go_wp2
    refine bodyPost_ret (v := .tuple #[.agg (fcells ⟨0, 0, 0, false, 0, 0, 0, 0, 0, 0, 0, 0, 0, 0⟩), .bool false]) (results_cell2 Try.results51 _ _ w.heap.size 76 _ (0, 0) _ _ rfl rfl (f_put14 hz 0 0 0 false 0 0 0 0 0 0 0 0 0 0) Try.underlying76 rfl info_fact) rfl ?_
    exact tookFact_no hok (b_put14 hbel (Nat.le_refl _) 0 0 0 false 0 0 0 0 0 0 0 0 0 0)
  · by_cases hmm : m = (l.length : Int)
    · have hok : fcOk l = true := by rw [HOK.out]; simp [hmm]
      go_wp2
      refine bodyPost_ret (v := .tuple #[.agg (fcells ⟨g0, g1, g2, g3, g4, g5, g6, g7, g8, g9, g10, g11, g12, g13⟩), .bool true]) (results_cell2 Try.results51 _ _ w.heap.size 76 _ (0, 0) _ _ rfl rfl (f_put14 hz g0 g1 g2 g3 g4 g5 g6 g7 g8 g9 g10 g11 g12 g13) Try.underlying76 rfl info_fact) rfl ?_
      exact tookFact_yes hok HF.out (b_put14 hbel (Nat.le_refl _) g0 g1 g2 g3 g4 g5 g6 g7 g8 g9 g10 g11 g12 g13)
    · have hok : fcOk l = false := by rw [HOK.out]; simp [hmm]
      go_wp2
      refine bodyPost_ret (v := .tuple #[.agg (fcells ⟨0, 0, 0, false, 0, 0, 0, 0, 0, 0, 0, 0, 0, 0⟩), .bool false]) (results_cell2 Try.results51 _ _ w.heap.size 76 _ (0, 0) _ _ rfl rfl (f_put14 hz 0 0 0 false 0 0 0 0 0 0 0 0 0 0) Try.underlying76 rfl info_fact) rfl ?_
      exact tookFact_no hok (b_put14 hbel (Nat.le_refl _) 0 0 0 false 0 0 0 0 0 0 0 0 0 0)
set_option maxRecDepth 100000 in
set_option maxHeartbeats 4000000 in
theorem rtakefact_any (v : Value) (l : List UInt8) (w : World) (hsl : Sl w.heap.size w v l) (hl : l.length ≤ 4611686018427387904) : Calls Try.prog 52 #[v] w (TookFact l w) := by
  obtain ⟨a, c, hv, hc, hx⟩ := id hsl
  subst hv
  clear hx
  obtain ⟨W, hW⟩ : ∃ W, W = w.alloc (.cells #[.int .i64 0, .int .i64 0, .int .i64 0, .bool false, .int .i64 0, .int .i64 0, .int .i64 0, .int .i64 0, .int .i64 0, .int .i64 0, .int .i64 0, .int .i64 0, .int .i64 0, .int .i64 0] 76) := ⟨_, rfl⟩
  have hz : BlkIs W w.heap.size 76 (fcells zeroFct) := by rw [hW]; exact BlkIs.new _ _ _
  have hbel : Below w.heap.size w W := by rw [hW]; exact (Below.refl _ _).alloc (Nat.le_refl _) _
  have HSL := Lib.hid ((hsl.below hbel).mono hbel.size)
  obtain ⟨F, hF⟩ : ∃ F, F = rdFact l := ⟨_, rfl⟩
  obtain ⟨m, hm⟩ : ∃ m, m = rdLen l := ⟨_, rfl⟩
  obtain ⟨k, hk⟩ : ∃ k, k = rdOk l := ⟨_, rfl⟩
  have HOK : Hid (fcOk l = (k && decide (m = (l.length : Int)))) := by unfold Hid fcOk; rw [hk, hm]
  have HR := Lib.hid (And.intro hF (And.intro hm hk))
  have HF := Lib.hid hF
  clear hF hm hk hsl
  obtain ⟨g0, g1, g2, g3, g4, g5, g6, g7, g8, g9, g10, g11, g12, g13⟩ := F
  go_enter Try.func52, Try.ntmps52
  go_wp2_with fail
  rw [← hW]
  clear hW
  refine (rread_any _ l _ HSL.out hl).mono ?_
  rintro e w1 ⟨rfl, hb1⟩
  obtain ⟨q1, q2, q3⟩ := HR.out
  rw [← q1, ← q2, ← q3]
  clear q1 q2 q3 HR
  simp only [fcells]
  replace hz := (hz.below hb1 hz.lt).alloc (.cells #[.int .i64 g0, .int .i64 g1, .int .i64 g2, .bool g3, .int .i64 g4, .int .i64 g5, .int .i64 g6, .int .i64 g7, .int .i64 g8, .int .i64 g9, .int .i64 g10, .int .i64 g11, .int .i64 g12, .int .i64 g13] 76)
  replace hbel := bnext hbel hb1
  have hnew := BlkIs.new w1 76 #[.int .i64 g0, .int .i64 g1, .int .i64 g2, .bool g3, .int .i64 g4, .int .i64 g5, .int .i64 g6, .int .i64 g7, .int .i64 g8, .int .i64 g9, .int .i64 g10, .int .i64 g11, .int .i64 g12, .int .i64 g13]
  replace hbel := hbel.alloc hbel.size (.cells #[.int .i64 g0, .int .i64 g1, .int .i64 g2, .bool g3, .int .i64 g4, .int .i64 g5, .int .i64 g6, .int .i64 g7, .int .i64 g8, .int .i64 g9, .int .i64 g10, .int .i64 g11, .int .i64 g12, .int .i64 g13] 76)
  clear hb1
  have hcz : ∀ x, (w1.alloc (.cells #[.int .i64 g0, .int .i64 g1, .int .i64 g2, .bool g3, .int .i64 g4, .int .i64 g5, .int .i64 g6, .int .i64 g7, .int .i64 g8, .int .i64 g9, .int .i64 g10, .int .i64 g11, .int .i64 g12, .int .i64 g13] 76)).cell? ⟨w.heap.size, x, none⟩ = (#[.int .i64 0, .int .i64 0, .int .i64 0, .bool false, .int .i64 0, .int .i64 0, .int .i64 0, .int .i64 0, .int .i64 0, .int .i64 0, .int .i64 0, .int .i64 0, .int .i64 0, .int .i64 0] : Array Value)[x]? := hz.cell
  have hfz := hz.frozen
  have hcn := hnew.cell
  cases k
  · have hok : fcOk l = false := by rw [HOK.out]; rfl
    go_wp2
    refine bodyPost_ret (v := .tuple #[.agg (fcells ⟨0, 0, 0, false, 0, 0, 0, 0, 0, 0, 0, 0, 0, 0⟩), .bool false]) (results_cell2 Try.results52 _ _ w.heap.size 76 _ (0, 0) _ _ rfl rfl (f_put14 hz 0 0 0 false 0 0 0 0 0 0 0 0 0 0) Try.underlying76 rfl info_fact) rfl ?_
    exact tookFact_no hok (b_put14 hbel (Nat.le_refl _) 0 0 0 false 0 0 0 0 0 0 0 0 0 0)
  · by_cases hmm : m = (l.length : Int)
    · have hok : fcOk l = true := by rw [HOK.out]; simp [hmm]
      go_wp2
      refine bodyPost_ret (v := .tuple #[.agg (fcells ⟨g0, g1, g2, g3, g4, g5, g6, g7, g8, g9, g10, g11, g12, g13⟩), .bool true]) (results_cell2 Try.results52 _ _ w.heap.size 76 _ (0, 0) _ _ rfl rfl (f_put14 hz g0 g1 g2 g3 g4 g5 g6 g7 g8 g9 g10 g11 g12 g13) Try.underlying76 rfl info_fact) rfl ?_
      exact tookFact_yes hok HF.out (b_put14 hbel (Nat.le_refl _) g0 g1 g2 g3 g4 g5 g6 g7 g8 g9 g10 g11 g12 g13)
    · have hok : fcOk l = false := by rw [HOK.out]; simp [hmm]
      go_wp2
      refine bodyPost_ret (v := .tuple #[.agg (fcells ⟨0, 0, 0, false, 0, 0, 0, 0, 0, 0, 0, 0, 0, 0⟩), .bool false]) (results_cell2 Try.results52 _ _ w.heap.size 76 _ (0, 0) _ _ rfl rfl (f_put14 hz 0 0 0 false 0 0 0 0 0 0 0 0 0 0) Try.underlying76 rfl info_fact) rfl ?_
      exact tookFact_no hok (b_put14 hbel (Nat.le_refl _) 0 0 0 false 0 0 0 0 0 0 0 0 0 0)
end Go.Proofs.Ytkkjiihdmpngbaa
