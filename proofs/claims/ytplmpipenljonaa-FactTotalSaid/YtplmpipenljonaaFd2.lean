/-
  The contract of spoilt: it returns some fact.
-/
import Derived.Test.YtplmpipenljonaaFd1
import Derived.Deep.DeepCutAuto
import Derived.Deep.CutBlock
namespace Go.Proofs.Ytplmpipenljonaa
open Go.RowKit

/-- Some fact is returned. -/
def SpPost (w : World) (e : Ending) (w' : World) : Prop := ∃ f : Fct, e = .returned (.agg (fcells f)) ∧ Below w.heap.size w w'

def SSt (w : World) (nf : Nat) (wr : World) : Prop := ∃ f : Fct, BlkIs wr (w.heap.size + 1) 31 zeroF ∧ BlkIs wr nf 31 (fcells f) ∧ Below w.heap.size w wr

theorem ss_lit {w w1 : World} (hz : BlkIs w1 (w.heap.size + 1) 31 zeroF) (hb : Below w.heap.size w w1) (hn : w.heap.size ≤ w1.heap.size) (g0 g1 g2 : Int) (g3 : Bool) (g4 g5 g6 g7 g8 g9 g10 g11 g12 g13 : Int) :
    SSt w w1.heap.size (w1.alloc (.cells #[.int .i64 g0, .int .i64 g1, .int .i64 g2, .bool g3, .int .i64 g4, .int .i64 g5, .int .i64 g6, .int .i64 g7, .int .i64 g8, .int .i64 g9, .int .i64 g10, .int .i64 g11, .int .i64 g12, .int .i64 g13] 31)) :=
  ⟨⟨g0, g1, g2, g3, g4, g5, g6, g7, g8, g9, g10, g11, g12, g13⟩, hz.alloc _, BlkIs.new _ _ _, hb.alloc hn _⟩

set_option maxRecDepth 100000 in
set_option maxHeartbeats 4000000 in
theorem spoilt_any (r0 r1 r2 : Int) (r3 : Bool) (r4 r5 r6 r7 r8 r9 r10 r11 r12 kind n : Int) (w : World) (z1 : -9223372036854775808 ≤ r9) (z2 : r9 ≤ 9223372036854775807) :
    Calls Try.prog 14 #[.agg #[.int .i64 r0, .int .i64 r1, .int .i64 r2, .bool r3, .int .i64 r4, .int .i64 r5, .int .i64 r6, .int .i64 r7, .int .i64 r8, .int .i64 r9, .int .i64 r10, .int .i64 r11, .int .i64 r12], .int .i64 kind, .int .i64 n] w (SpPost w) := by
  obtain ⟨p1, p2⟩ := emod_bd n 150 (by decide)
  go_enter Try.func14, Try.ntmps14
  go_upto_if 12 with (go_at_call 17; refine (make_any r0 r1 r2 r3 r4 r5 r6 r7 r8 r9 r10 r11 r12 _ z1 z2).mono ?_; rintro e w1 ⟨⟨g0, g1, g2, g3, g4, g5, g6, g7, g8, g9, g10, g11, g12, g13⟩, rfl, hv, hb1⟩; simp only [fcells])
  go_cut [2] (fun s2 wx => ∃ m : Int, s2 = .int .i64 m ∧ wx = w1.alloc (.cells #[.int .i64 g0, .int .i64 g1, .int .i64 g2, .bool g3, .int .i64 g4, .int .i64 g5, .int .i64 g6, .int .i64 g7, .int .i64 g8, .int .i64 g9, .int .i64 g10, .int .i64 g11, .int .i64 g12, .int .i64 g13] 31))
  case first =>
    go_wp2_with (go_at_call 10; refine (pick_any _ _ _ (by decide) (by decide)).mono ?_; rintro e w' ⟨rfl, rfl⟩)
    all_goals
      go_meet
      exact ⟨_, rfl, rfl⟩
  case rest =>
    obtain ⟨m, rfl, rfl⟩ := hcut
    clear p1 p2
    have hn : w.heap.size + 1 < w1.heap.size := by have := hb1.size; simp at this; omega
    have hz1 : BlkIs w1 (w.heap.size + 1) 31 zeroF := ((BlkIs.newAt _ _ _ _ (by simp)) : BlkIs _ (w.heap.size + 1) _ zeroF).below hb1 (by simp)
    have hbb : Below w.heap.size w w1 := (((Below.refl _ _).alloc (Nat.le_refl _) _).alloc (by simp) _).trans (hb1.mono (by simp; omega))
    clear hb1 hv
    obtain ⟨q1, q2⟩ := emod_bd kind 30 (by decide)
    obtain ⟨s1, s2⟩ := emod_bd m 4 (by decide)
    obtain ⟨t1, t2⟩ := emod_bd m 3 (by decide)
    go_upto_block 0 with (go_at_call 10; refine (pick_any _ _ _ (by decide) (by decide)).mono ?_; rintro e w' ⟨rfl, rfl⟩)
    go_cut [] (fun wx => SSt w w1.heap.size wx)
    case first =>
      go_wp2_with (go_at_call 10; refine (pick_any _ _ _ (by decide) (by decide)).mono ?_; rintro e w' ⟨rfl, rfl⟩)
      all_goals
        go_meet
        go_light
        exact ss_lit hz1 hbb (by omega) _ _ _ _ _ _ _ _ _ _ _ _ _ _
    case rest =>
      obtain ⟨⟨h0, h1, h2, h3, h4, h5, h6, h7, h8, h9, h10, h11, h12, h13⟩, hz, hf, hb⟩ := hcut
      have hcf : ∀ x, wc.cell? ⟨w1.heap.size, x, none⟩ = (#[.int .i64 h0, .int .i64 h1, .int .i64 h2, .bool h3, .int .i64 h4, .int .i64 h5, .int .i64 h6, .int .i64 h7, .int .i64 h8, .int .i64 h9, .int .i64 h10, .int .i64 h11, .int .i64 h12, .int .i64 h13] : Array Value)[x]? := hf.cell
      have hcz : ∀ x, wc.cell? ⟨w.heap.size + 1, x, none⟩ = (#[.int .i64 0, .int .i64 0, .int .i64 0, .bool false, .int .i64 0, .int .i64 0, .int .i64 0, .int .i64 0, .int .i64 0, .int .i64 0, .int .i64 0, .int .i64 0, .int .i64 0, .int .i64 0] : Array Value)[x]? := hz.cell
      have hfz := hz.frozen
      go_wp2
      refine bodyPost_ret (v := .agg (fcells ⟨h0, h1, h2, h3, h4, h5, h6, h7, h8, h9, h10, h11, h12, h13⟩)) (results_cell_row Try.results14 _ _ (w.heap.size + 1) 31 _ (0, 0) _ rfl (z_put14 hz h0 h1 h2 h3 h4 h5 h6 h7 h8 h9 h10 h11 h12 h13) Try.underlying31 rfl info_fact) rfl ?_
      exact ⟨_, rfl, b_put14 hb (by omega) h0 h1 h2 h3 h4 h5 h6 h7 h8 h9 h10 h11 h12 h13⟩
end Go.Proofs.Ytplmpipenljonaa
