/-
  DocumentMoneyTakes: Request, Remittance and Notice agree with the reference for bytes of any content. No conditions.
-/
import Derived.Test.YtkkjiihdmpngbaaLeq
import Derived.Test.YtkkjiihdmpngbaaLfr
import Derived.SizedLaws
import Derived.Test.YtkkjiihdmpngbaaDi1
import Derived.Test.YtkkjiihdmpngbaaLbyte
namespace Go.Proofs.Ytkkjiihdmpngbaa
open Go.ChangeShapes Go.WideShapes Go.ChangeAt Go.RowKit
set_option linter.unusedVariables false

theorem ms_load_row {P : Program} {ops : Array Oper} {Q : Exit → Act → World → Prop} {S : List Nat} {rest : List (Bool × Oper)} {o : Oper} {a : Act} {w : World} (hgd : o.guard = none) (ty : TypeId) (x : Operand) (ho : o.op = .load ty x)
    (g : Nat) (hx : a.eval x = .pointer (some ⟨g, 0, none⟩)) (t : TypeId) (cs : Array Value) (d : TypeDesc) (hg : BlkIs w g t cs) (hn : g ∉ S)
    (hu : P.underlying ty = some d) (hd : (match d with | .struct _ | .array _ _ => true | _ => false) = true) (hi : (P.info? ty).map (·.size) = some cs.size)
    (h : wpMs P ops Q S rest (a.put o.dst (.agg cs)) w) : wpMs P ops Q S ((false, o) :: rest) a w := by
  refine ms_quiet ?_
  have hw : Region.wanted o (yielded ops a.tmps) = true := by simp [Region.wanted, hgd]
  unfold wpQuiet
  rw [if_pos hw]
  refine ⟨.agg cs, ?_, h⟩
  rintro _ ⟨y, rfl⟩
  have hy := hg.kept y.h hn
  unfold Oper.quietAt execOp
  simp only [ho, hx, Instr.loadAt, Instr.sureAddr, Sem.run_bind, Sem.run_pure, Result.andThen_ok, run_loadVar_row y.x g t ty cs (0, 0) d hy hu hd hi]
  exact ⟨rfl, rfl⟩
theorem Sl.keep {B : Nat} {w w' : World} {g n c : Nat} {X : List UInt8} (h : Sl B w (.slice (some ⟨g, 0, none⟩) n c) X) (he : w'.heap[g]? = w.heap[g]?) : Sl B w' (.slice (some ⟨g, 0, none⟩) n c) X := by
  obtain ⟨a, c', e, hc, h⟩ := h
  refine ⟨a, c', e, hc, fun hl => ?_⟩
  obtain ⟨b', o', ha, hb, hcell⟩ := h hl
  refine ⟨b', o', ha, hb, fun i v hv => ?_⟩
  have e1 : b' = g := by
    injection e with e1
    rw [ha] at e1
    injection e1 with e1
    injection e1 with e1 _
    exact e1.symm
  subst e1
  rw [World.cell?_of_block (a := ⟨b', o' + i, none⟩) he]
  exact hcell i v hv

theorem request_blk {wr : World} {g g' : Nat} (h : g' ≠ g) (g0 g1 g2 : Int) : (((wr.setCell ⟨g, 0, none⟩ (.int .i64 g0)).setCell ⟨g, 1, none⟩ (.int .i64 g1)).setCell ⟨g, 2, none⟩ (.int .i64 g2)).heap[g']? = wr.heap[g']? :=
  (Below.heap_setCell _ _ _ g' h).trans ((Below.heap_setCell _ _ _ g' h).trans (Below.heap_setCell _ _ _ g' h))
theorem remittance_blk {wr : World} {g g' : Nat} (h : g' ≠ g) (g0 g1 g2 g3 g4 g5 : Int) : ((((((wr.setCell ⟨g, 0, none⟩ (.int .i64 g0)).setCell ⟨g, 1, none⟩ (.int .i64 g1)).setCell ⟨g, 2, none⟩ (.int .i64 g2)).setCell ⟨g, 3, none⟩ (.int .i64 g3)).setCell ⟨g, 4, none⟩ (.int .i64 g4)).setCell ⟨g, 5, none⟩ (.int .i64 g5)).heap[g']? = wr.heap[g']? :=
  (Below.heap_setCell _ _ _ g' h).trans ((Below.heap_setCell _ _ _ g' h).trans ((Below.heap_setCell _ _ _ g' h).trans ((Below.heap_setCell _ _ _ g' h).trans ((Below.heap_setCell _ _ _ g' h).trans (Below.heap_setCell _ _ _ g' h)))))
theorem notice_blk {wr : World} {g g' : Nat} (h : g' ≠ g) (g0 g1 g2 g3 : Int) : ((((wr.setCell ⟨g, 0, none⟩ (.int .i64 g0)).setCell ⟨g, 1, none⟩ (.int .i64 g1)).setCell ⟨g, 2, none⟩ (.int .i64 g2)).setCell ⟨g, 3, none⟩ (.int .i64 g3)).heap[g']? = wr.heap[g']? :=
  (Below.heap_setCell _ _ _ g' h).trans ((Below.heap_setCell _ _ _ g' h).trans ((Below.heap_setCell _ _ _ g' h).trans (Below.heap_setCell _ _ _ g' h)))

set_option maxRecDepth 100000 in
set_option maxHeartbeats 4000000 in
theorem lmt_walk (a : Option Addr) (c : Nat) (l : List UInt8) (z0 z1 z2 z3 z4 z5 : Int) (z6 : Bool) (z7 z8 z9 z10 z11 z12 z13 z14 z15 z16 z17 z18 z19 z20 : Int) (at_ by_ : Int) (w : World) (r12 : -9223372036854775808 ≤ z12 ∧ z12 ≤ 9223372036854775807) (r18 : -9223372036854775808 ≤ z18 ∧ z18 ≤ 9223372036854775807) (r19 : -9223372036854775808 ≤ z19 ∧ z19 ≤ 9223372036854775807) (r20 : -9223372036854775808 ≤ z20 ∧ z20 ≤ 9223372036854775807) (hsl : Sl w.heap.size w (.slice a l.length c) l) :
    Calls Try.prog 12 #[.slice a l.length c, .agg #[.int .i64 z0, .int .i64 z1, .int .i64 z2, .int .i64 z3, .int .i64 z4, .int .i64 z5, .bool z6, .int .i64 z7, .int .i64 z8, .int .i64 z9, .int .i64 z10, .int .i64 z11, .int .i64 z12, .int .i64 z13, .int .i64 z14, .int .i64 z15, .int .i64 z16, .int .i64 z17, .int .i64 z18, .int .i64 z19, .int .i64 z20], .int .i64 at_, .int .i64 by_] w fun e w' => e = .returned (.bool true) ∧ Below w.heap.size w w' := by
  have hbel : Below w.heap.size w (w.alloc (.cells #[.int .i64 z0, .int .i64 z1, .int .i64 z2, .int .i64 z3, .int .i64 z4, .int .i64 z5, .bool z6, .int .i64 z7, .int .i64 z8, .int .i64 z9, .int .i64 z10, .int .i64 z11, .int .i64 z12, .int .i64 z13, .int .i64 z14, .int .i64 z15, .int .i64 z16, .int .i64 z17, .int .i64 z18, .int .i64 z19, .int .i64 z20] 32)) := (Below.refl _ _).alloc (Nat.le_refl _) _
  have hbox := BlkIs.new w 32 #[.int .i64 z0, .int .i64 z1, .int .i64 z2, .int .i64 z3, .int .i64 z4, .int .i64 z5, .bool z6, .int .i64 z7, .int .i64 z8, .int .i64 z9, .int .i64 z10, .int .i64 z11, .int .i64 z12, .int .i64 z13, .int .i64 z14, .int .i64 z15, .int .i64 z16, .int .i64 z17, .int .i64 z18, .int .i64 z19, .int .i64 z20]
  have HSL := Lib.hid hsl
  clear hsl
  have E0 : Hid (∀ (i0 i1 i2 : Int) (w : World), (Op.equalIn 10000 48 (.agg #[.int .i64 i0, .int .i64 i1, .int .i64 i2]) (.agg #[.int .i64 i0, .int .i64 i1, .int .i64 i2])).run Try.prog w = .ok true w) := eqr_request
  have E1 : Hid (∀ (i0 i1 i2 i3 i4 i5 : Int) (w : World), (Op.equalIn 10000 52 (.agg #[.int .i64 i0, .int .i64 i1, .int .i64 i2, .int .i64 i3, .int .i64 i4, .int .i64 i5]) (.agg #[.int .i64 i0, .int .i64 i1, .int .i64 i2, .int .i64 i3, .int .i64 i4, .int .i64 i5])).run Try.prog w = .ok true w) := eqr_remittance
  have E2 : Hid (∀ (i0 i1 i2 i3 : Int) (w : World), (Op.equalIn 10000 56 (.agg #[.int .i64 i0, .int .i64 i1, .int .i64 i2, .int .i64 i3]) (.agg #[.int .i64 i0, .int .i64 i1, .int .i64 i2, .int .i64 i3])).run Try.prog w = .ok true w) := eqr_notice
  obtain ⟨qa0, hqa0⟩ : ∃ x, x = requestI0 l := ⟨_, rfl⟩
  obtain ⟨qa1, hqa1⟩ : ∃ x, x = requestI1 l := ⟨_, rfl⟩
  obtain ⟨qa2, hqa2⟩ : ∃ x, x = requestI2 l := ⟨_, rfl⟩
  obtain ⟨qak, hqak⟩ : ∃ x, x = requestOk l := ⟨_, rfl⟩
  have Hqa := Lib.hid (And.intro hqak <| And.intro hqa0 <| And.intro hqa1 <| hqa2)
  clear hqak hqa0 hqa1 hqa2
  obtain ⟨sa0, hsa0⟩ : ∃ x, x = remittanceI0 l := ⟨_, rfl⟩
  obtain ⟨sa1, hsa1⟩ : ∃ x, x = remittanceI1 l := ⟨_, rfl⟩
  obtain ⟨sa2, hsa2⟩ : ∃ x, x = remittanceI2 l := ⟨_, rfl⟩
  obtain ⟨sa3, hsa3⟩ : ∃ x, x = remittanceI3 l := ⟨_, rfl⟩
  obtain ⟨sa4, hsa4⟩ : ∃ x, x = remittanceI4 l := ⟨_, rfl⟩
  obtain ⟨sa5, hsa5⟩ : ∃ x, x = remittanceI5 l := ⟨_, rfl⟩
  obtain ⟨sak, hsak⟩ : ∃ x, x = remittanceOk l := ⟨_, rfl⟩
  have Hsa := Lib.hid (And.intro hsak <| And.intro hsa0 <| And.intro hsa1 <| And.intro hsa2 <| And.intro hsa3 <| And.intro hsa4 <| hsa5)
  clear hsak hsa0 hsa1 hsa2 hsa3 hsa4 hsa5
  obtain ⟨na0, hna0⟩ : ∃ x, x = noticeI0 l := ⟨_, rfl⟩
  obtain ⟨na1, hna1⟩ : ∃ x, x = noticeI1 l := ⟨_, rfl⟩
  obtain ⟨na2, hna2⟩ : ∃ x, x = noticeI2 l := ⟨_, rfl⟩
  obtain ⟨na3, hna3⟩ : ∃ x, x = noticeI3 l := ⟨_, rfl⟩
  obtain ⟨nak, hnak⟩ : ∃ x, x = noticeOk l := ⟨_, rfl⟩
  have Hna := Lib.hid (And.intro hnak <| And.intro hna0 <| And.intro hna1 <| And.intro hna2 <| hna3)
  clear hnak hna0 hna1 hna2 hna3
  generalize l.length = ln at *
  go_enter Try.func12, Try.ntmps12
  go_wp2_with fail
  refine (takeRequest_any _ _ _ ((HSL.out.below hbel).mono hbel.size)).mono ?_
  rintro e w_t0 ⟨rfl, hb⟩
  obtain ⟨h0, h1, h2, h3⟩ := Hqa.out
  rw [← h0, ← h1, ← h2, ← h3]
  clear h0 h1 h2 h3
  replace hbox := hbox.below hb hbox.lt
  replace hbel := bnext hbel hb
  clear hb
  have s_0 := hbel.size
  have b_t0 := BlkIs.new w_t0 48 #[.int .i64 qa0, .int .i64 qa1, .int .i64 qa2]
  have hA : Below w_t0.heap.size w_t0 (w_t0.alloc (.cells #[.int .i64 qa0, .int .i64 qa1, .int .i64 qa2] 48)) := (Below.refl _ _).alloc (Nat.le_refl _) _
  replace hbox := hbox.below hA hbox.lt
  replace hbel := bnext hbel hA
  clear hA
  have c_b_t0 := b_t0.cell
  go_wp2_with fail
  clear c_b_t0
  refine (rtakeRequest_any _ _ _ ((HSL.out.below hbel).mono hbel.size)).mono ?_
  rintro e w_r0 ⟨rfl, hb⟩
  obtain ⟨h0, h1, h2, h3⟩ := Hqa.out
  rw [← h0, ← h1, ← h2, ← h3]
  clear h0 h1 h2 h3
  replace hbox := hbox.below hb hbox.lt
  replace b_t0 := b_t0.below hb b_t0.lt
  replace hbel := bnext hbel hb
  clear hb
  have n_b_t0 := b_t0.lt
  have b_r0 := BlkIs.new w_r0 48 #[.int .i64 qa0, .int .i64 qa1, .int .i64 qa2]
  have hA : Below w_r0.heap.size w_r0 (w_r0.alloc (.cells #[.int .i64 qa0, .int .i64 qa1, .int .i64 qa2] 48)) := (Below.refl _ _).alloc (Nat.le_refl _) _
  replace hbox := hbox.below hA hbox.lt
  replace b_t0 := b_t0.below hA b_t0.lt
  replace hbel := bnext hbel hA
  clear hA
  have c_b_t0 := b_t0.cell
  have c_b_r0 := b_r0.cell
  go_wp2_with fail
  clear c_b_t0
  clear c_b_r0
  refine (takeRemittance_any _ _ _ ((HSL.out.below hbel).mono hbel.size)).mono ?_
  rintro e w_t1 ⟨rfl, hb⟩
  obtain ⟨h0, h1, h2, h3, h4, h5, h6⟩ := Hsa.out
  rw [← h0, ← h1, ← h2, ← h3, ← h4, ← h5, ← h6]
  clear h0 h1 h2 h3 h4 h5 h6
  replace hbox := hbox.below hb hbox.lt
  replace b_t0 := b_t0.below hb b_t0.lt
  replace b_r0 := b_r0.below hb b_r0.lt
  replace hbel := bnext hbel hb
  clear hb
  have n_b_r0 := b_r0.lt
  have b_t1 := BlkIs.new w_t1 52 #[.int .i64 sa0, .int .i64 sa1, .int .i64 sa2, .int .i64 sa3, .int .i64 sa4, .int .i64 sa5]
  have hA : Below w_t1.heap.size w_t1 (w_t1.alloc (.cells #[.int .i64 sa0, .int .i64 sa1, .int .i64 sa2, .int .i64 sa3, .int .i64 sa4, .int .i64 sa5] 52)) := (Below.refl _ _).alloc (Nat.le_refl _) _
  replace hbox := hbox.below hA hbox.lt
  replace b_t0 := b_t0.below hA b_t0.lt
  replace b_r0 := b_r0.below hA b_r0.lt
  replace hbel := bnext hbel hA
  clear hA
  have c_b_t0 := b_t0.cell
  have c_b_r0 := b_r0.cell
  have c_b_t1 := b_t1.cell
  go_wp2_with fail
  clear c_b_t0
  clear c_b_r0
  clear c_b_t1
  refine (rtakeRemittance_any _ _ _ ((HSL.out.below hbel).mono hbel.size)).mono ?_
  rintro e w_r1 ⟨rfl, hb⟩
  obtain ⟨h0, h1, h2, h3, h4, h5, h6⟩ := Hsa.out
  rw [← h0, ← h1, ← h2, ← h3, ← h4, ← h5, ← h6]
  clear h0 h1 h2 h3 h4 h5 h6
  replace hbox := hbox.below hb hbox.lt
  replace b_t0 := b_t0.below hb b_t0.lt
  replace b_r0 := b_r0.below hb b_r0.lt
  replace b_t1 := b_t1.below hb b_t1.lt
  replace hbel := bnext hbel hb
  clear hb
  have n_b_t1 := b_t1.lt
  have b_r1 := BlkIs.new w_r1 52 #[.int .i64 sa0, .int .i64 sa1, .int .i64 sa2, .int .i64 sa3, .int .i64 sa4, .int .i64 sa5]
  have hA : Below w_r1.heap.size w_r1 (w_r1.alloc (.cells #[.int .i64 sa0, .int .i64 sa1, .int .i64 sa2, .int .i64 sa3, .int .i64 sa4, .int .i64 sa5] 52)) := (Below.refl _ _).alloc (Nat.le_refl _) _
  replace hbox := hbox.below hA hbox.lt
  replace b_t0 := b_t0.below hA b_t0.lt
  replace b_r0 := b_r0.below hA b_r0.lt
  replace b_t1 := b_t1.below hA b_t1.lt
  replace hbel := bnext hbel hA
  clear hA
  have c_b_t0 := b_t0.cell
  have c_b_r0 := b_r0.cell
  have c_b_t1 := b_t1.cell
  have c_b_r1 := b_r1.cell
  go_wp2_with fail
  clear c_b_t0
  clear c_b_r0
  clear c_b_t1
  clear c_b_r1
  refine (takeNotice_any _ _ _ ((HSL.out.below hbel).mono hbel.size)).mono ?_
  rintro e w_t2 ⟨rfl, hb⟩
  obtain ⟨h0, h1, h2, h3, h4⟩ := Hna.out
  rw [← h0, ← h1, ← h2, ← h3, ← h4]
  clear h0 h1 h2 h3 h4
  replace hbox := hbox.below hb hbox.lt
  replace b_t0 := b_t0.below hb b_t0.lt
  replace b_r0 := b_r0.below hb b_r0.lt
  replace b_t1 := b_t1.below hb b_t1.lt
  replace b_r1 := b_r1.below hb b_r1.lt
  replace hbel := bnext hbel hb
  clear hb
  have n_b_r1 := b_r1.lt
  have b_t2 := BlkIs.new w_t2 56 #[.int .i64 na0, .int .i64 na1, .int .i64 na2, .int .i64 na3]
  have hA : Below w_t2.heap.size w_t2 (w_t2.alloc (.cells #[.int .i64 na0, .int .i64 na1, .int .i64 na2, .int .i64 na3] 56)) := (Below.refl _ _).alloc (Nat.le_refl _) _
  replace hbox := hbox.below hA hbox.lt
  replace b_t0 := b_t0.below hA b_t0.lt
  replace b_r0 := b_r0.below hA b_r0.lt
  replace b_t1 := b_t1.below hA b_t1.lt
  replace b_r1 := b_r1.below hA b_r1.lt
  replace hbel := bnext hbel hA
  clear hA
  have c_b_t0 := b_t0.cell
  have c_b_r0 := b_r0.cell
  have c_b_t1 := b_t1.cell
  have c_b_r1 := b_r1.cell
  have c_b_t2 := b_t2.cell
  go_wp2_with fail
  clear c_b_t0
  clear c_b_r0
  clear c_b_t1
  clear c_b_r1
  clear c_b_t2
  refine (rtakeNotice_any _ _ _ ((HSL.out.below hbel).mono hbel.size)).mono ?_
  rintro e w_r2 ⟨rfl, hb⟩
  obtain ⟨h0, h1, h2, h3, h4⟩ := Hna.out
  rw [← h0, ← h1, ← h2, ← h3, ← h4]
  clear h0 h1 h2 h3 h4
  replace hbox := hbox.below hb hbox.lt
  replace b_t0 := b_t0.below hb b_t0.lt
  replace b_r0 := b_r0.below hb b_r0.lt
  replace b_t1 := b_t1.below hb b_t1.lt
  replace b_r1 := b_r1.below hb b_r1.lt
  replace b_t2 := b_t2.below hb b_t2.lt
  replace hbel := bnext hbel hb
  clear hb
  have n_b_t2 := b_t2.lt
  have b_r2 := BlkIs.new w_r2 56 #[.int .i64 na0, .int .i64 na1, .int .i64 na2, .int .i64 na3]
  have hA : Below w_r2.heap.size w_r2 (w_r2.alloc (.cells #[.int .i64 na0, .int .i64 na1, .int .i64 na2, .int .i64 na3] 56)) := (Below.refl _ _).alloc (Nat.le_refl _) _
  replace hbox := hbox.below hA hbox.lt
  replace b_t0 := b_t0.below hA b_t0.lt
  replace b_r0 := b_r0.below hA b_r0.lt
  replace b_t1 := b_t1.below hA b_t1.lt
  replace b_r1 := b_r1.below hA b_r1.lt
  replace b_t2 := b_t2.below hA b_t2.lt
  replace hbel := bnext hbel hA
  clear hA
  have c_b_t0 := b_t0.cell
  have c_b_r0 := b_r0.cell
  have c_b_t1 := b_t1.cell
  have c_b_r1 := b_r1.cell
  have c_b_t2 := b_t2.cell
  have c_b_r2 := b_r2.cell
  go_wp2_with fail
  clear c_b_t0
  clear c_b_r0
  clear c_b_t1
  clear c_b_r1
  clear c_b_t2
  clear c_b_r2
  refine (awake_any _).mono ?_
  rintro e w_a ⟨rfl, hb⟩
  replace hbox := hbox.below hb hbox.lt
  replace b_t0 := b_t0.below hb b_t0.lt
  replace b_r0 := b_r0.below hb b_r0.lt
  replace b_t1 := b_t1.below hb b_t1.lt
  replace b_r1 := b_r1.below hb b_r1.lt
  replace b_t2 := b_t2.below hb b_t2.lt
  replace b_r2 := b_r2.below hb b_r2.lt
  replace hbel := bnext hbel hb
  clear hb
  have c_b_t0 := b_t0.cell
  have c_b_r0 := b_r0.cell
  have c_b_t1 := b_t1.cell
  have c_b_r1 := b_r1.cell
  have c_b_t2 := b_t2.cell
  have c_b_r2 := b_r2.cell
  have e0 := E0.out qa0 qa1 qa2
  have e1 := E1.out sa0 sa1 sa2 sa3 sa4 sa5
  have e2 := E2.out na0 na1 na2 na3
  go_wp2_with fail
  clear c_b_t0
  clear c_b_r0
  clear c_b_t1
  clear c_b_r1
  clear c_b_t2
  clear c_b_r2
  clear e0 e1 e2
  have n_b_r2 := b_r2.lt
  refine wp_region_ms [] [3, 7, 8] [0, 1, 2, 5, 6, 3, 4, 7, 8, 9] (by kernel_rfl) (by kernel_rfl) rfl (by decide) (by kernel_rfl) (fun _ _ _ _ _ h => h) ?_
  simp only [marked, List.getElem?_cons_zero, List.getElem?_cons_succ, List.contains_cons, List.contains_nil, Nat.reduceBEq, Bool.or_false, Bool.or_true, BEq.rfl]
  replace hbox := hbox.drew
  replace b_t0 := b_t0.drew
  replace b_r0 := b_r0.drew
  replace b_t1 := b_t1.drew
  replace b_r1 := b_r1.drew
  replace b_t2 := b_t2.drew
  replace b_r2 := b_r2.drew
  replace hbel := hbel.drew
  replace n_b_r2 : _ < w_a.drew.heap.size := n_b_r2
  generalize w_a.drew = W0 at *
  have hcb := hbox.cell
  have lb := hbox.lt
  refine ms_load_row rfl 32 (.tmp 5) rfl w.heap.size rfl _ _ _ hbox (by simp) Try.underlying32 rfl info_raw ?_
  go_simp
  iterate 4 (refine ms_quiet ?_; go_big_quiet_step (fail); refine wpQuiet_nil ?_)
  refine ms_loud rfl ?_
  intro K hK
  go_simp
  go_at_call 20
  refine (mod2_any z0 3 _ (by decide) (by decide)).mono ?_
  rintro e w' ⟨rfl, rfl⟩
  refine hK _ _ (KeptBut.refl _ _) ?_
  clear hK K
  obtain ⟨m3x, m3y⟩ := emod_bd z0 3 (by decide)
  generalize z0 % 3 = m3 at *
  iterate 1 (refine ms_quiet ?_; go_big_quiet_step (fail); refine wpQuiet_nil ?_)
  refine ms_loud rfl ?_
  intro K hK
  go_simp
  go_at_call 20
  refine (mod2_any z18 6 _ (by decide) (by decide)).mono ?_
  rintro e w' ⟨rfl, rfl⟩
  refine hK _ _ (KeptBut.refl _ _) ?_
  clear hK K
  obtain ⟨m6x, m6y⟩ := emod_bd z18 6 (by decide)
  generalize z18 % 6 = m6 at *
  clear hcb lb
  refine ms_loud rfl ?_
  intro K hK
  go_simp
  go_at_call 36
  refine (lbody_any z0 z1 z2 z3 z4 z5 z6 z7 z8 z9 z10 z11 z12 z13 z14 z15 z16 z17 z18 z19 z20 (3 + m3) m6 _ (by omega) (by omega) (by omega) (by omega) r12 r18 r19 r20).mono ?_
  rintro e w_b ⟨v_b, X, rfl, ho, hbody, hb⟩
  refine hK _ _ (KeptBut.of_below hb) ?_
  clear hK K
  have hlen := bodyB_len hbody
  clear hbody
  obtain ⟨gx, cx, hgx, hgb, hgc, hgl⟩ := own_some ho (by omega)
  subst hgx
  have HFR := Lib.hid (own_free ho)
  have QX := Lib.hid (Part1.of ho)
  clear ho
  replace hbox := hbox.below hb hbox.lt
  replace b_t0 := b_t0.below hb b_t0.lt
  replace b_r0 := b_r0.below hb b_r0.lt
  replace b_t1 := b_t1.below hb b_t1.lt
  replace b_r1 := b_r1.below hb b_r1.lt
  replace b_t2 := b_t2.below hb b_t2.lt
  replace b_r2 := b_r2.below hb b_r2.lt
  replace hbel := bnext hbel hb
  clear hb
  obtain ⟨xn, hxn⟩ : ∃ xn, xn = X.length := ⟨_, rfl⟩
  rw [← hxn] at hlen hgc QX ⊢
  have HXN := Lib.hid hxn
  clear hxn
  obtain ⟨hxlo, hxhi⟩ := hlen
  iterate 1 (refine ms_quiet ?_; go_big_quiet_step (fail); refine wpQuiet_nil ?_)
  refine ms_nil ?_
  have hx0 : ((xn : Int) == 0) = false := beq_eq_false_iff_ne.2 (by omega)
  have hx1 : (0 : Int) < (xn : Int) := by omega
  go_wp2_with fail
  refine (mod2_any at_ (xn : Int) _ (by omega) (by omega)).mono ?_
  rintro e w' ⟨rfl, rfl⟩
  obtain ⟨p1, p2⟩ := emod_bd at_ (xn : Int) (by omega)
  obtain ⟨j, hj⟩ := Int.eq_ofNat_of_zero_le p1
  rw [hj] at p1 p2 ⊢
  clear hj
  have hjl : j < X.length := by have := HXN.out; omega
  have hcj : w_b.cell? ⟨gx, j, none⟩ = some (.int .u8 (X[j].toNat : Int)) := by
    obtain ⟨aa, cc, he, _, hcc⟩ := QX.out.1
    obtain ⟨b, o, ha, _, hcell⟩ := hcc (by omega)
    injection he with he1
    rw [ha] at he1
    injection he1 with he1
    injection he1 with he2 he3
    subst he2 he3
    have := hcell j X[j] (List.getElem?_eq_getElem hjl)
    rw [Nat.zero_add] at this
    exact this
  have hfj := HFR.out j
  go_wp2_with fail
  clear hcj hfj hbox HFR
  obtain ⟨u, hu⟩ : ∃ u : UInt8, by_ % 256 = (u.toNat : Int) := ⟨UInt8.ofNat (by_ % 256).toNat, by rw [UInt8.toNat_ofNat']; omega⟩
  rw [hu]
  clear hu
  have sX : Sl w_b.heap.size (w_b.setCell ⟨gx, j, none⟩ (.int .u8 (u.toNat : Int))) (.slice (some ⟨gx, 0, none⟩) xn cx) (X.set j u) := by
    have h := QX.out.1
    rw [HXN.out] at h ⊢
    exact h.set hjl u
  clear QX
  have hws : w_b.heap.size ≤ (w_b.setCell ⟨gx, j, none⟩ (.int .u8 (u.toNat : Int))).heap.size := (grown_set (w := w_b) (g := gx) (o := j) (.int .u8 (u.toNat : Int))).size
  have SX := Lib.hid (sX.mono hws)
  replace hgl : gx < (w_b.setCell ⟨gx, j, none⟩ (.int .u8 (u.toNat : Int))).heap.size := Nat.lt_of_lt_of_le hgl hws
  clear sX hws HXN
  replace b_t0 := b_t0.far (p := ⟨gx, j, none⟩) (by show _ ≠ gx; omega) (.int .u8 (u.toNat : Int))
  replace b_r0 := b_r0.far (p := ⟨gx, j, none⟩) (by show _ ≠ gx; omega) (.int .u8 (u.toNat : Int))
  replace b_t1 := b_t1.far (p := ⟨gx, j, none⟩) (by show _ ≠ gx; omega) (.int .u8 (u.toNat : Int))
  replace b_r1 := b_r1.far (p := ⟨gx, j, none⟩) (by show _ ≠ gx; omega) (.int .u8 (u.toNat : Int))
  replace b_t2 := b_t2.far (p := ⟨gx, j, none⟩) (by show _ ≠ gx; omega) (.int .u8 (u.toNat : Int))
  replace b_r2 := b_r2.far (p := ⟨gx, j, none⟩) (by show _ ≠ gx; omega) (.int .u8 (u.toNat : Int))
  replace hbel := hbel.setCell (p := ⟨gx, j, none⟩) (by show _ ≤ gx; omega) (.int .u8 (u.toNat : Int))
  generalize w_b.setCell ⟨gx, j, none⟩ (.int .u8 (u.toNat : Int)) = W4 at *
  clear hjl p1 p2
  generalize X.set j u = Y at *
  have HX : Hid (∀ W : World, W.heap[gx]? = W4.heap[gx]? → W4.heap.size ≤ W.heap.size → Sl W.heap.size W (.slice (some ⟨gx, 0, none⟩) xn cx) Y) := fun W h1 h2 => (SX.out.keep h1).mono h2
  clear SX
  have hblk : W4.heap[gx]? = W4.heap[gx]? := rfl
  have hsz : W4.heap.size ≤ W4.heap.size := Nat.le_refl _
  obtain ⟨qb0, hqb0⟩ : ∃ x, x = requestI0 Y := ⟨_, rfl⟩
  obtain ⟨qb1, hqb1⟩ : ∃ x, x = requestI1 Y := ⟨_, rfl⟩
  obtain ⟨qb2, hqb2⟩ : ∃ x, x = requestI2 Y := ⟨_, rfl⟩
  obtain ⟨qbk, hqbk⟩ : ∃ x, x = requestOk Y := ⟨_, rfl⟩
  have Hqb := Lib.hid (And.intro hqbk <| And.intro hqb0 <| And.intro hqb1 <| hqb2)
  clear hqbk hqb0 hqb1 hqb2
  obtain ⟨sb0, hsb0⟩ : ∃ x, x = remittanceI0 Y := ⟨_, rfl⟩
  obtain ⟨sb1, hsb1⟩ : ∃ x, x = remittanceI1 Y := ⟨_, rfl⟩
  obtain ⟨sb2, hsb2⟩ : ∃ x, x = remittanceI2 Y := ⟨_, rfl⟩
  obtain ⟨sb3, hsb3⟩ : ∃ x, x = remittanceI3 Y := ⟨_, rfl⟩
  obtain ⟨sb4, hsb4⟩ : ∃ x, x = remittanceI4 Y := ⟨_, rfl⟩
  obtain ⟨sb5, hsb5⟩ : ∃ x, x = remittanceI5 Y := ⟨_, rfl⟩
  obtain ⟨sbk, hsbk⟩ : ∃ x, x = remittanceOk Y := ⟨_, rfl⟩
  have Hsb := Lib.hid (And.intro hsbk <| And.intro hsb0 <| And.intro hsb1 <| And.intro hsb2 <| And.intro hsb3 <| And.intro hsb4 <| hsb5)
  clear hsbk hsb0 hsb1 hsb2 hsb3 hsb4 hsb5
  obtain ⟨nb0, hnb0⟩ : ∃ x, x = noticeI0 Y := ⟨_, rfl⟩
  obtain ⟨nb1, hnb1⟩ : ∃ x, x = noticeI1 Y := ⟨_, rfl⟩
  obtain ⟨nb2, hnb2⟩ : ∃ x, x = noticeI2 Y := ⟨_, rfl⟩
  obtain ⟨nb3, hnb3⟩ : ∃ x, x = noticeI3 Y := ⟨_, rfl⟩
  obtain ⟨nbk, hnbk⟩ : ∃ x, x = noticeOk Y := ⟨_, rfl⟩
  have Hnb := Lib.hid (And.intro hnbk <| And.intro hnb0 <| And.intro hnb1 <| And.intro hnb2 <| hnb3)
  clear hnbk hnb0 hnb1 hnb2 hnb3
  refine (takeRequest_any _ _ _ (HX.out _ hblk hsz)).mono ?_
  rintro e u_t0 ⟨rfl, hb⟩
  obtain ⟨h0, h1, h2, h3⟩ := Hqb.out
  rw [← h0, ← h1, ← h2, ← h3]
  clear h0 h1 h2 h3
  replace hblk := (hb.block gx (Nat.lt_of_lt_of_le hgl hsz)).trans hblk
  replace hsz := Nat.le_trans hsz hb.size
  replace b_t0 := b_t0.below hb b_t0.lt
  replace b_r0 := b_r0.below hb b_r0.lt
  replace b_t1 := b_t1.below hb b_t1.lt
  replace b_r1 := b_r1.below hb b_r1.lt
  replace b_t2 := b_t2.below hb b_t2.lt
  replace b_r2 := b_r2.below hb b_r2.lt
  replace hbel := bnext hbel hb
  clear hb
  have co := b_t0.cell
  have fo := b_t0.frozen
  replace b_t0 := request_put rfl b_t0 qb0 qb1 qb2
  replace b_r0 : BlkIs (((u_t0.setCell ⟨w_t0.heap.size, 0, none⟩ (.int .i64 qb0)).setCell ⟨w_t0.heap.size, 1, none⟩ (.int .i64 qb1)).setCell ⟨w_t0.heap.size, 2, none⟩ (.int .i64 qb2)) _ _ _ := (request_blk (by omega) qb0 qb1 qb2).trans b_r0
  replace b_t1 : BlkIs (((u_t0.setCell ⟨w_t0.heap.size, 0, none⟩ (.int .i64 qb0)).setCell ⟨w_t0.heap.size, 1, none⟩ (.int .i64 qb1)).setCell ⟨w_t0.heap.size, 2, none⟩ (.int .i64 qb2)) _ _ _ := (request_blk (by omega) qb0 qb1 qb2).trans b_t1
  replace b_r1 : BlkIs (((u_t0.setCell ⟨w_t0.heap.size, 0, none⟩ (.int .i64 qb0)).setCell ⟨w_t0.heap.size, 1, none⟩ (.int .i64 qb1)).setCell ⟨w_t0.heap.size, 2, none⟩ (.int .i64 qb2)) _ _ _ := (request_blk (by omega) qb0 qb1 qb2).trans b_r1
  replace b_t2 : BlkIs (((u_t0.setCell ⟨w_t0.heap.size, 0, none⟩ (.int .i64 qb0)).setCell ⟨w_t0.heap.size, 1, none⟩ (.int .i64 qb1)).setCell ⟨w_t0.heap.size, 2, none⟩ (.int .i64 qb2)) _ _ _ := (request_blk (by omega) qb0 qb1 qb2).trans b_t2
  replace b_r2 : BlkIs (((u_t0.setCell ⟨w_t0.heap.size, 0, none⟩ (.int .i64 qb0)).setCell ⟨w_t0.heap.size, 1, none⟩ (.int .i64 qb1)).setCell ⟨w_t0.heap.size, 2, none⟩ (.int .i64 qb2)) _ _ _ := (request_blk (by omega) qb0 qb1 qb2).trans b_r2
  replace hblk := (request_blk (wr := u_t0) (g := w_t0.heap.size) (g' := gx) (by omega) qb0 qb1 qb2).trans hblk
  replace hsz := Nat.le_trans hsz (request_far (g := w_t0.heap.size) (Below.refl 0 u_t0) (Nat.zero_le _) qb0 qb1 qb2).size
  replace hbel := request_far (g := w_t0.heap.size) hbel (by omega) qb0 qb1 qb2
  go_wp2_with fail
  clear co fo
  generalize (((u_t0.setCell ⟨w_t0.heap.size, 0, none⟩ (.int .i64 qb0)).setCell ⟨w_t0.heap.size, 1, none⟩ (.int .i64 qb1)).setCell ⟨w_t0.heap.size, 2, none⟩ (.int .i64 qb2)) = U_t0 at *
  refine (rtakeRequest_any _ _ _ (HX.out _ hblk hsz)).mono ?_
  rintro e u_r0 ⟨rfl, hb⟩
  obtain ⟨h0, h1, h2, h3⟩ := Hqb.out
  rw [← h0, ← h1, ← h2, ← h3]
  clear h0 h1 h2 h3
  replace hblk := (hb.block gx (Nat.lt_of_lt_of_le hgl hsz)).trans hblk
  replace hsz := Nat.le_trans hsz hb.size
  replace b_t0 := b_t0.below hb b_t0.lt
  replace b_r0 := b_r0.below hb b_r0.lt
  replace b_t1 := b_t1.below hb b_t1.lt
  replace b_r1 := b_r1.below hb b_r1.lt
  replace b_t2 := b_t2.below hb b_t2.lt
  replace b_r2 := b_r2.below hb b_r2.lt
  replace hbel := bnext hbel hb
  clear hb
  have co := b_r0.cell
  have fo := b_r0.frozen
  replace b_t0 : BlkIs (((u_r0.setCell ⟨w_r0.heap.size, 0, none⟩ (.int .i64 qb0)).setCell ⟨w_r0.heap.size, 1, none⟩ (.int .i64 qb1)).setCell ⟨w_r0.heap.size, 2, none⟩ (.int .i64 qb2)) _ _ _ := (request_blk (by omega) qb0 qb1 qb2).trans b_t0
  replace b_r0 := request_put rfl b_r0 qb0 qb1 qb2
  replace b_t1 : BlkIs (((u_r0.setCell ⟨w_r0.heap.size, 0, none⟩ (.int .i64 qb0)).setCell ⟨w_r0.heap.size, 1, none⟩ (.int .i64 qb1)).setCell ⟨w_r0.heap.size, 2, none⟩ (.int .i64 qb2)) _ _ _ := (request_blk (by omega) qb0 qb1 qb2).trans b_t1
  replace b_r1 : BlkIs (((u_r0.setCell ⟨w_r0.heap.size, 0, none⟩ (.int .i64 qb0)).setCell ⟨w_r0.heap.size, 1, none⟩ (.int .i64 qb1)).setCell ⟨w_r0.heap.size, 2, none⟩ (.int .i64 qb2)) _ _ _ := (request_blk (by omega) qb0 qb1 qb2).trans b_r1
  replace b_t2 : BlkIs (((u_r0.setCell ⟨w_r0.heap.size, 0, none⟩ (.int .i64 qb0)).setCell ⟨w_r0.heap.size, 1, none⟩ (.int .i64 qb1)).setCell ⟨w_r0.heap.size, 2, none⟩ (.int .i64 qb2)) _ _ _ := (request_blk (by omega) qb0 qb1 qb2).trans b_t2
  replace b_r2 : BlkIs (((u_r0.setCell ⟨w_r0.heap.size, 0, none⟩ (.int .i64 qb0)).setCell ⟨w_r0.heap.size, 1, none⟩ (.int .i64 qb1)).setCell ⟨w_r0.heap.size, 2, none⟩ (.int .i64 qb2)) _ _ _ := (request_blk (by omega) qb0 qb1 qb2).trans b_r2
  replace hblk := (request_blk (wr := u_r0) (g := w_r0.heap.size) (g' := gx) (by omega) qb0 qb1 qb2).trans hblk
  replace hsz := Nat.le_trans hsz (request_far (g := w_r0.heap.size) (Below.refl 0 u_r0) (Nat.zero_le _) qb0 qb1 qb2).size
  replace hbel := request_far (g := w_r0.heap.size) hbel (by omega) qb0 qb1 qb2
  go_wp2_with fail
  clear co fo
  generalize (((u_r0.setCell ⟨w_r0.heap.size, 0, none⟩ (.int .i64 qb0)).setCell ⟨w_r0.heap.size, 1, none⟩ (.int .i64 qb1)).setCell ⟨w_r0.heap.size, 2, none⟩ (.int .i64 qb2)) = U_r0 at *
  refine (takeRemittance_any _ _ _ (HX.out _ hblk hsz)).mono ?_
  rintro e u_t1 ⟨rfl, hb⟩
  obtain ⟨h0, h1, h2, h3, h4, h5, h6⟩ := Hsb.out
  rw [← h0, ← h1, ← h2, ← h3, ← h4, ← h5, ← h6]
  clear h0 h1 h2 h3 h4 h5 h6
  replace hblk := (hb.block gx (Nat.lt_of_lt_of_le hgl hsz)).trans hblk
  replace hsz := Nat.le_trans hsz hb.size
  replace b_t0 := b_t0.below hb b_t0.lt
  replace b_r0 := b_r0.below hb b_r0.lt
  replace b_t1 := b_t1.below hb b_t1.lt
  replace b_r1 := b_r1.below hb b_r1.lt
  replace b_t2 := b_t2.below hb b_t2.lt
  replace b_r2 := b_r2.below hb b_r2.lt
  replace hbel := bnext hbel hb
  clear hb
  have co := b_t1.cell
  have fo := b_t1.frozen
  replace b_t0 : BlkIs ((((((u_t1.setCell ⟨w_t1.heap.size, 0, none⟩ (.int .i64 sb0)).setCell ⟨w_t1.heap.size, 1, none⟩ (.int .i64 sb1)).setCell ⟨w_t1.heap.size, 2, none⟩ (.int .i64 sb2)).setCell ⟨w_t1.heap.size, 3, none⟩ (.int .i64 sb3)).setCell ⟨w_t1.heap.size, 4, none⟩ (.int .i64 sb4)).setCell ⟨w_t1.heap.size, 5, none⟩ (.int .i64 sb5)) _ _ _ := (remittance_blk (by omega) sb0 sb1 sb2 sb3 sb4 sb5).trans b_t0
  replace b_r0 : BlkIs ((((((u_t1.setCell ⟨w_t1.heap.size, 0, none⟩ (.int .i64 sb0)).setCell ⟨w_t1.heap.size, 1, none⟩ (.int .i64 sb1)).setCell ⟨w_t1.heap.size, 2, none⟩ (.int .i64 sb2)).setCell ⟨w_t1.heap.size, 3, none⟩ (.int .i64 sb3)).setCell ⟨w_t1.heap.size, 4, none⟩ (.int .i64 sb4)).setCell ⟨w_t1.heap.size, 5, none⟩ (.int .i64 sb5)) _ _ _ := (remittance_blk (by omega) sb0 sb1 sb2 sb3 sb4 sb5).trans b_r0
  replace b_t1 := remittance_put rfl b_t1 sb0 sb1 sb2 sb3 sb4 sb5
  replace b_r1 : BlkIs ((((((u_t1.setCell ⟨w_t1.heap.size, 0, none⟩ (.int .i64 sb0)).setCell ⟨w_t1.heap.size, 1, none⟩ (.int .i64 sb1)).setCell ⟨w_t1.heap.size, 2, none⟩ (.int .i64 sb2)).setCell ⟨w_t1.heap.size, 3, none⟩ (.int .i64 sb3)).setCell ⟨w_t1.heap.size, 4, none⟩ (.int .i64 sb4)).setCell ⟨w_t1.heap.size, 5, none⟩ (.int .i64 sb5)) _ _ _ := (remittance_blk (by omega) sb0 sb1 sb2 sb3 sb4 sb5).trans b_r1
  replace b_t2 : BlkIs ((((((u_t1.setCell ⟨w_t1.heap.size, 0, none⟩ (.int .i64 sb0)).setCell ⟨w_t1.heap.size, 1, none⟩ (.int .i64 sb1)).setCell ⟨w_t1.heap.size, 2, none⟩ (.int .i64 sb2)).setCell ⟨w_t1.heap.size, 3, none⟩ (.int .i64 sb3)).setCell ⟨w_t1.heap.size, 4, none⟩ (.int .i64 sb4)).setCell ⟨w_t1.heap.size, 5, none⟩ (.int .i64 sb5)) _ _ _ := (remittance_blk (by omega) sb0 sb1 sb2 sb3 sb4 sb5).trans b_t2
  replace b_r2 : BlkIs ((((((u_t1.setCell ⟨w_t1.heap.size, 0, none⟩ (.int .i64 sb0)).setCell ⟨w_t1.heap.size, 1, none⟩ (.int .i64 sb1)).setCell ⟨w_t1.heap.size, 2, none⟩ (.int .i64 sb2)).setCell ⟨w_t1.heap.size, 3, none⟩ (.int .i64 sb3)).setCell ⟨w_t1.heap.size, 4, none⟩ (.int .i64 sb4)).setCell ⟨w_t1.heap.size, 5, none⟩ (.int .i64 sb5)) _ _ _ := (remittance_blk (by omega) sb0 sb1 sb2 sb3 sb4 sb5).trans b_r2
  replace hblk := (remittance_blk (wr := u_t1) (g := w_t1.heap.size) (g' := gx) (by omega) sb0 sb1 sb2 sb3 sb4 sb5).trans hblk
  replace hsz := Nat.le_trans hsz (remittance_far (g := w_t1.heap.size) (Below.refl 0 u_t1) (Nat.zero_le _) sb0 sb1 sb2 sb3 sb4 sb5).size
  replace hbel := remittance_far (g := w_t1.heap.size) hbel (by omega) sb0 sb1 sb2 sb3 sb4 sb5
  go_wp2_with fail
  clear co fo
  generalize ((((((u_t1.setCell ⟨w_t1.heap.size, 0, none⟩ (.int .i64 sb0)).setCell ⟨w_t1.heap.size, 1, none⟩ (.int .i64 sb1)).setCell ⟨w_t1.heap.size, 2, none⟩ (.int .i64 sb2)).setCell ⟨w_t1.heap.size, 3, none⟩ (.int .i64 sb3)).setCell ⟨w_t1.heap.size, 4, none⟩ (.int .i64 sb4)).setCell ⟨w_t1.heap.size, 5, none⟩ (.int .i64 sb5)) = U_t1 at *
  refine (rtakeRemittance_any _ _ _ (HX.out _ hblk hsz)).mono ?_
  rintro e u_r1 ⟨rfl, hb⟩
  obtain ⟨h0, h1, h2, h3, h4, h5, h6⟩ := Hsb.out
  rw [← h0, ← h1, ← h2, ← h3, ← h4, ← h5, ← h6]
  clear h0 h1 h2 h3 h4 h5 h6
  replace hblk := (hb.block gx (Nat.lt_of_lt_of_le hgl hsz)).trans hblk
  replace hsz := Nat.le_trans hsz hb.size
  replace b_t0 := b_t0.below hb b_t0.lt
  replace b_r0 := b_r0.below hb b_r0.lt
  replace b_t1 := b_t1.below hb b_t1.lt
  replace b_r1 := b_r1.below hb b_r1.lt
  replace b_t2 := b_t2.below hb b_t2.lt
  replace b_r2 := b_r2.below hb b_r2.lt
  replace hbel := bnext hbel hb
  clear hb
  have co := b_r1.cell
  have fo := b_r1.frozen
  replace b_t0 : BlkIs ((((((u_r1.setCell ⟨w_r1.heap.size, 0, none⟩ (.int .i64 sb0)).setCell ⟨w_r1.heap.size, 1, none⟩ (.int .i64 sb1)).setCell ⟨w_r1.heap.size, 2, none⟩ (.int .i64 sb2)).setCell ⟨w_r1.heap.size, 3, none⟩ (.int .i64 sb3)).setCell ⟨w_r1.heap.size, 4, none⟩ (.int .i64 sb4)).setCell ⟨w_r1.heap.size, 5, none⟩ (.int .i64 sb5)) _ _ _ := (remittance_blk (by omega) sb0 sb1 sb2 sb3 sb4 sb5).trans b_t0
  replace b_r0 : BlkIs ((((((u_r1.setCell ⟨w_r1.heap.size, 0, none⟩ (.int .i64 sb0)).setCell ⟨w_r1.heap.size, 1, none⟩ (.int .i64 sb1)).setCell ⟨w_r1.heap.size, 2, none⟩ (.int .i64 sb2)).setCell ⟨w_r1.heap.size, 3, none⟩ (.int .i64 sb3)).setCell ⟨w_r1.heap.size, 4, none⟩ (.int .i64 sb4)).setCell ⟨w_r1.heap.size, 5, none⟩ (.int .i64 sb5)) _ _ _ := (remittance_blk (by omega) sb0 sb1 sb2 sb3 sb4 sb5).trans b_r0
  replace b_t1 : BlkIs ((((((u_r1.setCell ⟨w_r1.heap.size, 0, none⟩ (.int .i64 sb0)).setCell ⟨w_r1.heap.size, 1, none⟩ (.int .i64 sb1)).setCell ⟨w_r1.heap.size, 2, none⟩ (.int .i64 sb2)).setCell ⟨w_r1.heap.size, 3, none⟩ (.int .i64 sb3)).setCell ⟨w_r1.heap.size, 4, none⟩ (.int .i64 sb4)).setCell ⟨w_r1.heap.size, 5, none⟩ (.int .i64 sb5)) _ _ _ := (remittance_blk (by omega) sb0 sb1 sb2 sb3 sb4 sb5).trans b_t1
  replace b_r1 := remittance_put rfl b_r1 sb0 sb1 sb2 sb3 sb4 sb5
  replace b_t2 : BlkIs ((((((u_r1.setCell ⟨w_r1.heap.size, 0, none⟩ (.int .i64 sb0)).setCell ⟨w_r1.heap.size, 1, none⟩ (.int .i64 sb1)).setCell ⟨w_r1.heap.size, 2, none⟩ (.int .i64 sb2)).setCell ⟨w_r1.heap.size, 3, none⟩ (.int .i64 sb3)).setCell ⟨w_r1.heap.size, 4, none⟩ (.int .i64 sb4)).setCell ⟨w_r1.heap.size, 5, none⟩ (.int .i64 sb5)) _ _ _ := (remittance_blk (by omega) sb0 sb1 sb2 sb3 sb4 sb5).trans b_t2
  replace b_r2 : BlkIs ((((((u_r1.setCell ⟨w_r1.heap.size, 0, none⟩ (.int .i64 sb0)).setCell ⟨w_r1.heap.size, 1, none⟩ (.int .i64 sb1)).setCell ⟨w_r1.heap.size, 2, none⟩ (.int .i64 sb2)).setCell ⟨w_r1.heap.size, 3, none⟩ (.int .i64 sb3)).setCell ⟨w_r1.heap.size, 4, none⟩ (.int .i64 sb4)).setCell ⟨w_r1.heap.size, 5, none⟩ (.int .i64 sb5)) _ _ _ := (remittance_blk (by omega) sb0 sb1 sb2 sb3 sb4 sb5).trans b_r2
  replace hblk := (remittance_blk (wr := u_r1) (g := w_r1.heap.size) (g' := gx) (by omega) sb0 sb1 sb2 sb3 sb4 sb5).trans hblk
  replace hsz := Nat.le_trans hsz (remittance_far (g := w_r1.heap.size) (Below.refl 0 u_r1) (Nat.zero_le _) sb0 sb1 sb2 sb3 sb4 sb5).size
  replace hbel := remittance_far (g := w_r1.heap.size) hbel (by omega) sb0 sb1 sb2 sb3 sb4 sb5
  go_wp2_with fail
  clear co fo
  generalize ((((((u_r1.setCell ⟨w_r1.heap.size, 0, none⟩ (.int .i64 sb0)).setCell ⟨w_r1.heap.size, 1, none⟩ (.int .i64 sb1)).setCell ⟨w_r1.heap.size, 2, none⟩ (.int .i64 sb2)).setCell ⟨w_r1.heap.size, 3, none⟩ (.int .i64 sb3)).setCell ⟨w_r1.heap.size, 4, none⟩ (.int .i64 sb4)).setCell ⟨w_r1.heap.size, 5, none⟩ (.int .i64 sb5)) = U_r1 at *
  refine (takeNotice_any _ _ _ (HX.out _ hblk hsz)).mono ?_
  rintro e u_t2 ⟨rfl, hb⟩
  obtain ⟨h0, h1, h2, h3, h4⟩ := Hnb.out
  rw [← h0, ← h1, ← h2, ← h3, ← h4]
  clear h0 h1 h2 h3 h4
  replace hblk := (hb.block gx (Nat.lt_of_lt_of_le hgl hsz)).trans hblk
  replace hsz := Nat.le_trans hsz hb.size
  replace b_t0 := b_t0.below hb b_t0.lt
  replace b_r0 := b_r0.below hb b_r0.lt
  replace b_t1 := b_t1.below hb b_t1.lt
  replace b_r1 := b_r1.below hb b_r1.lt
  replace b_t2 := b_t2.below hb b_t2.lt
  replace b_r2 := b_r2.below hb b_r2.lt
  replace hbel := bnext hbel hb
  clear hb
  have co := b_t2.cell
  have fo := b_t2.frozen
  replace b_t0 : BlkIs ((((u_t2.setCell ⟨w_t2.heap.size, 0, none⟩ (.int .i64 nb0)).setCell ⟨w_t2.heap.size, 1, none⟩ (.int .i64 nb1)).setCell ⟨w_t2.heap.size, 2, none⟩ (.int .i64 nb2)).setCell ⟨w_t2.heap.size, 3, none⟩ (.int .i64 nb3)) _ _ _ := (notice_blk (by omega) nb0 nb1 nb2 nb3).trans b_t0
  replace b_r0 : BlkIs ((((u_t2.setCell ⟨w_t2.heap.size, 0, none⟩ (.int .i64 nb0)).setCell ⟨w_t2.heap.size, 1, none⟩ (.int .i64 nb1)).setCell ⟨w_t2.heap.size, 2, none⟩ (.int .i64 nb2)).setCell ⟨w_t2.heap.size, 3, none⟩ (.int .i64 nb3)) _ _ _ := (notice_blk (by omega) nb0 nb1 nb2 nb3).trans b_r0
  replace b_t1 : BlkIs ((((u_t2.setCell ⟨w_t2.heap.size, 0, none⟩ (.int .i64 nb0)).setCell ⟨w_t2.heap.size, 1, none⟩ (.int .i64 nb1)).setCell ⟨w_t2.heap.size, 2, none⟩ (.int .i64 nb2)).setCell ⟨w_t2.heap.size, 3, none⟩ (.int .i64 nb3)) _ _ _ := (notice_blk (by omega) nb0 nb1 nb2 nb3).trans b_t1
  replace b_r1 : BlkIs ((((u_t2.setCell ⟨w_t2.heap.size, 0, none⟩ (.int .i64 nb0)).setCell ⟨w_t2.heap.size, 1, none⟩ (.int .i64 nb1)).setCell ⟨w_t2.heap.size, 2, none⟩ (.int .i64 nb2)).setCell ⟨w_t2.heap.size, 3, none⟩ (.int .i64 nb3)) _ _ _ := (notice_blk (by omega) nb0 nb1 nb2 nb3).trans b_r1
  replace b_t2 := notice_put rfl b_t2 nb0 nb1 nb2 nb3
  replace b_r2 : BlkIs ((((u_t2.setCell ⟨w_t2.heap.size, 0, none⟩ (.int .i64 nb0)).setCell ⟨w_t2.heap.size, 1, none⟩ (.int .i64 nb1)).setCell ⟨w_t2.heap.size, 2, none⟩ (.int .i64 nb2)).setCell ⟨w_t2.heap.size, 3, none⟩ (.int .i64 nb3)) _ _ _ := (notice_blk (by omega) nb0 nb1 nb2 nb3).trans b_r2
  replace hblk := (notice_blk (wr := u_t2) (g := w_t2.heap.size) (g' := gx) (by omega) nb0 nb1 nb2 nb3).trans hblk
  replace hsz := Nat.le_trans hsz (notice_far (g := w_t2.heap.size) (Below.refl 0 u_t2) (Nat.zero_le _) nb0 nb1 nb2 nb3).size
  replace hbel := notice_far (g := w_t2.heap.size) hbel (by omega) nb0 nb1 nb2 nb3
  go_wp2_with fail
  clear co fo
  generalize ((((u_t2.setCell ⟨w_t2.heap.size, 0, none⟩ (.int .i64 nb0)).setCell ⟨w_t2.heap.size, 1, none⟩ (.int .i64 nb1)).setCell ⟨w_t2.heap.size, 2, none⟩ (.int .i64 nb2)).setCell ⟨w_t2.heap.size, 3, none⟩ (.int .i64 nb3)) = U_t2 at *
  refine (rtakeNotice_any _ _ _ (HX.out _ hblk hsz)).mono ?_
  rintro e u_r2 ⟨rfl, hb⟩
  obtain ⟨h0, h1, h2, h3, h4⟩ := Hnb.out
  rw [← h0, ← h1, ← h2, ← h3, ← h4]
  clear h0 h1 h2 h3 h4
  replace hblk := (hb.block gx (Nat.lt_of_lt_of_le hgl hsz)).trans hblk
  replace hsz := Nat.le_trans hsz hb.size
  replace b_t0 := b_t0.below hb b_t0.lt
  replace b_r0 := b_r0.below hb b_r0.lt
  replace b_t1 := b_t1.below hb b_t1.lt
  replace b_r1 := b_r1.below hb b_r1.lt
  replace b_t2 := b_t2.below hb b_t2.lt
  replace b_r2 := b_r2.below hb b_r2.lt
  replace hbel := bnext hbel hb
  clear hb
  have co := b_r2.cell
  have fo := b_r2.frozen
  replace b_t0 : BlkIs ((((u_r2.setCell ⟨w_r2.heap.size, 0, none⟩ (.int .i64 nb0)).setCell ⟨w_r2.heap.size, 1, none⟩ (.int .i64 nb1)).setCell ⟨w_r2.heap.size, 2, none⟩ (.int .i64 nb2)).setCell ⟨w_r2.heap.size, 3, none⟩ (.int .i64 nb3)) _ _ _ := (notice_blk (by omega) nb0 nb1 nb2 nb3).trans b_t0
  replace b_r0 : BlkIs ((((u_r2.setCell ⟨w_r2.heap.size, 0, none⟩ (.int .i64 nb0)).setCell ⟨w_r2.heap.size, 1, none⟩ (.int .i64 nb1)).setCell ⟨w_r2.heap.size, 2, none⟩ (.int .i64 nb2)).setCell ⟨w_r2.heap.size, 3, none⟩ (.int .i64 nb3)) _ _ _ := (notice_blk (by omega) nb0 nb1 nb2 nb3).trans b_r0
  replace b_t1 : BlkIs ((((u_r2.setCell ⟨w_r2.heap.size, 0, none⟩ (.int .i64 nb0)).setCell ⟨w_r2.heap.size, 1, none⟩ (.int .i64 nb1)).setCell ⟨w_r2.heap.size, 2, none⟩ (.int .i64 nb2)).setCell ⟨w_r2.heap.size, 3, none⟩ (.int .i64 nb3)) _ _ _ := (notice_blk (by omega) nb0 nb1 nb2 nb3).trans b_t1
  replace b_r1 : BlkIs ((((u_r2.setCell ⟨w_r2.heap.size, 0, none⟩ (.int .i64 nb0)).setCell ⟨w_r2.heap.size, 1, none⟩ (.int .i64 nb1)).setCell ⟨w_r2.heap.size, 2, none⟩ (.int .i64 nb2)).setCell ⟨w_r2.heap.size, 3, none⟩ (.int .i64 nb3)) _ _ _ := (notice_blk (by omega) nb0 nb1 nb2 nb3).trans b_r1
  replace b_t2 : BlkIs ((((u_r2.setCell ⟨w_r2.heap.size, 0, none⟩ (.int .i64 nb0)).setCell ⟨w_r2.heap.size, 1, none⟩ (.int .i64 nb1)).setCell ⟨w_r2.heap.size, 2, none⟩ (.int .i64 nb2)).setCell ⟨w_r2.heap.size, 3, none⟩ (.int .i64 nb3)) _ _ _ := (notice_blk (by omega) nb0 nb1 nb2 nb3).trans b_t2
  replace b_r2 := notice_put rfl b_r2 nb0 nb1 nb2 nb3
  replace hblk := (notice_blk (wr := u_r2) (g := w_r2.heap.size) (g' := gx) (by omega) nb0 nb1 nb2 nb3).trans hblk
  replace hsz := Nat.le_trans hsz (notice_far (g := w_r2.heap.size) (Below.refl 0 u_r2) (Nat.zero_le _) nb0 nb1 nb2 nb3).size
  replace hbel := notice_far (g := w_r2.heap.size) hbel (by omega) nb0 nb1 nb2 nb3
  have c_b_t0 := b_t0.cell
  have c_b_r0 := b_r0.cell
  have c_b_t1 := b_t1.cell
  have c_b_r1 := b_r1.cell
  have c_b_t2 := b_t2.cell
  have c_b_r2 := b_r2.cell
  have e0 := E0.out qb0 qb1 qb2
  have e1 := E1.out sb0 sb1 sb2 sb3 sb4 sb5
  have e2 := E2.out nb0 nb1 nb2 nb3
  go_wp2
  go_ret
  exact ⟨rfl, hbel⟩

set_option maxRecDepth 100000 in
theorem lmt_lifted (os : Os) (started : os.Started) (H : Type) (enc : TypeId × Value → H) :
    ReturnsInHanded {} Try.checked os 12 .any (Rows.documentMoneyTakesSpec.pre6 enc Try.prog Try.f12 Rows.documentMoneyTakesRow.domain false) (Rows.documentMoneyTakesSpec.post enc Try.prog Try.f12 false true false false) := by
  refine returnsInHanded_of_change_sized (C := Try.checked) own_knob started (by kernel_rfl) Try.func12
    (ChangeSpec.witness6 (enc := enc) (C := Try.checked) false ⟨#[], #[.slice none 0 0, .agg #[.int .i64 0, .int .i64 0, .int .i64 0, .int .i64 0, .int .i64 0, .int .i64 0, .bool false, .int .i64 0, .int .i64 0, .int .i64 0, .int .i64 0, .int .i64 0, .int .i64 0, .int .i64 0, .int .i64 0, .int .i64 0, .int .i64 0, .int .i64 0, .int .i64 0, .int .i64 0, .int .i64 0], .int .i64 0, .int .i64 0], []⟩ 8 (by kernel_rfl) (by kernel_rfl) (by kernel_rfl) (by kernel_rfl)) ?_
  intro W base args ds gs before hval0 hW hcnd hsz0 _
  have hval : ∀ (j : Nat) t v, Try.f12.params[j]? = some t → args[j]? = some v → Value.okWide Try.prog W .any base t v := hval0
  have hsz : (DataW.weightsEach Try.prog (Try.f12.params.toList ++ Rows.documentMoneyTakesSpec.plain.varTypes Try.prog) (ds ++ gs)).all (· ≤ reachBytes) = true := hsz0
  have hW' := hW
  obtain ⟨p, q, hA0, hV, rfl, hfz, hnd⟩ := hW
  have hA : DataW.TrodAll enc Try.prog W 0 (fun _ => true) true Try.f12.params.toList args.toList ds p := hA0
  rw [Try.params12] at hA hval hsz
  obtain ⟨v0, vs0, d0, ds0, p0, q0, hargs, rfl, rfl, h0, tl0⟩ := trodAll_cons hA
  obtain ⟨v1, vs1, d1, ds1, p1, q1, rfl, rfl, rfl, h1, tl1⟩ := trodAll_cons tl0
  obtain ⟨v2, vs2, d2, ds2, p2, q2, rfl, rfl, rfl, h2, tl2⟩ := trodAll_cons tl1
  obtain ⟨v3, vs3, d3, ds3, p3, q3, rfl, rfl, rfl, h3, tl3⟩ := trodAll_cons tl2
  obtain ⟨rfl, rfl, rfl⟩ := trodAll_nil tl3
  obtain rfl : args = #[v0, v1, v2, v3] := by cases args; simp_all
  obtain ⟨rfl, rfl⟩ := trodVars_none hV
  have k0 := h0
  have lt0 : ∀ x ∈ p0, x.block < W.heap.size := by obtain ⟨m, hm⟩ := k0; exact DataW.trod_lt m _ _ _ hm
  have k1 := h1
  have lt1 : ∀ x ∈ p1, x.block < W.heap.size := by obtain ⟨m, hm⟩ := k1; exact DataW.trod_lt m _ _ _ hm
  have k2 := h2
  have lt2 : ∀ x ∈ p2, x.block < W.heap.size := by obtain ⟨m, hm⟩ := k2; exact DataW.trod_lt m _ _ _ hm
  have k3 := h3
  have lt3 : ∀ x ∈ p3, x.block < W.heap.size := by obtain ⟨m, hm⟩ := k3; exact DataW.trod_lt m _ _ _ hm
  obtain ⟨a, c, l, rfl, hz, hsl, hw⟩ := open_bytes2 (hval 0 _ v0 rfl rfl) h0
  obtain ⟨z0, z1, z2, z3, z4, z5, z6, z7, z8, z9, z10, z11, z12, z13, z14, z15, z16, z17, z18, z19, z20, rfl, u0, u1, u2, u3, u4, u5, u7, u8, u9, u10, u11, u12, u13, u14, u15, u16, u17, u18, u19, u20⟩ := open_raw (hval 1 _ v1 rfl rfl) h1
  obtain ⟨b, rfl, rfl, rfl, w1⟩ := open_int Try.underlying3 (hval 2 3 v2 rfl rfl) h2
  obtain ⟨d, rfl, rfl, rfl, w2⟩ := open_int Try.underlying3 (hval 3 3 v3 rfl rfl) h3
  clear hA0 hval0
  refine (lmt_walk a c l z0 z1 z2 z3 z4 z5 z6 z7 z8 z9 z10 z11 z12 z13 z14 z15 z16 z17 z18 z19 z20 b d W u12 u18 u19 u20 hsl).mono fun e W' ⟨he, bel⟩ => ?_
  subst he
  exact ⟨_, rfl, _, _, _, [], _, [], hW', trodAll_mk1 (shut_bool Try.underlying4 _), (trodAll_cons_mk (Below.trod laid_out (by kernel_rfl) (of_decide_eq_true (by kernel_rfl)) k0 bel lt0) (trodAll_cons_mk (Below.trod laid_out (by kernel_rfl) (of_decide_eq_true (by kernel_rfl)) k1 bel lt1) (trodAll_cons_mk (Below.trod laid_out (by kernel_rfl) (of_decide_eq_true (by kernel_rfl)) k2 bel lt2) (trodAll_cons_mk (Below.trod laid_out (by kernel_rfl) (of_decide_eq_true (by kernel_rfl)) k3 bel lt3) trodAll_mk0)))), rfl, bel.frame _, fun h => by cases h⟩

theorem lmt_over : Rows.documentMoneyTakesRow.holds Try.pinned (OpenSpec.ofChange Rows.documentMoneyTakesSpec) :=
  OpenClaim.holds_of_wide 12 Try.f12 rfl rfl rfl rfl rfl rfl rfl ⟨rfl, rfl, rfl, rfl, rfl⟩ rfl rfl rfl rfl rfl (by kernel_rfl) Try.func12 (by kernel_rfl)
    (of_decide_eq_true (by kernel_rfl)) (by unfold Func.isWrapper; first | (rw [if_pos (by decide +kernel)]; kernel_rfl) | (rw [if_neg (by decide +kernel)]; exact ⟨rfl, rfl⟩))
    (fun os started H enc _ => lmt_lifted os started H enc)

/-- The statement. -/
theorem lmt_holds : Rows.DocumentMoneyTakesSaid := lmt_over
#print axioms lmt_holds
end Go.Proofs.Ytkkjiihdmpngbaa
