/-
  Where the unsound entries begin, as the reference says it: the contract of its Unsound. Conditions: at most a million lines.
-/
import Derived.Test.YtnlcgiemhegmcaaAc3
import Derived.Test.YtnlcgiemhegmcaaAb2
namespace Go.Proofs.Ytnlcgiemhegmcaa
open Go.RowKit
set_option linter.unusedVariables false

def badR (L : List Ln) (i : Nat) : Bool := isFst L i && !soundB (grpAt L i)
theorem uns_badR (L : List Ln) : unsL L = (List.range L.length).filter (badR L) := by
  unfold unsL fsts
  rw [List.filter_filter]
  congr 1
  funext i
  unfold badR
  cases isFst L i <;> cases soundB (grpAt L i) <;> rfl
def fstTo (L : List Ln) (i k : Nat) : Bool := !(L.take k).any fun l => l.s == (ln L i).s && l.b == (ln L i).b
theorem fstTo_all (L : List Ln) (i : Nat) : fstTo L i i = isFst L i := rfl
theorem fstTo_succ (L : List Ln) {i k : Nat} (hk : k < L.length) : fstTo L i (k + 1) = (fstTo L i k && ((ln L k).s != (ln L i).s || (ln L k).b != (ln L i).b)) := by
  unfold fstTo
  rw [take_ln hk, List.any_append]
  simp only [List.any_cons, List.any_nil, Bool.or_false, bne]
  cases (L.take k).any (fun l => l.s == (ln L i).s && l.b == (ln L i).b) <;> cases (ln L k).s == (ln L i).s <;> cases (ln L k).b == (ln L i).b <;> rfl
theorem lns_after {w W : World} {v : Value} {L : List Ln} (h : Lns w.heap.size w v L) (hb : Below w.heap.size w W) (y : After W) : Lns y.x.heap.size y.x v L :=
  have hb' := bnext hb y.h
  (h.below hb').mono hb'.size

set_option maxRecDepth 100000 in
set_option maxHeartbeats 4000000 in
theorem runsound_any (L : List Ln) (v0 : Value) (w : World) (hL : Lns w.heap.size w v0 L) (hn : L.length ≤ 1000000) :
    Calls Try.prog 11 #[v0] w (UnsPost L w) := by
  have HL := Lib.hid hL
  obtain ⟨a, c, rfl, hc, hcell⟩ := hL
  have HC := Lib.hid hcell
  clear hcell
  go_enter Try.func11, Try.ntmps11
  go_wp2
  go_loopw [3, 4] (fun v t wr => ∃ (i : Nat) (l : List Nat), i ≤ L.length ∧ t = .int .i64 (i : Int) ∧ Hid (l = (List.range i).filter (badR L)) ∧ l.length ≤ i ∧ wr.ownsRow w.heap.size 3 1 v (natsV l).length (natsV l) ∧ Below w.heap.size w wr) (fun _ t _ => L.length - (intOf t).toNat)
  case atStart => exact ⟨0, [], Nat.zero_le _, rfl, rfl, Nat.zero_le _, World.ownsRow_nil _ _ _ _, Below.refl _ _⟩
  case round =>
    obtain ⟨i, l, hi, rfl, hl, hli, hown, hbel⟩ := hrel
    by_cases hlt : i < L.length
    · obtain ⟨bk, o, rfl, hbk, hcl⟩ := HC.out (by omega)
      have HCL := Lib.hid hcl
      clear hcl
      have HLR : Hid (List.range (i + 1) = List.range i ++ [i]) := List.range_succ
      go_wp2
      obtain ⟨w1, rfl⟩ : ∃ w1, w1 = wr := ⟨_, rfl⟩
      go_loopw [5, 6] (fun f t w2 => ∃ k : Nat, k ≤ i ∧ t = .int .i64 (k : Int) ∧ f = .bool (fstTo L i k) ∧ Below w1.heap.size w1 w2) (fun _ t _ => i - (intOf t).toNat)
      case atStart => exact ⟨0, Nat.zero_le _, rfl, rfl, Below.refl _ _⟩
      case round =>
        obtain ⟨k, hk, rfl, rfl, hb2⟩ := hrel
        have hb3 := bnext hbel hb2
        by_cases hkl : k < i
        · obtain ⟨q0, q1, _⟩ := HCL.out k (by omega)
          obtain ⟨r0, r1, _⟩ := HCL.out i hlt
          have e : ∀ q, wr.cell? ⟨bk, q, none⟩ = w.cell? ⟨bk, q, none⟩ := fun q => hb3.cell (p := ⟨bk, q, none⟩) hbk
          rw [← e] at q0 q1 r0 r1
          clear e
          have HF := Lib.hid (fstTo_succ L (i := i) (k := k) (by omega))
          generalize (ln L k).s = ks at *
          generalize (ln L k).b = kb at *
          generalize (ln L i).s = is at *
          generalize (ln L i).b = ib at *
          generalize fstTo L i k = f at *
          go_wp2_with fail
          rcases f with _ | _
          ·
            go_quiet (fail)
            go_wp2
            go_roundw
            case rel => exact ⟨k + 1, by omega, by go_num, by rw [HF.out]; simp_all, bdrewN hb2 _⟩
            case measure => simp [intOf]; omega
          rcases hs : (ks != is) with _ | _
          ·
            go_quiet (fail)
            go_wp2
            go_roundw
            case rel => exact ⟨k + 1, by omega, by go_num, by rw [HF.out]; simp_all, bdrewN hb2 _⟩
            case measure => simp [intOf]; omega
          ·
            go_quiet (fail)
            go_wp2
            go_roundw
            case rel => exact ⟨k + 1, by omega, by go_num, by rw [HF.out]; simp_all, bdrewN hb2 _⟩
            case measure => simp [intOf]; omega
        · obtain rfl : k = i := by omega
          clear hkl hk
          obtain ⟨r0, r1, _⟩ := HCL.out k hlt
          have e : ∀ q, wr.cell? ⟨bk, q, none⟩ = w.cell? ⟨bk, q, none⟩ := fun q => hb3.cell (p := ⟨bk, q, none⟩) hbk
          rw [← e] at r0 r1
          clear e
          have HB : Hid (badR L k = (fstTo L k k && !soundB (grp L (ln L k).s (ln L k).b))) := rfl
          have hown2 := own_below hown hb2 (fun g hg => own_lt hown hg.symm)
          clear hown
          generalize (ln L k).s = is at *
          generalize (ln L k).b = ib at *
          generalize fstTo L k k = f at *
          go_wp2_with fail
          rcases f with _ | _
          · go_quiet (fail)
            go_wp2
            go_roundw
            case rel => exact ⟨k + 1, l, by omega, by go_num, by show _ = _; rw [HLR.out, List.filter_append, ← hl.out]; simp [HB.out], by omega, hown2, bdrewN hb3 _⟩
            case measure => simp [intOf]; omega
          have hbk2 : bk < wr.heap.size := by have := hb3.size; omega
          refine wp_region_after (by kernel_rfl) (by kernel_rfl) ?_
          repeat (go_big_quiet_step ((go_at_call 21; exact aft_below (rsound_any L _ _ _ _ (lns_after HL.out hb3 _) hn))))
          refine wpQuiet_nil ?_
          rintro w3 ⟨⟨w4, hb4⟩, hw''⟩
          subst hw''
          have hown3 := own_below hown2 hb4 (fun g hg => own_lt hown2 hg.symm)
          have hb5 := bnext hb3 hb4
          have hz5 := hb5.size
          rcases hsd : soundB (grp L is ib) with _ | _
          · rw [hsd] at HB
            have HB' : Hid (badR L k = true) := HB.out
            go_wp2_with (at_builtin; go_loud (refine wpList_appV (by rfl) _ _ 27 3 (by rfl) Try.underlying27 (.int .i64 0) rfl 8 (by decide) Try.infoI w.heap.size _ (natsV l) _ _ rfl (by rfl) (by exact hown3) _ (by rfl) (by simp) (by simp [natsV]; omega) (by omega) ?_); intro v' w6 hown4 hb6 hg6)
            go_roundw
            case rel => exact ⟨k + 1, l ++ [k], by omega, by go_num, by show _ = _; rw [HLR.out, List.filter_append, ← hl.out]; simp [HB'.out], by simp; omega, by simpa [natsV] using hown4, hb5.trans hb6⟩
            case measure => simp [intOf]; omega
          · rw [hsd] at HB
            have HB' : Hid (badR L k = false) := HB.out
            go_wp2
            go_roundw
            case rel => exact ⟨k + 1, l, by omega, by go_num, by show _ = _; rw [HLR.out, List.filter_append, ← hl.out]; simp [HB'.out], by omega, hown3, hb5⟩
            case measure => simp [intOf]; omega
    · obtain rfl : i = L.length := by omega
      go_wp2
      go_ret
      have e : l = unsL L := by
        rw [uns_badR]
        exact hl.out
      refine ⟨_, rfl, ?_, hbel⟩
      rw [← e]
      simpa [natsV] using hown
end Go.Proofs.Ytnlcgiemhegmcaa
