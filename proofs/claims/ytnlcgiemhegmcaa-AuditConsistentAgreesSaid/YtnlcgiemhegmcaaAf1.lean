/-
  Contracts: Ints; what an explanation of six sound lines is good for. Conditions: lists of at most a million numbers.
-/
import Derived.Test.YtnlcgiemhegmcaaAe1
namespace Go.Proofs.Ytnlcgiemhegmcaa
open Go.RowKit
set_option linter.unusedVariables false

/-- The slice v reads as the numbers l. -/
def Ins (w : World) (v : Value) (l : List Int) : Prop :=
  ∃ (a : Option Addr) (c : Nat), v = .slice a l.length c ∧ l.length ≤ c ∧ (0 < l.length → ∃ g o, a = some ⟨g, o, none⟩ ∧ g < w.heap.size ∧ ∀ i, i < l.length → w.cell? ⟨g, o + i, none⟩ = some (.int .i64 (l.getD i 0)))
theorem Ins.below {w w' : World} {v : Value} {l : List Int} (h : Ins w v l) (hb : Below w.heap.size w w') : Ins w' v l := by
  obtain ⟨a, c, hv, hc, h⟩ := h
  refine ⟨a, c, hv, hc, fun hl => ?_⟩
  obtain ⟨g, o, ha, hg, hcell⟩ := h hl
  exact ⟨g, o, ha, Nat.lt_of_lt_of_le hg hb.size, fun i hi => (hb.cell (p := ⟨g, o + i, none⟩) hg).trans (hcell i hi)⟩
def ofN (l : List Nat) : List Int := l.map fun n : Nat => (n : Int)
theorem Ins.of_own {w : World} {base : Nat} {v : Value} {l : List Nat} (h : w.ownsRow base 3 1 v l.length (natsV l)) : Ins w v (ofN l) := by
  have e : l.length = (natsV l).length := by simp [natsV]
  rw [e] at h
  obtain ⟨a, c, rfl, hc, hcell⟩ := own_slice h
  refine ⟨a, c, by simp [ofN, natsV], by simpa [ofN, natsV] using hc, fun hl => ?_⟩
  obtain ⟨g, rfl, hg, h2⟩ := hcell (by simpa [ofN, natsV] using hl)
  refine ⟨g, 0, rfl, hg, fun i hi => ?_⟩
  have hi' : i < l.length := by simpa [ofN] using hi
  rw [Nat.zero_add, h2 i (by simpa [natsV] using hi')]
  simp [natsV, ofN, List.getD, hi']
theorem ofN_inj {l m : List Nat} : (ofN l == ofN m) = (l == m) := by
  rw [Bool.eq_iff_iff]
  simp only [beq_iff_eq]
  constructor
  · intro h
    unfold ofN at h
    exact (List.map_inj_right (fun x y => by omega)).1 h
  · rintro rfl; rfl
theorem eq_take (l m : List Int) (hl : l.length = m.length) : (∀ i, i < l.length → l.getD i 0 = m.getD i 0) → l = m := by
  intro h
  apply List.ext_getElem hl
  intro i h1 h2
  have := h i h1
  simpa [List.getD, h1, h2] using this

set_option maxRecDepth 100000 in
set_option maxHeartbeats 2000000 in
theorem ints_any (l m : List Int) (u v : Value) (w : World) (hu : Ins w u l) (hv : Ins w v m) (hl : l.length ≤ 1000000) (hm : m.length ≤ 1000000) :
    Calls Try.prog 9 #[u, v] w fun e w' => e = .returned (.bool (l == m)) ∧ Below w.heap.size w w' := by
  obtain ⟨a, c, rfl, hc, hcell⟩ := hu
  obtain ⟨a2, c2, rfl, hc2, hcell2⟩ := hv
  by_cases hlen : l.length = m.length
  · have H1 := Lib.hid hcell
    have H2 := Lib.hid hcell2
    have HL := Lib.hid hlen
    rw [← hlen] at hm hc2 ⊢
    clear hcell hcell2 hlen
    go_enter Try.func9, Try.ntmps9
    go_wp2
    go_loopw [5] (fun t wr => ∃ i : Nat, i ≤ l.length ∧ t = .int .i64 (i : Int) ∧ Hid (∀ k, k < i → l.getD k 0 = m.getD k 0) ∧ Below w.heap.size w wr) (fun t _ => l.length - (intOf t).toNat)
    case atStart => exact ⟨0, Nat.zero_le _, rfl, fun k hk => by omega, Below.refl _ _⟩
    case round =>
      obtain ⟨i, hi, rfl, hok, hbel⟩ := hrel
      by_cases hlt : i < l.length
      · obtain ⟨g, o, rfl, hg, hcl⟩ := H1.out (by omega)
        obtain ⟨g2, o2, rfl, hg2, hcl2⟩ := H2.out (by have := HL.out; omega)
        have q0 := (hbel.cell (p := ⟨g, o + i, none⟩) hg).trans (hcl i hlt)
        have q1 := (hbel.cell (p := ⟨g2, o2 + i, none⟩) hg2).trans (hcl2 i (by have := HL.out; omega))
        clear hcl hcl2
        have HX : Hid (∀ k, k < i + 1 → k = i ∨ k < i) := fun k hk => by omega
        have HN : Hid (¬ l.getD i 0 = m.getD i 0 → (l == m) = false) := by
          intro h
          rw [beq_eq_false_iff_ne]
          rintro rfl
          exact h rfl
        have HE : Hid (∃ x y, x = l.getD i 0 ∧ y = m.getD i 0) := ⟨_, _, rfl, rfl⟩
        obtain ⟨x, y, hx, hy⟩ := HE.out
        rw [← hx] at q0
        rw [← hy] at q1
        have HXX := Lib.hid hx
        have HYY := Lib.hid hy
        clear hx hy HE
        rcases hq : (x != y) with _ | _
        · have hxy : x = y := by simpa using hq
          have HOK : Hid (∀ k, k < i + 1 → l.getD k 0 = m.getD k 0) := by
            intro k hk
            rcases HX.out k hk with rfl | h
            · rw [← HXX.out, ← HYY.out]; exact hxy
            · exact hok.out k h
          clear hxy
          go_wp2
          go_quiet (fail)
          go_wp2
          go_roundw
          case rel => exact ⟨i + 1, by omega, by go_num, HOK, bdrewN hbel _⟩
          case measure => simp [intOf]; omega
        · have hxy : ¬ x = y := by simpa using hq
          have HXY := Lib.hid hxy
          clear hxy
          go_wp2
          go_quiet (fail)
          go_wp2
          go_ret
          exact ⟨ret_bool (HN.out (by rw [← HXX.out, ← HYY.out]; exact HXY.out)).symm, bdrewN hbel _⟩
      · go_wp2
        go_ret
        refine ⟨ret_bool ?_, hbel⟩
        have : l = m := eq_take l m HL.out (fun k hk => hok.out k (by omega))
        rw [this]
        simp
  · have h1 : ((l.length : Int) != (m.length : Int)) = true := by simp; omega
    have h2 : Hid ((l == m) = false) := by
      show _ = _
      rw [beq_eq_false_iff_ne]
      rintro rfl
      exact hlen rfl
    clear hcell hcell2 hlen
    go_enter Try.func9, Try.ntmps9
    go_wp2
    go_ret
    exact ⟨ret_bool h2.out.symm, Below.refl _ _⟩

/-- An explanation of six lines. -/
theorem entL_ok {ind theory a b c d n q m : Int} (h : EntR ind theory a b c d n q m) : unsL (entL a b c d n q m) = [] := by
  have hf : fsts (entL a b c d n q m) = [0] := by
    simp [fsts, entL, isFst, List.range, List.range.loop]
  have hg : grpAt (entL a b c d n q m) 0 = entL a b c d n q m := by simp [grpAt, grp, entL]
  have hv1 : ∀ x : Int, 0 ≤ x → x ≤ 1000000000000 → vfB x 1 = true := by
    intro x h0 h1
    simp [vfB]
    omega
  have hs : soundB (entL a b c d n q m) = true := by
    have ha := hv1 a h.a0 h.a1
    have hb := hv1 b h.b0 h.b1
    have hc := hv1 c h.c0 (by have := h.c1; have := h.b1; omega)
    have hd := hv1 d h.d0 (by have := h.d1; have := h.a1; omega)
    have hm0 : 0 ≤ m ∧ m ≤ 1000000000000 := by have := h.nt; have := h.c0; have := h.c1; have := h.b1; have := h.d0; have := h.d1; have := h.a1; omega
    have hm := hv1 m hm0.1 hm0.2
    obtain ⟨a0, a1, b0, b1, c0, c1, d0, d1, n0, n1, vf, nt, _, _⟩ := h
    simp [soundB, wrongB, entL, arithB, firstV, fitB, ha, hb, hc, hd, hm, vf]
    omega
  unfold unsL
  rw [hf]
  simp [hg, hs]
end Go.Proofs.Ytnlcgiemhegmcaa
