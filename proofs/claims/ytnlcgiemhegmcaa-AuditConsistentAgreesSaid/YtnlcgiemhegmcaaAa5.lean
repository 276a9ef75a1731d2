/-
  An entry is sound: the contract of sound. Conditions: where the entry is not wrong, its values are in their ranges.
-/
import Derived.Test.YtnlcgiemhegmcaaAa4
namespace Go.Proofs.Ytnlcgiemhegmcaa
open Go.RowKit
set_option linter.unusedVariables false

def U1 (V : Int → Option (Int × Int)) (x : Int) : Option Int := (V x).map (·.1)
def arithU (U : Int → Option Int) : Bool :=
  ((U 5).isSome || ((match U 1, U 6, U 4, U 7 with | some i, some d, some p, some n => n == max (i - d) p | _, _, _, _ => true) && (match U 1, U 6 with | some i, some d => decide (d ≤ i) | _, _ => true))) &&
  ((match U 4, U 2 with | some p, some t => decide (p ≤ t) | _, _ => true) && (match U 7, U 8 with | some n, some c => decide (n < c) | _, _ => true))
theorem arith_U (V : Int → Option (Int × Int)) : arithB V = arithU (U1 V) := by
  unfold arithB arithU U1
  cases V 1 <;> cases V 6 <;> cases V 4 <;> cases V 7 <;> cases V 2 <;> cases V 8 <;> cases V 5 <;> rfl
theorem own_cells {W : World} {base : Nat} {e : TypeId} {v : Value} {xs : List Value} (h : W.ownsRow base e 1 v xs.length xs) (hn : 0 < xs.length) :
    ∃ gb cap, v = .slice (some ⟨gb, 0, none⟩) xs.length cap ∧ xs.length ≤ cap ∧ base ≤ gb ∧ gb < W.heap.size ∧ ∀ i, i < xs.length → W.cell? ⟨gb, i, none⟩ = xs[i]? := by
  rcases h.2 with ⟨rfl, h0⟩ | ⟨g, cap, cur, rfl, h1, h2, h3⟩
  · omega
  · obtain ⟨h3, h4, h5, h6⟩ := h3
    refine ⟨g, cap, rfl, h3, h1, (Array.getElem?_eq_some_iff.1 h2).1, fun i hi => ?_⟩
    rw [(show BlkIs W g e cur from h2).cell i]
    have h7 : (cur.toList.take (xs.length * 1))[i]? = xs[i]? := by rw [h6]
    rw [List.getElem?_take] at h7
    rw [if_pos (by omega)] at h7
    rw [← h7]
    simp
/-- What is known in the course of sound. -/
structure SndR (g m k : Nat) (j : Int) (b : Bool) (V : Int → Option (Int × Int)) (w W : World) : Prop where
  ent : BlkIs W g 53 (ecells j m b)
  map : MapF W Try.prog 3 m k (iF V)
  bel : Below w.heap.size w W
theorem SndR.below {g m k : Nat} {j : Int} {b : Bool} {V : Int → Option (Int × Int)} {w W W' : World} (h : SndR g m k j b V w W) (hb : Below W.heap.size W W') : SndR g m k j b V w W' :=
  ⟨h.ent.below hb h.ent.lt, h.map.keep (hb.block _ h.map.lt), bnext h.bel hb⟩
theorem SndR.alloc {g m k : Nat} {j : Int} {b : Bool} {V : Int → Option (Int × Int)} {w W : World} (h : SndR g m k j b V w W) (o : Obj) : SndR g m k j b V w (W.alloc o) := h.below ((Below.refl _ _).alloc (Nat.le_refl _) _)
def Val2Post (R : World → Prop) (V : Int → Option (Int × Int)) (x y : Int) (e : Ending) (w' : World) : Prop :=
  R w' ∧ ((∃ (a b : Int) (gb cap : Nat), U1 V x = some a ∧ U1 V y = some b ∧ e = .returned (.tuple #[.slice (some ⟨gb, 0, none⟩) 2 cap, .bool true]) ∧ w'.cell? ⟨gb, 0, none⟩ = some (.int .i64 a) ∧ w'.cell? ⟨gb, 1, none⟩ = some (.int .i64 b)) ∨
    ((U1 V x = none ∨ U1 V y = none) ∧ e = .returned (.tuple #[.slice none 0 0, .bool false])))
theorem val2_any (x y : Int) {g m k p : Nat} {j : Int} {b : Bool} {V : Int → Option (Int × Int)} {w W : World} (hx1 : -9223372036854775808 ≤ x) (hx2 : x ≤ 9223372036854775807) (hy1 : -9223372036854775808 ≤ y) (hy2 : y ≤ 9223372036854775807) (h : SndR g m k j b V w W)
    (hp : p = W.heap.size) :
    Calls Try.prog 26 #[.pointer (some ⟨g, 0, none⟩), .slice (some ⟨p, 0, none⟩) 2 2] (W.alloc (.cells #[.int .i64 x, .int .i64 y] 3)) (Val2Post (SndR g m k j b V w) V x y) := by
  subst hp
  have h' := h.alloc (.cells #[.int .i64 x, .int .i64 y] 3)
  refine (values_any g m k W.heap.size j b V [x, y] _ (by intro z hz; rcases List.mem_cons.1 hz with rfl | hz; exact ⟨hx1, hx2⟩; rcases List.mem_cons.1 hz with rfl | hz; exact ⟨hy1, hy2⟩; cases hz) (by simp) h'.ent h'.map (BlkIs.new W _ _)).mono ?_
  rintro e w' ⟨hb, h1⟩
  refine ⟨h'.below hb, ?_⟩
  rcases h1 with ⟨l, v, hl, rfl, ho⟩ | ⟨hn, rfl⟩
  · left
    unfold allV at hl
    cases hvx : V x with
    | none => rw [hvx] at hl; cases hl
    | some px =>
      rw [hvx] at hl
      simp only [allV] at hl
      cases hvy : V y with
      | none => rw [hvy] at hl; cases hl
      | some py =>
        rw [hvy] at hl
        simp only [Option.map_some, Option.some.injEq] at hl
        subst hl
        obtain ⟨gb, cap, rfl, _, _, _, hc⟩ := own_cells (xs := intsV [px.1, py.1]) ho (by simp [intsV])
        exact ⟨px.1, py.1, gb, cap, by simp [U1, hvx], by simp [U1, hvy], rfl, hc 0 (by simp [intsV]), hc 1 (by simp [intsV])⟩
  · right
    refine ⟨?_, rfl⟩
    unfold allV at hn
    cases hvx : V x with
    | none => left; simp [U1, hvx]
    | some px =>
      rw [hvx] at hn
      simp only [allV] at hn
      cases hvy : V y with
      | none => right; simp [U1, hvy]
      | some py => rw [hvy] at hn; cases hn
def Val4Post (R : World → Prop) (V : Int → Option (Int × Int)) (e : Ending) (w' : World) : Prop :=
  R w' ∧ ((∃ (a b c d : Int) (gb cap : Nat), U1 V 1 = some a ∧ U1 V 6 = some b ∧ U1 V 4 = some c ∧ U1 V 7 = some d ∧ e = .returned (.tuple #[.slice (some ⟨gb, 0, none⟩) 4 cap, .bool true]) ∧ w'.cell? ⟨gb, 0, none⟩ = some (.int .i64 a) ∧ w'.cell? ⟨gb, 1, none⟩ = some (.int .i64 b) ∧ w'.cell? ⟨gb, 2, none⟩ = some (.int .i64 c) ∧ w'.cell? ⟨gb, 3, none⟩ = some (.int .i64 d)) ∨
    ((U1 V 1 = none ∨ U1 V 6 = none ∨ U1 V 4 = none ∨ U1 V 7 = none) ∧ e = .returned (.tuple #[.slice none 0 0, .bool false])))
theorem val4_any {g m k p : Nat} {j : Int} {b : Bool} {V : Int → Option (Int × Int)} {w W : World} (h : SndR g m k j b V w W) (hp : p = W.heap.size) :
    Calls Try.prog 26 #[.pointer (some ⟨g, 0, none⟩), .slice (some ⟨p, 0, none⟩) 4 4] (W.alloc (.cells #[.int .i64 1, .int .i64 6, .int .i64 4, .int .i64 7] 3)) (Val4Post (SndR g m k j b V w) V) := by
  subst hp
  have h' := h.alloc (.cells #[.int .i64 1, .int .i64 6, .int .i64 4, .int .i64 7] 3)
  refine (values_any g m k W.heap.size j b V [1, 6, 4, 7] _ (by intro z hz; simp only [List.mem_cons, List.not_mem_nil, or_false] at hz; omega) (by simp) h'.ent h'.map (BlkIs.new W _ _)).mono ?_
  rintro e w' ⟨hb, h1⟩
  refine ⟨h'.below hb, ?_⟩
  have hU : ∀ x, U1 V x = (V x).map (·.1) := fun _ => rfl
  rw [hU, hU, hU, hU]
  rcases h1 with ⟨l, v, hl, rfl, ho⟩ | ⟨hn, rfl⟩
  · left
    simp only [allV] at hl
    cases h1 : V 1 <;> cases h6 : V 6 <;> cases h4 : V 4 <;> cases h7 : V 7 <;> simp only [h1, h6, h4, h7, Option.map_none, Option.map_some, reduceCtorEq, Option.some.injEq] at hl
    subst hl
    obtain ⟨gb, cap, rfl, _, _, _, hc⟩ := own_cells (xs := intsV _) ho (by simp [intsV])
    exact ⟨_, _, _, _, gb, cap, rfl, rfl, rfl, rfl, rfl, hc 0 (by simp [intsV]), hc 1 (by simp [intsV]), hc 2 (by simp [intsV]), hc 3 (by simp [intsV])⟩
  · right
    refine ⟨?_, rfl⟩
    simp only [allV] at hn
    cases h1 : V 1 <;> cases h6 : V 6 <;> cases h4 : V 4 <;> cases h7 : V 7 <;> simp_all
end Go.Proofs.Ytnlcgiemhegmcaa
