/-
  A row of positions that is filled in place. No conditions.
-/
import Derived.Test.YtnlcgiemhegmcaaAh1
import Derived.Test.YtnlcgiemhegmcaaMix
import Derived.Maps.AppendAt
import Derived.Laws.AppendOwnNone
namespace Go.Proofs.Ytnlcgiemhegmcaa
open Go.ChangeShapes Go.WideShapes Go.ChangeAt Go.RowKit Go.Deep
set_option linter.unusedVariables false

theorem Try.infoPo : (Try.prog.info? 40).map (fun i => (i.zero, i.size, i.bytes)) = some (some (.agg #[.int .i64 0, .int .i64 0, .int .i64 0, .int .i64 0, .int .i64 0, .int .i64 0, .int .i64 0]), 7, 56) := by kernel_rfl
/-- A position that is consistent by itself, with numbers of modest size, at place j. -/
def KOk (j : Nat) (x : Po) : Prop := x.s = 2 * (j : Int) ∧ (0 ≤ x.d ∧ x.d ≤ 1000000000000) ∧ (0 ≤ x.p ∧ x.p ≤ 1000000000000) ∧ (0 ≤ x.t ∧ x.t < 100) ∧ (0 ≤ x.r ∧ x.r < 100) ∧ x.o = x.d - (x.p + x.t - x.r)
def KAll (K : List Po) : Prop := ∀ j x, K[j]? = some x → KOk j x
theorem KAll.snoc {K : List Po} (h : KAll K) {x : Po} (hx : KOk K.length x) : KAll (K ++ [x]) := by
  intro j y hy
  by_cases hj : j < K.length
  · rw [List.getElem?_append_left hj] at hy
    exact h j y hy
  · rw [List.getElem?_append_right (by omega)] at hy
    have h2 := (List.getElem?_eq_some_iff.1 hy).1
    simp at h2
    have h3 : j = K.length := by omega
    subst h3
    simp at hy
    subst hy
    exact hx
theorem po_get {L : List Po} {i : Nat} (h : i < L.length) : L[i]? = some (po L i) := by unfold po; simp [List.getD, h]
theorem KAll.cons {K : List Po} (h : KAll K) : consB K = true := by
  unfold consB consTo
  rw [List.all_eq_true]
  intro i hi
  have hi' : i < K.length := by simpa using hi
  obtain ⟨h1, _, _, _, _, h6⟩ := h i _ (po_get hi')
  unfold consAt balB
  rw [Bool.and_eq_true]
  constructor
  · rcases i with _ | i
    · rfl
    · obtain ⟨g1, _⟩ := h i _ (po_get (by omega))
      rw [show i + 1 - 1 = i by omega, g1, h1]
      simp
      omega
  · simpa using h6
theorem KAll.bd {K : List Po} (h : KAll K) : PoBd K := by
  intro i hi
  obtain ⟨_, h2, h3, h4, h5, _⟩ := h i _ (po_get hi)
  exact ⟨⟨by omega, by omega⟩, ⟨by omega, by omega⟩, ⟨by omega, by omega⟩, by omega, by omega⟩
/-- One position that is not balanced makes a statement inconsistent. -/
theorem cons_broken {K : List Po} {i : Nat} (hi : i < K.length) (h : (po K i).o ≠ (po K i).d - ((po K i).p + (po K i).t - (po K i).r)) : consB K = false := by
  apply consTo_all hi
  unfold consAt balB
  rw [show ((po K i).o == (po K i).d - ((po K i).p + (po K i).t - (po K i).r)) = false from beq_eq_false_iff_ne.2 h]
  simp
/-- The row at block g, of n places, holds the positions K and then anything. -/
structure KR (w : World) (g n : Nat) (K : List Po) (W : World) : Prop where
  bel : Below w.heap.size w W
  lo : w.heap.size ≤ g
  lt : g < W.heap.size
  room : ∀ m, m < n * 7 → (W.cell? ⟨g, m, none⟩).isSome = true
  frz : ∀ m, W.frozen? ⟨g, m, none⟩ = false
  cell : ∀ j x, K[j]? = some x → ∀ q, q < 7 → W.cell? ⟨g, j * 7 + q, none⟩ = (pcells x)[q]?
theorem KR.below {w : World} {g n : Nat} {K : List Po} {W W' : World} (h : KR w g n K W) (hb : Below W.heap.size W W') : KR w g n K W' :=
  ⟨bnext h.bel hb, h.lo, Nat.lt_of_lt_of_le h.lt hb.size, fun m hm => by rw [hb.cell (p := ⟨g, m, none⟩) h.lt]; exact h.room m hm, fun m => by rw [hb.frozen (p := ⟨g, m, none⟩) h.lt]; exact h.frz m, fun j x hx q hq => (hb.cell (p := ⟨g, j * 7 + q, none⟩) h.lt).trans (h.cell j x hx q hq)⟩
theorem frz_set (W : World) (p : Addr) (u : Value) (q : Addr) : (W.setCell p u).frozen? q = W.frozen? q := World.frozen?_setCell _ _ _ _
theorem KR.set {w : World} {g n : Nat} {K : List Po} {W : World} (h : KR w g n K W) {m : Nat} (hm : K.length * 7 ≤ m) (u : Value) : KR w g n K (W.setCell ⟨g, m, none⟩ u) := by
  refine ⟨h.bel.setCell h.lo _, h.lo, by simpa using h.lt, fun m' hm' => ?_, fun m' => by rw [frz_set]; exact h.frz m', fun j x hx q hq => ?_⟩
  · by_cases e : m' = m
    · subst e
      rw [World.cell?_setCell_same' _ _ _ (h.room _ hm')]
      rfl
    · have hne : (⟨g, m, none⟩ : Addr) ≠ ⟨g, m', none⟩ := by intro h; injection h with _ h2; omega
      rw [World.cell?_setCell_other _ _ _ _ hne]
      exact h.room m' hm'
  · have hj : j < K.length := (List.getElem?_eq_some_iff.1 hx).1
    have hne : (⟨g, m, none⟩ : Addr) ≠ ⟨g, j * 7 + q, none⟩ := by intro h; injection h with _ h2; omega
    rw [World.cell?_setCell_other _ _ _ _ hne]
    exact h.cell j x hx q hq
theorem KR.snoc {w : World} {g n : Nat} {K : List Po} {W : World} (h : KR w g n K W) (x : Po) (hx : ∀ q, q < 7 → W.cell? ⟨g, K.length * 7 + q, none⟩ = (pcells x)[q]?) : KR w g n (K ++ [x]) W := by
  refine ⟨h.bel, h.lo, h.lt, h.room, h.frz, fun j y hy q hq => ?_⟩
  by_cases hj : j < K.length
  · rw [List.getElem?_append_left hj] at hy
    exact h.cell j y hy q hq
  · rw [List.getElem?_append_right (by omega)] at hy
    have h2 := (List.getElem?_eq_some_iff.1 hy).1
    simp at h2
    have h3 : j = K.length := by omega
    subst h3
    simp at hy
    subst hy
    exact hx q hq
theorem KR.poss {w : World} {g n c : Nat} {K : List Po} {W : World} (h : KR w g n K W) (hc : K.length ≤ c) : Poss W.heap.size W (.slice (some ⟨g, 0, none⟩) K.length c) K :=
  ⟨_, c, rfl, hc, fun _ => ⟨g, 0, rfl, h.lt, fun i hi j hj => by rw [Nat.zero_add]; exact h.cell i _ (po_get hi) j hj⟩⟩
theorem pos_elem {H : Type} {enc : TypeId × Value → H} {w : World} {base : Nat} {spare : Nat → Bool} {held : Bool} {n : Nat} {cs : List Value} {y : DataW H × List MemPlace} (h : DataW.trod enc Try.prog w base spare held n 40 cs = some y) :
    ∃ x : Po, cs = (pcells x).toList ∧ ((-9223372036854775808 ≤ x.d ∧ x.d ≤ 9223372036854775807) ∧ (-9223372036854775808 ≤ x.p ∧ x.p ≤ 9223372036854775807)) := by
  obtain ⟨xs, m, _, _, hlen, hxl, hg⟩ := DataW.trod_struct Try.underlying40 h
  have hlen5 : cs.length = 7 := hlen.trans (by kernel_rfl)
  have hxm : xs.length = 7 := hxl
  obtain ⟨y0, hy0⟩ := some_of_lt (l := xs) (i := 0) (by omega)
  obtain ⟨x0, e0, w0⟩ := fld_int rfl (hg 0 _ rfl) hy0
  obtain ⟨y1, hy1⟩ := some_of_lt (l := xs) (i := 1) (by omega)
  obtain ⟨x1, e1, w1⟩ := fld_int rfl (hg 1 _ rfl) hy1
  obtain ⟨y2, hy2⟩ := some_of_lt (l := xs) (i := 2) (by omega)
  obtain ⟨x2, e2, w2⟩ := fld_int rfl (hg 2 _ rfl) hy2
  obtain ⟨y3, hy3⟩ := some_of_lt (l := xs) (i := 3) (by omega)
  obtain ⟨x3, e3, w3⟩ := fld_int rfl (hg 3 _ rfl) hy3
  obtain ⟨y4, hy4⟩ := some_of_lt (l := xs) (i := 4) (by omega)
  obtain ⟨x4, e4, w4⟩ := fld_int rfl (hg 4 _ rfl) hy4
  obtain ⟨y5, hy5⟩ := some_of_lt (l := xs) (i := 5) (by omega)
  obtain ⟨x5, e5, w5⟩ := fld_int rfl (hg 5 _ rfl) hy5
  obtain ⟨y6, hy6⟩ := some_of_lt (l := xs) (i := 6) (by omega)
  obtain ⟨x6, e6, w6⟩ := fld_int rfl (hg 6 _ rfl) hy6
  match cs, hlen5 with
  | [c0, c1, c2, c3, c4, c5, c6], _ =>
    simp at e0 e1 e2 e3 e4 e5 e6
    subst e0 e1 e2 e3 e4 e5 e6
    exact ⟨⟨x0, x1, x2, x3, x4, x5, x6⟩, rfl, i64_of_wf w2, i64_of_wf w3⟩
theorem Poss.of_rows {w : World} {a : Option Addr} {c : Nat} {L : List Po} (hc : L.length ≤ c) (h : 0 < L.length → ∃ b o, a = some ⟨b, o, none⟩ ∧ b < w.heap.size ∧ ∀ i x, L[i]? = some x → ∀ j, j < 7 → w.cell? ⟨b, o + i * 7 + j, none⟩ = (pcells x)[j]?) :
    Poss w.heap.size w (.slice a L.length c) L := by
  refine ⟨a, c, rfl, hc, fun hp => ?_⟩
  obtain ⟨b, o, ha, hb, hcell⟩ := h hp
  exact ⟨b, o, ha, hb, fun i hi j hj => hcell i _ (po_get hi) j hj⟩
/-- The cells of positions. -/
def rowP (L : List Po) : List Value := L.flatMap fun x => (pcells x).toList
theorem rowP_length (L : List Po) : (rowP L).length = L.length * 7 := by
  induction L with
  | nil => rfl
  | cons l L ih =>
    have e : rowP (l :: L) = (pcells l).toList ++ rowP L := rfl
    rw [e, List.length_append, ih]
    simp [pcells]
    omega
theorem rowP_at (L : List Po) : ∀ i j, i < L.length → j < 7 → (rowP L)[i * 7 + j]? = (pcells (po L i))[j]? := by
  induction L with
  | nil => intro i j hi; simp at hi
  | cons l L ih =>
    intro i j hi hj
    have e : rowP (l :: L) = (pcells l).toList ++ rowP L := rfl
    rw [e]
    cases i with
    | zero =>
      rw [List.getElem?_append_left (by simp [pcells]; omega)]
      simp [po]
    | succ i =>
      rw [List.getElem?_append_right (by simp [pcells]; omega)]
      have h := ih i j (by simpa using hi) hj
      have e2 : (i + 1) * 7 + j - (pcells l).toList.length = i * 7 + j := by simp [pcells]; omega
      rw [e2, h]
      simp [po]
theorem one_rowP (L : List Po) : ∀ u ∈ rowP L, u.oneCell' = true := by
  intro u hu
  unfold rowP at hu
  rw [List.mem_flatMap] at hu
  obtain ⟨l, _, hu⟩ := hu
  simp only [pcells, List.mem_cons, List.not_mem_nil, or_false] at hu
  rcases hu with rfl | rfl | rfl | rfl | rfl | rfl | rfl <;> rfl
/-- A copy of the first n of some positions. -/
theorem wpList_copyP {ops : Array Oper} {rest : List Oper} {o : Oper} {a : Act} {Q : Exit → Act → World → Prop} (hgd : o.guard = none) (s x : Operand)
    (ho : o.op = .call { callee := .builtin .append, args := #[s, x], argTypes := #[37, 37] })
    (w : World) (L : List Po) (hs : a.eval s = .slice none 0 0) (g k c n : Nat) (hx : a.eval x = .slice (some ⟨g, k, none⟩) n c) (hn : L.length = n)
    (hcell : ∀ i, i < L.length → ∀ j, j < 7 → w.cell? ⟨g, k + i * 7 + j, none⟩ = (pcells (po L i))[j]?) (hpos : 0 < L.length) (hlen : L.length ≤ 1000)
    (h : ∀ g' cap w', n ≤ cap → KR w g' n [] w' → wpList Try.prog ops Q rest (a.put o.dst (.slice (some ⟨g', 0, none⟩) n cap)) w') :
    wpList Try.prog ops Q (o :: rest) a w := by
  subst hn
  obtain ⟨i0, hi, hz0, hz1, hz2⟩ := info_parts Try.infoPo
  refine wpList_append_own_at _ hgd s x 37 ho w.heap.size 40 i0 _ 7 56 Try.underlying37 hi hz0 hz1 hz2 rfl (by decide) (.slice none 0 0) 0 [] hs (World.ownsRow_nil _ _ _ _) ⟨g, k, none⟩ L.length c (rowP L) hx (rowP_length L)
    ?_ (one_rowP L) (by simp only [maxLen]; omega) (by omega) (Nat.le_refl _) ?_
  · intro j u hu
    have hj : j < L.length * 7 := by
      have := (List.getElem?_eq_some_iff.1 hu).1
      rw [rowP_length] at this
      exact this
    have hq : j = j / 7 * 7 + j % 7 := by omega
    have h1 := hcell (j / 7) (by omega) (j % 7) (by omega)
    have h2 := rowP_at L (j / 7) (j % 7) (by omega) (by omega)
    rw [← hq, hu] at h2
    rw [← h2] at h1
    have e : (⟨g, k, none⟩ : Addr).add j = ⟨g, k + j / 7 * 7 + j % 7, none⟩ := by
      have : k + j / 7 * 7 + j % 7 = k + j := by omega
      rw [this]
      unfold Addr.add
      by_cases h0 : j = 0 <;> simp [h0]
    rw [e]
    exact h1
  · intro v' w' hown' hg _ hloc
    rw [Nat.zero_add] at hown'
    rcases hown'.2 with ⟨_, h0⟩ | ⟨g', cap, cur, rfl, h1, h2, h3, h4, h5, h6⟩
    · omega
    · refine h g' cap w' h3 ⟨⟨hg.os, hg.tape, hg.output, hg.size, fun k hk => hg.block k hk (by simp [Value.ownBlock])⟩, h1, (Array.getElem?_eq_some_iff.1 h2).1, fun m hm => ?_, fun m => (show BlkIs w' g' _ cur from h2).frozen m, fun j x hx => by simp at hx⟩
      rw [(show BlkIs w' g' _ cur from h2).cell m, Array.getElem?_eq_getElem (by rw [h5]; have : L.length * 7 ≤ cap * 7 := Nat.mul_le_mul_right _ h3; omega)]
      rfl
theorem kr7 {w : World} {g n : Nat} {K : List Po} {W : World} (h : KR w g n K W) {m : Nat} (hm : K.length * 7 ≤ m) (x0 x1 x2 x3 x4 x5 x6 : Value) : KR w g n K (((((((W.setCell ⟨g, m, none⟩ x0).setCell ⟨g, m + 1, none⟩ x1).setCell ⟨g, m + 2, none⟩ x2).setCell ⟨g, m + 3, none⟩ x3).setCell ⟨g, m + 4, none⟩ x4).setCell ⟨g, m + 5, none⟩ x5).setCell ⟨g, m + 6, none⟩ x6) :=
  ((((((h.set hm x0).set (by omega) x1).set (by omega) x2).set (by omega) x3).set (by omega) x4).set (by omega) x5).set (by omega) x6
theorem cell_ne {W : World} {g a b : Nat} (h : a ≠ b) (u : Value) : (W.setCell ⟨g, a, none⟩ u).cell? ⟨g, b, none⟩ = W.cell? ⟨g, b, none⟩ := by
  have hne : (⟨g, a, none⟩ : Addr) ≠ ⟨g, b, none⟩ := by intro h; injection h with _ h2; omega
  rw [World.cell?_setCell_other _ _ _ _ hne]
theorem cell_eq {W : World} {g a : Nat} (h : (W.cell? ⟨g, a, none⟩).isSome = true) (u : Value) : (W.setCell ⟨g, a, none⟩ u).cell? ⟨g, a, none⟩ = some u := World.cell?_setCell_same' _ _ _ h
theorem cells7 {W : World} {g m : Nat} (h : ∀ q, q < 7 → (W.cell? ⟨g, m + q, none⟩).isSome = true) (x0 x1 x2 x3 x4 x5 x6 : Value) : ∀ q, q < 7 → (((((((W.setCell ⟨g, m, none⟩ x0).setCell ⟨g, m + 1, none⟩ x1).setCell ⟨g, m + 2, none⟩ x2).setCell ⟨g, m + 3, none⟩ x3).setCell ⟨g, m + 4, none⟩ x4).setCell ⟨g, m + 5, none⟩ x5).setCell ⟨g, m + 6, none⟩ x6).cell? ⟨g, m + q, none⟩ = (#[x0, x1, x2, x3, x4, x5, x6] : Array Value)[q]? := by
  intro q hq
  have h0 := h 0 (by omega)
  have h1 := h 1 (by omega)
  have h2 := h 2 (by omega)
  have h3 := h 3 (by omega)
  have h4 := h 4 (by omega)
  have h5 := h 5 (by omega)
  have h6 := h 6 (by omega)
  rw [Nat.add_zero] at h0
  rcases q with _ | _ | _ | _ | _ | _ | _ | q
  · show World.cell? _ ⟨g, m, none⟩ = _
    rw [cell_ne (by omega), cell_ne (by omega), cell_ne (by omega), cell_ne (by omega), cell_ne (by omega), cell_ne (by omega), cell_eq h0]; rfl
  · rw [cell_ne (by omega), cell_ne (by omega), cell_ne (by omega), cell_ne (by omega), cell_ne (by omega), cell_eq (by rw [cell_ne (by omega)]; exact h1)]; rfl
  · rw [cell_ne (by omega), cell_ne (by omega), cell_ne (by omega), cell_ne (by omega), cell_eq (by rw [cell_ne (by omega), cell_ne (by omega)]; exact h2)]; rfl
  · rw [cell_ne (by omega), cell_ne (by omega), cell_ne (by omega), cell_eq (by rw [cell_ne (by omega), cell_ne (by omega), cell_ne (by omega)]; exact h3)]; rfl
  · rw [cell_ne (by omega), cell_ne (by omega), cell_eq (by rw [cell_ne (by omega), cell_ne (by omega), cell_ne (by omega), cell_ne (by omega)]; exact h4)]; rfl
  · rw [cell_ne (by omega), cell_eq (by rw [cell_ne (by omega), cell_ne (by omega), cell_ne (by omega), cell_ne (by omega), cell_ne (by omega)]; exact h5)]; rfl
  · rw [cell_eq (by rw [cell_ne (by omega), cell_ne (by omega), cell_ne (by omega), cell_ne (by omega), cell_ne (by omega), cell_ne (by omega)]; exact h6)]; rfl
  · exfalso; omega
theorem bel7 {B : Nat} {w W : World} {g : Nat} (h : Below B w W) (hg : B ≤ g) (m : Nat) (x0 x1 x2 x3 x4 x5 x6 : Value) : Below B w (((((((W.setCell ⟨g, m, none⟩ x0).setCell ⟨g, m + 1, none⟩ x1).setCell ⟨g, m + 2, none⟩ x2).setCell ⟨g, m + 3, none⟩ x3).setCell ⟨g, m + 4, none⟩ x4).setCell ⟨g, m + 5, none⟩ x5).setCell ⟨g, m + 6, none⟩ x6) :=
  ((((((h.setCell hg x0).setCell hg x1).setCell hg x2).setCell hg x3).setCell hg x4).setCell hg x5).setCell hg x6
def brk (K : List Po) (k : Nat) (o' : Int) : List Po := K.set k ⟨(po K k).s, (po K k).c, (po K k).d, (po K k).p, (po K k).t, (po K k).r, o'⟩
theorem brk_len (K : List Po) (k : Nat) (o' : Int) : (brk K k o').length = K.length := by simp [brk]
theorem po_brk (K : List Po) {k : Nat} (hk : k < K.length) (o' : Int) (i : Nat) : po (brk K k o') i = if i = k then ⟨(po K k).s, (po K k).c, (po K k).d, (po K k).p, (po K k).t, (po K k).r, o'⟩ else po K i := by
  unfold brk
  by_cases h : i = k
  · subst h
    rw [if_pos rfl]
    generalize (⟨(po K i).s, (po K i).c, (po K i).d, (po K i).p, (po K i).t, (po K i).r, o'⟩ : Po) = y
    unfold po
    simp [List.getD, hk]
  · rw [if_neg h]
    unfold po
    simp [List.getD, List.getElem?_set_ne (Ne.symm h)]
theorem KR.upd {w : World} {g n : Nat} {K : List Po} {W : World} (h : KR w g n K W) {k : Nat} (hk : k < K.length) (hn : K.length ≤ n) (o' : Int) : KR w g n (brk K k o') (W.setCell ⟨g, k * 7 + 6, none⟩ (.int .i64 o')) := by
  refine ⟨h.bel.setCell h.lo _, h.lo, by simpa using h.lt, fun m' hm' => ?_, fun m' => by rw [frz_set]; exact h.frz m', fun j x hx q hq => ?_⟩
  · by_cases e : k * 7 + 6 = m'
    · subst e
      rw [cell_eq (h.room _ hm')]
      rfl
    · rw [cell_ne e]
      exact h.room m' hm'
  · have hj : j < K.length := by rw [← brk_len K k o']; exact (List.getElem?_eq_some_iff.1 hx).1
    have hx2 := po_get (L := brk K k o') (i := j) (by rw [brk_len]; exact hj)
    rw [hx] at hx2
    injection hx2 with hx2
    rw [hx2, po_brk K hk]
    by_cases e : j = k
    · subst e
      rw [if_pos rfl]
      by_cases h6 : q = 6
      · subst h6
        rw [cell_eq (h.room _ (by omega))]
        rfl
      · rw [cell_ne (by omega), h.cell j _ (po_get hj) q hq]
        rcases q with _ | _ | _ | _ | _ | _ | _ | q
        all_goals first | rfl | (exfalso; omega)
    · rw [if_neg e, cell_ne (by omega)]
      exact h.cell j _ (po_get hj) q hq
theorem brk_bd {K : List Po} (h : KAll K) {k : Nat} (hk : k < K.length) (o' : Int) : PoBd (brk K k o') := by
  intro i hi
  rw [brk_len] at hi
  have hb := h.bd
  rw [po_brk K hk]
  by_cases e : i = k
  · subst e
    rw [if_pos rfl]
    exact hb i hi
  · rw [if_neg e]
    exact hb i hi
theorem brk_cons {K : List Po} (h : KAll K) {k : Nat} (hk : k < K.length) {o' : Int} (ho : o' ≠ (po K k).o) : consB (brk K k o') = false := by
  apply cons_broken (i := k) (by rw [brk_len]; exact hk)
  rw [po_brk K hk, if_pos rfl]
  obtain ⟨_, _, _, _, _, h6⟩ := h k _ (po_get hk)
  rw [← h6]
  exact ho
end Go.Proofs.Ytnlcgiemhegmcaa
