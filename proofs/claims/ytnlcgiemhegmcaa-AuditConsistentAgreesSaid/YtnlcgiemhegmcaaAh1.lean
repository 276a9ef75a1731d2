/-
  How slices of structs of numbers that came in are opened.
-/
import Derived.Test.YtnlcgiemhegmcaaFrn
import Derived.Deep.Slices
namespace Go.Proofs.Ytnlcgiemhegmcaa
open Go.ChangeShapes Go.WideShapes Go.ChangeAt Go.RowKit Go.Deep
set_option linter.unusedVariables false

theorem one_int : Try.prog.cellsOf 3 = 1 := by kernel_rfl
theorem choose_list {α : Type} (Q : Nat → α → Prop) : ∀ n, (∀ i, i < n → ∃ x, Q i x) → ∃ L : List α, L.length = n ∧ ∀ i x, L[i]? = some x → Q i x
  | 0, _ => ⟨[], rfl, fun i x h => by simp at h⟩
  | n + 1, h => by
    obtain ⟨L, hl, hL⟩ := choose_list Q n (fun i hi => h i (by omega))
    obtain ⟨x, hx⟩ := h n (by omega)
    refine ⟨L ++ [x], by simp [hl], fun i y hy => ?_⟩
    by_cases hi : i < L.length
    · rw [List.getElem?_append_left hi] at hy
      exact hL i y hy
    · rw [List.getElem?_append_right (by omega)] at hy
      have h2 := (List.getElem?_eq_some_iff.1 hy).1
      simp at h2
      have h3 : i = n := by omega
      subst h3
      rw [hl, Nat.sub_self] at hy
      simp at hy
      subst hy
      exact hx
section
variable {H : Type} {enc : TypeId × Value → H} {w : World} {base : Nat} {spare : Nat → Bool} {held : Bool}
theorem fld_int {n : Nat} {t : TypeId} {cs : List Value} {off : Nat} {y : Option (DataW H × List MemPlace)} {ys : DataW H × List MemPlace} (ht : t = 3)
    (h : DataW.trod enc Try.prog w base spare held n t ((cs.drop off).take (Try.prog.cellsOf t)) = y) (hy : y = some ys) : ∃ x : Int, cs[off]? = some (.int .i64 x) ∧ (Lit.int .i64 x).wf = true := by
  subst ht hy
  obtain ⟨x, hx, _, hw⟩ := DataW.trod_int Try.underlying3 h
  rw [one_int] at hx
  refine ⟨x, ?_, hw⟩
  have : ((cs.drop off).take 1)[0]? = some (.int .i64 x) := by rw [hx]; rfl
  simpa using this
theorem some_of_lt {α : Type} {l : List α} {i : Nat} (h : i < l.length) : ∃ y, l[i]? = some y := ⟨_, List.getElem?_eq_getElem h⟩
/-- A slice of elements of C cells, each of which reads as some x of which P holds. -/
theorem open_rows {α : Type} (cells : α → Array Value) (OK : α → Prop) (C : Nat) (hC0 : 0 < C) {t e : TypeId} (ht : Try.prog.underlying t = some (.slice e)) (hC : Try.prog.cellsOf e = C)
    (helem : ∀ {n : Nat} {cs : List Value} {y : DataW H × List MemPlace}, DataW.trod enc Try.prog w base spare held n e cs = some y → ∃ x : α, cs = (cells x).toList ∧ OK x)
    (hsz : ∀ x, (cells x).size = C) {r : Reach} {b0 : Nat} {v : Value} {d : DataW H} {p : List MemPlace} (hv : Value.okWide Try.prog w r b0 t v) (h : DataW.Trod enc Try.prog w base spare held t v d p) :
    ∃ (a : Option Addr) (c : Nat) (L : List α), v = .slice a L.length c ∧ L.length ≤ c ∧ c ≤ maxLen ∧ (a = none → c = 0) ∧ (∀ x ∈ L, OK x) ∧ (0 < L.length → ∃ b o, a = some ⟨b, o, none⟩ ∧ b < w.heap.size ∧ ∀ i x, L[i]? = some x → ∀ j, j < C → w.cell? ⟨b, o + i * C + j, none⟩ = (cells x)[j]?) := by
  obtain ⟨a0, len, cap, rfl⟩ := okWide_slice ht hv
  obtain ⟨fuel, hf⟩ := h
  rcases open_slice ht hf with ⟨hcs, hx⟩ | ⟨a, len', cap', m, n, D, Pl, hcs, hb, hle, hmax, hm, hx, hi⟩
  · simp [Value.cells] at hcs
    obtain ⟨rfl, rfl, rfl⟩ := hcs
    exact ⟨none, 0, [], rfl, Nat.le_refl _, Nat.zero_le _, fun _ => rfl, (fun x hx => by cases hx), fun h => by simp at h⟩
  · simp [Value.cells] at hcs
    obtain ⟨rfl, rfl, rfl⟩ := hcs
    have hlm : len ≤ m := by rw [hm]; split <;> omega
    have hex : ∀ i, i < m → ∃ x : α, OK x ∧ ∀ j, j < C → w.cell? ((a.add (i * C)).add j) = (cells x)[j]? := by
      intro i hi'
      obtain ⟨cs', hc, ht'⟩ := hi i hi'
      rw [hC] at hc
      obtain ⟨_, hcl, hat⟩ := World.cells?_some hc
      obtain ⟨x, rfl, hok⟩ := helem ht'
      refine ⟨x, hok, fun j hj => ?_⟩
      rw [hat j hj]
      simp
    obtain ⟨L, hLl, hL⟩ := choose_list (fun i (x : α) => OK x ∧ ∀ j, j < C → w.cell? ((a.add (i * C)).add j) = (cells x)[j]?) len (fun i hi' => hex i (by omega))
    refine ⟨some a, cap, L, by rw [hLl], by omega, hmax, (fun h => by cases h), ?_, fun hp => ?_⟩
    · intro x hx
      obtain ⟨i, hi', rfl⟩ := List.getElem_of_mem hx
      exact (hL i _ (List.getElem?_eq_getElem hi')).1
    · obtain ⟨b, off, spot⟩ := a
      obtain ⟨x0, hx0⟩ := some_of_lt hp
      have h0 := (hL 0 x0 hx0).2 0 hC0
      have hc0 : ∃ u, (cells x0)[0]? = some u := ⟨_, Array.getElem?_eq_getElem (by rw [hsz]; exact hC0)⟩
      obtain ⟨u, hu⟩ := hc0
      rw [hu] at h0
      have hspot : spot = none := by simpa [Addr.add] using World.cell?_spot h0
      subst hspot
      have hlt : b < w.heap.size := by
        simp only [World.cell?, Addr.add] at h0
        rcases Nat.lt_or_ge b w.heap.size with h | h
        · exact h
        · simp [Array.getElem?_eq_none h] at h0
      refine ⟨b, off, rfl, hlt, fun i x hx j hj => ?_⟩
      have := (hL i x hx).2 j hj
      rw [Go.Deep.add_add, Go.WideShapes.add_plain] at this
      rw [Nat.add_assoc]
      exact this
end
theorem lines_elem {H : Type} {enc : TypeId × Value → H} {w : World} {base : Nat} {spare : Nat → Bool} {held : Bool} {n : Nat} {cs : List Value} {y : DataW H × List MemPlace} (h : DataW.trod enc Try.prog w base spare held n 36 cs = some y) :
    ∃ x : Ln, cs = (lcells x.s x.b x.it x.n x.d).toList ∧ ((-9223372036854775808 ≤ x.s ∧ x.s ≤ 9223372036854775807) ∧ (-9223372036854775808 ≤ x.b ∧ x.b ≤ 9223372036854775807) ∧ (-9223372036854775808 ≤ x.it ∧ x.it ≤ 9223372036854775807)) := by
  obtain ⟨xs, m, _, _, hlen, hxl, hg⟩ := DataW.trod_struct Try.underlying36 h
  have hlen5 : cs.length = 5 := hlen.trans (by kernel_rfl)
  have hxm : xs.length = 4 := hxl
  obtain ⟨y0, hy0⟩ := some_of_lt (l := xs) (i := 0) (by omega)
  obtain ⟨x0, e0, w0⟩ := fld_int rfl (hg 0 _ rfl) hy0
  obtain ⟨y1, hy1⟩ := some_of_lt (l := xs) (i := 1) (by omega)
  obtain ⟨x1, e1, w1⟩ := fld_int rfl (hg 1 _ rfl) hy1
  obtain ⟨y2, hy2⟩ := some_of_lt (l := xs) (i := 2) (by omega)
  obtain ⟨x2, e2, w2⟩ := fld_int rfl (hg 2 _ rfl) hy2
  obtain ⟨y3, hy3⟩ := some_of_lt (l := xs) (i := 3) (by omega)
  have h3 := (hg 3 _ rfl).trans hy3
  obtain ⟨zs, m', _, _, hl2, hzl, hg2⟩ := DataW.trod_struct Try.underlying34 h3
  have hzm : zs.length = 2 := hzl
  obtain ⟨z0, hz0⟩ := some_of_lt (l := zs) (i := 0) (by omega)
  obtain ⟨x3, e3, w3⟩ := fld_int rfl (hg2 0 _ rfl) hz0
  obtain ⟨z1, hz1⟩ := some_of_lt (l := zs) (i := 1) (by omega)
  obtain ⟨x4, e4, w4⟩ := fld_int rfl (hg2 1 _ rfl) hz1
  match cs, hlen5 with
  | [c0, c1, c2, c3, c4], _ =>
    simp [show Try.prog.cellsOf 34 = 2 from by kernel_rfl] at e0 e1 e2 e3 e4
    subst e0 e1 e2 e3 e4
    exact ⟨⟨x0, x1, x2, x3, x4⟩, rfl, i64_of_wf w0, i64_of_wf w1, i64_of_wf w2⟩
theorem raw_elem {H : Type} {enc : TypeId × Value → H} {w : World} {base : Nat} {spare : Nat → Bool} {held : Bool} {n : Nat} {cs : List Value} {y : DataW H × List MemPlace} (h : DataW.trod enc Try.prog w base spare held n 45 cs = some y) :
    ∃ x : Ln, cs = (lcells x.s x.b x.it x.n x.d).toList ∧ True := by
  obtain ⟨xs, m, _, _, hlen, hxl, hg⟩ := DataW.trod_struct Try.underlying45 h
  have hlen5 : cs.length = 5 := hlen.trans (by kernel_rfl)
  have hxm : xs.length = 5 := hxl
  obtain ⟨y0, hy0⟩ := some_of_lt (l := xs) (i := 0) (by omega)
  obtain ⟨x0, e0, w0⟩ := fld_int rfl (hg 0 _ rfl) hy0
  obtain ⟨y1, hy1⟩ := some_of_lt (l := xs) (i := 1) (by omega)
  obtain ⟨x1, e1, w1⟩ := fld_int rfl (hg 1 _ rfl) hy1
  obtain ⟨y2, hy2⟩ := some_of_lt (l := xs) (i := 2) (by omega)
  obtain ⟨x2, e2, w2⟩ := fld_int rfl (hg 2 _ rfl) hy2
  obtain ⟨y3, hy3⟩ := some_of_lt (l := xs) (i := 3) (by omega)
  obtain ⟨x3, e3, w3⟩ := fld_int rfl (hg 3 _ rfl) hy3
  obtain ⟨y4, hy4⟩ := some_of_lt (l := xs) (i := 4) (by omega)
  obtain ⟨x4, e4, w4⟩ := fld_int rfl (hg 4 _ rfl) hy4
  match cs, hlen5 with
  | [c0, c1, c2, c3, c4], _ =>
    simp at e0 e1 e2 e3 e4
    subst e0 e1 e2 e3 e4
    exact ⟨⟨x0, x1, x2, x3, x4⟩, rfl, trivial⟩
theorem Lns.of_rows {w : World} {a : Option Addr} {c : Nat} {L : List Ln} (hc : L.length ≤ c) (h : 0 < L.length → ∃ b o, a = some ⟨b, o, none⟩ ∧ b < w.heap.size ∧ ∀ i x, L[i]? = some x → ∀ j, j < 5 → w.cell? ⟨b, o + i * 5 + j, none⟩ = (lcells x.s x.b x.it x.n x.d)[j]?) :
    Lns w.heap.size w (.slice a L.length c) L := by
  refine ⟨a, c, rfl, hc, fun hp => ?_⟩
  obtain ⟨b, o, ha, hb, hcell⟩ := h hp
  refine ⟨b, o, ha, hb, fun i hi => ?_⟩
  have e : L[i]? = some (ln L i) := by unfold ln; simp [List.getD, hi]
  have h1 := hcell i _ e
  exact ⟨h1 0 (by omega), h1 1 (by omega), h1 2 (by omega), h1 3 (by omega), h1 4 (by omega)⟩
theorem LnsR.of_all {L : List Ln} (h : ∀ x ∈ L, (-9223372036854775808 ≤ x.s ∧ x.s ≤ 9223372036854775807) ∧ (-9223372036854775808 ≤ x.b ∧ x.b ≤ 9223372036854775807) ∧ (-9223372036854775808 ≤ x.it ∧ x.it ≤ 9223372036854775807)) : LnsR L := by
  intro i hi
  apply h
  unfold ln
  simp [List.getD, hi]
end Go.Proofs.Ytnlcgiemhegmcaa
