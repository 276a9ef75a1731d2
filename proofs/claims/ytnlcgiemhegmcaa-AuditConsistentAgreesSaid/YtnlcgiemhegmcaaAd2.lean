/-
  The lines of a sound explanation: the contract of Entry. No conditions beyond the machine's ranges.
-/
import Derived.Test.YtnlcgiemhegmcaaAd1
namespace Go.Proofs.Ytnlcgiemhegmcaa
open Go.RowKit
set_option linter.unusedVariables false

/-- The cells of lines. -/
def rowL (L : List Ln) : List Value := L.flatMap fun l => (lcells l.s l.b l.it l.n l.d).toList
theorem rowL_length (L : List Ln) : (rowL L).length = L.length * 5 := by
  induction L with
  | nil => rfl
  | cons l L ih =>
    have e : rowL (l :: L) = (lcells l.s l.b l.it l.n l.d).toList ++ rowL L := rfl
    rw [e, List.length_append, ih]
    simp [lcells]
    omega
theorem rowL_append (L M : List Ln) : rowL (L ++ M) = rowL L ++ rowL M := by simp [rowL]
theorem rowL_at (L : List Ln) : ∀ i j, i < L.length → j < 5 → (rowL L)[i * 5 + j]? = (lcells (ln L i).s (ln L i).b (ln L i).it (ln L i).n (ln L i).d)[j]? := by
  induction L with
  | nil => intro i j hi; simp at hi
  | cons l L ih =>
    intro i j hi hj
    have e : rowL (l :: L) = (lcells l.s l.b l.it l.n l.d).toList ++ rowL L := rfl
    rw [e]
    cases i with
    | zero =>
      rw [List.getElem?_append_left (by simp [lcells]; omega)]
      simp [ln]
    | succ i =>
      rw [List.getElem?_append_right (by simp [lcells]; omega)]
      have h := ih i j (by simpa using hi) hj
      have e2 : (i + 1) * 5 + j - (lcells l.s l.b l.it l.n l.d).toList.length = i * 5 + j := by simp [lcells]; omega
      rw [e2, h]
      simp [ln]
/-- Cells that read as lines. -/
theorem Lns.of_cells {w : World} {g c : Nat} {L : List Ln} (hg : g < w.heap.size) (hc : L.length ≤ c) (h : ∀ j, j < L.length * 5 → w.cell? ⟨g, j, none⟩ = (rowL L)[j]?) : Lns w.heap.size w (.slice (some ⟨g, 0, none⟩) L.length c) L := by
  refine ⟨_, c, rfl, hc, fun _ => ⟨g, 0, rfl, hg, fun i hi => ?_⟩⟩
  have e : ∀ j, j < 5 → w.cell? ⟨g, 0 + i * 5 + j, none⟩ = (lcells (ln L i).s (ln L i).b (ln L i).it (ln L i).n (ln L i).d)[j]? := by
    intro j hj
    rw [Nat.zero_add, h _ (by omega), rowL_at L i j hi hj]
  exact ⟨e 0 (by omega), e 1 (by omega), e 2 (by omega), e 3 (by omega), e 4 (by omega)⟩
theorem Lns.of_blk {w : World} {g : Nat} {L : List Ln} (h : BlkIs w g 36 (rowL L).toArray) : Lns w.heap.size w (.slice (some ⟨g, 0, none⟩) L.length L.length) L :=
  Lns.of_cells h.lt (Nat.le_refl _) fun j hj => by rw [h.cell j]; simp
theorem Lns.of_own {w : World} {base : Nat} {v : Value} {L : List Ln} (h : w.ownsRow base 36 5 v L.length (rowL L)) : Lns w.heap.size w v L := by
  rcases h.2 with ⟨rfl, h0⟩ | ⟨g, cap, cur, rfl, h1, h2, h3, h4, h5, h6⟩
  · exact ⟨none, 0, by rw [h0], by omega, fun h => by omega⟩
  · refine Lns.of_cells (Array.getElem?_eq_some_iff.1 h2).1 h3 fun j hj => ?_
    rw [(show BlkIs w g _ cur from h2).cell j]
    have h7 : (cur.toList.take (L.length * 5))[j]? = (rowL L)[j]? := by rw [h6]
    rw [List.getElem?_take, if_pos hj] at h7
    rw [← h7]
    simp
def entL (a b c d n q m : Int) : List Ln := [⟨3, 1, 1, a, 1⟩, ⟨3, 1, 2, b, 1⟩, ⟨3, 1, 3, n, q⟩, ⟨3, 1, 4, c, 1⟩, ⟨3, 1, 6, d, 1⟩, ⟨3, 1, 7, m, 1⟩]
abbrev entC (a b c d n q m : Int) : Array Value := #[.int .i64 3, .int .i64 1, .int .i64 1, .int .i64 a, .int .i64 1, .int .i64 3, .int .i64 1, .int .i64 2, .int .i64 b, .int .i64 1, .int .i64 3, .int .i64 1, .int .i64 3, .int .i64 n, .int .i64 q, .int .i64 3, .int .i64 1, .int .i64 4, .int .i64 c, .int .i64 1, .int .i64 3, .int .i64 1, .int .i64 6, .int .i64 d, .int .i64 1, .int .i64 3, .int .i64 1, .int .i64 7, .int .i64 m, .int .i64 1]
theorem entC_row (a b c d n q m : Int) : entC a b c d n q m = (rowL (entL a b c d n q m)).toArray := rfl
structure EntR (ind theory a b c d n q m : Int) : Prop where
  a0 : 0 ≤ a
  a1 : a ≤ 1000000000000
  b0 : 0 ≤ b
  b1 : b ≤ 1000000000000
  c0 : 0 ≤ c
  c1 : c ≤ b
  d0 : 0 ≤ d
  d1 : d ≤ a
  n0 : 0 ≤ n
  n1 : n ≤ q
  vf : vfB n q = true
  nt : m = max (a - d) c
  za : ind = 0 → a = 0
  zb : theory = 0 → b = 0
def EntPost (ind theory : Int) (w : World) (e : Ending) (w' : World) : Prop :=
  ∃ (a b c d n q m : Int) (g : Nat), EntR ind theory a b c d n q m ∧ e = .returned (.slice (some ⟨g, 0, none⟩) 6 6) ∧ BlkIs w' g 36 (entC a b c d n q m) ∧ w.heap.size ≤ g ∧ Below w.heap.size w w'

theorem line2_any (it n d : Int) (w : World) : Calls Try.prog 22 #[.int .i64 it, .agg #[.int .i64 n, .int .i64 d]] w fun e w' => e = .returned (.agg #[.int .i64 3, .int .i64 1, .int .i64 it, .int .i64 n, .int .i64 d]) ∧ Below w.heap.size w w' := line_any it n d w
set_option maxRecDepth 100000 in
set_option maxHeartbeats 4000000 in
theorem entry_any (ind theory pro ded num den : Int) (w : World) (i1 : -9223372036854775808 ≤ ind ∧ ind ≤ 9223372036854775807) (i2 : -9223372036854775808 ≤ theory ∧ theory ≤ 9223372036854775807) (i3 : -9223372036854775808 ≤ pro ∧ pro ≤ 9223372036854775807) (i4 : -9223372036854775808 ≤ ded ∧ ded ≤ 9223372036854775807) :
    Calls Try.prog 12 #[.int .i64 ind, .int .i64 theory, .int .i64 pro, .int .i64 ded, .int .i64 num, .int .i64 den] w (EntPost ind theory w) := by
  go_enter Try.func12, Try.ntmps12
  go_wp2_with fail
  refine (amount_any _ _ (by omega) (by omega)).mono ?_
  rintro e w' ⟨a, rfl, a0, a1, za, rfl⟩
  have ZA := Lib.hid za
  clear za
  go_wp2_with fail
  refine (amount_any _ _ (by omega) (by omega)).mono ?_
  rintro e w' ⟨b, rfl, b0, b1, zb, rfl⟩
  have ZB := Lib.hid zb
  clear zb
  go_wp2_with fail
  refine (amount_any _ _ (by omega) (by omega)).mono ?_
  rintro e w' ⟨c0, rfl, c00, c01, zc, rfl⟩
  clear zc
  go_wp2_with fail
  all_goals
    refine (amount_any _ _ (by omega) (by omega)).mono ?_
    rintro e w' ⟨d0, rfl, d00, d01, zd, rfl⟩
    clear zd
    have hB : Below w.heap.size w w := Below.refl _ _
    go_wp2_with fail
    all_goals
      refine (whole_any _ _).mono ?_
      rintro e w1 ⟨rfl, hb1⟩
      replace hB := bnext hB hb1
      clear hb1
      go_wp2_with fail
      refine (line2_any _ _ _ _).mono ?_
      rintro e w2 ⟨rfl, hb2⟩
      replace hB := bnext hB hb2
      clear hb2
      go_wp2_with fail
      refine (whole_any _ _).mono ?_
      rintro e w3 ⟨rfl, hb3⟩
      replace hB := bnext hB hb3
      clear hb3
      go_wp2_with fail
      refine (line2_any _ _ _ _).mono ?_
      rintro e w4 ⟨rfl, hb4⟩
      replace hB := bnext hB hb4
      clear hb4
      go_wp2_with fail
      refine (cut_any _ _ _).mono ?_
      rintro e w5 ⟨n, q, rfl, hn0, hn1, hvf, hb5⟩
      replace hB := bnext hB hb5
      clear hb5
      have HVF := Lib.hid hvf
      clear hvf
      go_wp2_with fail
      refine (line2_any _ _ _ _).mono ?_
      rintro e w6 ⟨rfl, hb6⟩
      replace hB := bnext hB hb6
      clear hb6
      go_wp2_with fail
      refine (whole_any _ _).mono ?_
      rintro e w7 ⟨rfl, hb7⟩
      replace hB := bnext hB hb7
      clear hb7
      go_wp2_with fail
      refine (line2_any _ _ _ _).mono ?_
      rintro e w8 ⟨rfl, hb8⟩
      replace hB := bnext hB hb8
      clear hb8
      go_wp2_with fail
      refine (whole_any _ _).mono ?_
      rintro e w9 ⟨rfl, hb9⟩
      replace hB := bnext hB hb9
      clear hb9
      go_wp2_with fail
      refine (line2_any _ _ _ _).mono ?_
      rintro e w10 ⟨rfl, hb10⟩
      replace hB := bnext hB hb10
      clear hb10
      go_wp2_with fail
      all_goals
        refine (whole_any _ _).mono ?_
        rintro e w11 ⟨rfl, hb11⟩
        replace hB := bnext hB hb11
        clear hb11
        go_wp2_with fail
        refine (line2_any _ _ _ _).mono ?_
        rintro e w12 ⟨rfl, hb12⟩
        replace hB := bnext hB hb12
        clear hb12
        go_wp2
        go_ret
        refine ⟨a, b, _, _, n, q, _, w12.heap.size, ?_, rfl, BlkIs.new w12 _ _, hB.size, hB.alloc hB.size _⟩
        exact EntR.mk a0 a1 b0 b1 (by omega) (by omega) (by omega) (by omega) hn0 hn1 HVF.out (by omega) ZA.out ZB.out
end Go.Proofs.Ytnlcgiemhegmcaa
