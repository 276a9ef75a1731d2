/-
  A line is added to an entry: the contract of add. Conditions: the map has room.
-/
import Derived.Test.YtnlcgiemhegmcaaAa2
import Derived.Test.YtnlcgiemhegmcaaMpf
import Derived.RegionTactic
namespace Go.Proofs.Ytnlcgiemhegmcaa
open Go.RowKit
set_option linter.unusedVariables false

theorem law_int : Go.Maps.Keyed Try.prog 3 := Go.Maps.int_keyed Try.underlying3
theorem zero_frac (w : World) : (zeroValue 34).run Try.prog w = .ok (.agg #[.int .i64 0, .int .i64 0]) w := by kernel_rfl
theorem key_int (x : Int) (h1 : -9223372036854775808 ≤ x) (h2 : x ≤ 9223372036854775807) : keyOf Try.prog 3 (.int .i64 x) = some (.int .i64 x) := Go.Maps.keyOf_int_mk Try.underlying3 (by simp [Lit.wf, IntKind.min, IntKind.max, IntKind.bits, IntKind.signed]; omega)
/-- An entry: where it begins, the block of its map, whether it is wrong. -/
def ecells (j : Int) (m : Nat) (b : Bool) : Array Value := #[.int .i64 j, .map (some m), .bool b]
/-- The values by item. -/
def iF (V : Int → Option (Int × Int)) : Value → Option Value
  | .int .i64 x => (V x).map fun p => .agg #[.int .i64 p.1, .int .i64 p.2]
  | _ => none
theorem look_items {w : World} {m k : Nat} {V : Int → Option (Int × Int)} (h : MapF w Try.prog 3 m k (iF V)) (x : Int) (h1 : -9223372036854775808 ≤ x) (h2 : x ≤ 9223372036854775807) :
    (Instr.lookup 51 (.map (some m)) (.int .i64 x) true).run Try.prog w = .ok (.tuple #[.agg #[.int .i64 ((V x).getD (0, 0)).1, .int .i64 ((V x).getD (0, 0)).2], .bool (V x).isSome]) w := by
  rw [h.look_ok law_int Try.underlying51 (zero_frac w) (key_int x h1 h2)]
  simp only [iF]
  cases V x <;> rfl
theorem ecell {W : World} {g m : Nat} {j : Int} {b : Bool} (h : BlkIs W g 53 (ecells j m b)) :
    W.cell? ⟨g, 0, none⟩ = some (.int .i64 j) ∧ W.cell? ⟨g, 1, none⟩ = some (.map (some m)) ∧ W.cell? ⟨g, 2, none⟩ = some (.bool b) ∧ W.frozen? ⟨g, 2, none⟩ = false := ⟨h.cell 0, h.cell 1, h.cell 2, h.frozen 2⟩
/-- A line's cells. -/
def lcells (s b it n d : Int) : Array Value := #[.int .i64 s, .int .i64 b, .int .i64 it, .int .i64 n, .int .i64 d]
theorem lcell {W : World} {g : Nat} {t : TypeId} {s b it n d : Int} (h : BlkIs W g t (lcells s b it n d)) :
    W.cell? ⟨g, 0, none⟩ = some (.int .i64 s) ∧ W.cell? ⟨g, 1, none⟩ = some (.int .i64 b) ∧ W.cell? ⟨g, 2, none⟩ = some (.int .i64 it) ∧ W.cell? ⟨g, 3, none⟩ = some (.int .i64 n) ∧ W.cell? ⟨g, 4, none⟩ = some (.int .i64 d) := ⟨h.cell 0, h.cell 1, h.cell 2, h.cell 3, h.cell 4⟩
/-- What is known of an entry, its map and the line in the course of add. -/
structure AddR (g m k p : Nat) (j : Int) (b : Bool) (V : Int → Option (Int × Int)) (s be it n d : Int) (w W : World) : Prop where
  ent : BlkIs W g 53 (ecells j m b)
  map : MapF W Try.prog 3 m k (iF V)
  line : BlkIs W p 36 (lcells s be it n d)
  kept : KeptBut [g, m] w W
theorem AddR.below {g m k p : Nat} {j : Int} {b : Bool} {V : Int → Option (Int × Int)} {s be it n d : Int} {w W W' : World} (h : AddR g m k p j b V s be it n d w W) (hb : Below W.heap.size W W') : AddR g m k p j b V s be it n d w W' :=
  ⟨h.ent.below hb h.ent.lt, h.map.keep (hb.block _ h.map.lt), h.line.below hb h.line.lt, h.kept.trans (.of_below hb)⟩
theorem AddR.put {g m k p : Nat} {j : Int} {b : Bool} {V : Int → Option (Int × Int)} {s be it n d : Int} {w W : World} (h : AddR g m k p j b V s be it n d w W) (hp : g ≠ p) (b' : Bool) : AddR g m k p j b' V s be it n d w (W.setCell ⟨g, 2, none⟩ (.bool b')) := by
  have hgm : m ≠ g := by
    rintro rfl
    obtain ⟨es, cl, hh⟩ := h.map.isMap
    have h1 := h.ent
    unfold BlkIs at h1
    rw [hh] at h1
    cases h1
  exact ⟨h.ent.put 2 _, h.map.keep (Below.heap_setCell _ _ _ _ hgm), h.line.far (Ne.symm hp) _, h.kept.setCell (by simp) _⟩
def AddPost (g m k : Nat) (j : Int) (b : Bool) (V : Int → Option (Int × Int)) (it n d : Int) (w : World) (e : Ending) (w' : World) : Prop :=
  e = .returned (.tuple #[]) ∧ BlkIs w' g 53 (ecells j m (b || (V it).isSome || !fitB it n d)) ∧ MapF w' Try.prog 3 m (k + 1) (iF fun x => if it = x then some (n, d) else V x) ∧ KeptBut [g, m] w w'
theorem AddR.store {g m k p : Nat} {j : Int} {b : Bool} {V : Int → Option (Int × Int)} {s be it n d : Int} {w W : World} (h : AddR g m k p j b V s be it n d w W) (h1 : -9223372036854775808 ≤ it) (h2 : it ≤ 9223372036854775807) (hk : k ≤ 100000000) :
    ∃ w', (Instr.mapUpdate 51 (.map (some m)) (.int .i64 it) (.agg #[.int .i64 n, .int .i64 d])).run Try.prog W = .ok () w' ∧ BlkIs w' g 53 (ecells j m b) ∧ MapF w' Try.prog 3 m (k + 1) (iF fun x => if it = x then some (n, d) else V x) ∧ KeptBut [g, m] w w' := by
  have hgm : g ≠ m := by
    rintro rfl
    obtain ⟨es, cl, hh⟩ := h.map.isMap
    have h1 := h.ent
    unfold BlkIs at h1
    rw [hh] at h1
    cases h1
  obtain ⟨w', hr, hm', hg'⟩ := h.map.store law_int Try.underlying51 (by unfold maxLen; omega) (key_int it h1 h2) (val := .agg #[.int .i64 n, .int .i64 d])
    (F' := iF fun x => if it = x then some (n, d) else V x) (by simp [iF]) (by
      intro x hx
      unfold iF
      split
      · rename_i y
        have : it ≠ y := fun e => hx (by rw [e])
        simp [this]
      · rfl)
  exact ⟨w', hr, h.ent.grown hg' (by simpa using hgm), hm', h.kept.trans (.of_grown hg' (by simp))⟩

set_option maxRecDepth 100000 in
set_option maxHeartbeats 1000000 in
theorem add_any (g m k : Nat) (j : Int) (b : Bool) (V : Int → Option (Int × Int)) (s be it n d : Int) (w : World) (h1 : -9223372036854775808 ≤ it) (h2 : it ≤ 9223372036854775807)
    (hg : BlkIs w g 53 (ecells j m b)) (hm : MapF w Try.prog 3 m k (iF V)) (hk : k ≤ 100000000) :
    Calls Try.prog 19 #[.pointer (some ⟨g, 0, none⟩), .agg #[.int .i64 s, .int .i64 be, .int .i64 it, .int .i64 n, .int .i64 d]] w (AddPost g m k j b V it n d w) := by
  have hgl := hg.lt
  have hml := hm.lt
  obtain ⟨hc0, hc1, hc2, hf2⟩ := ecell hg
  go_enter Try.func19, Try.ntmps19
  go_wp2_with fail
  have hl1 := look_items (hm.keep (w' := (w.alloc (.cells #[.int .i64 s, .int .i64 be, .int .i64 it, .int .i64 n, .int .i64 d] 36)).drew) (Below.heap_alloc w _ m hml)) it h1 h2
  have hl2 := look_items (hm.keep (w' := ((w.alloc (.cells #[.int .i64 s, .int .i64 be, .int .i64 it, .int .i64 n, .int .i64 d] 36)).alloc (.cells #[.int .i64 0, .int .i64 0] 34)).drew) ((Below.heap_alloc _ _ m (by simp; omega)).trans (Below.heap_alloc w _ m hml))) it h1 h2
  go_region
  all_goals clear hl1 hl2 hc0 hc1 hc2 hf2
  all_goals
    refine world_gen (AddR g m k w.heap.size j b V s be it n d w) ?_ ?_
    · have hb : ∀ W W', Below w.heap.size w W → BlkIs W w.heap.size 36 (lcells s be it n d) → Below (w.heap.size + 1) W W' → AddR g m k w.heap.size j b V s be it n d w W' := fun W W' hb hl hb' =>
        ⟨hg.below (hb.trans (hb'.mono (by omega))) hgl, hm.keep ((hb.trans (hb'.mono (by omega))).block _ hml), hl.below hb' (by omega), .of_below (hb.trans (hb'.mono (by omega)))⟩
      exact hb _ _ ((Below.refl _ _).alloc (Nat.le_refl _) _) (BlkIs.new w _ _) (((Below.refl _ _).alloc (by simp) _).drew)
    intro W hW
    have hpw : g ≠ w.heap.size := by omega
    generalize w.heap.size = p at hW hpw ⊢
    clear hg hm hgl hml
    obtain ⟨hc0, hc1, hc2, hf2⟩ := ecell hW.ent
    obtain ⟨q0, q1, q2, q3, q4⟩ := lcell hW.line
    rcases b with _ | _
    · rcases hv : (V it).isSome with _ | _
      · go_wp2_with (go_at_call 25; refine (fits_any _ _ _ _).mono ?_; rintro e w1 ⟨rfl, hb1⟩; clear hc0 hc1 hc2 hf2 q0 q1 q2 q3 q4; replace hW := hW.below hb1; clear hb1; obtain ⟨hc0, hc1, hc2, hf2⟩ := ecell hW.ent; obtain ⟨q0, q1, q2, q3, q4⟩ := lcell hW.line)
        refine world_gen (AddR g m k p j (!fitB it n d) V s be it n d w) (hW.put hpw _) ?_
        intro X hX
        clear hc0 hc1 hc2 hf2 q0 q1 q2 q3 q4 hW W
        obtain ⟨hc0, hc1, hc2, hf2⟩ := ecell hX.ent
        obtain ⟨q0, q1, q2, q3, q4⟩ := lcell hX.line
        obtain ⟨w9, hr9, e9, m9, k9⟩ := AddR.store (hX.below ((Below.refl _ _).drew)) h1 h2 hk
        go_region
        go_end0
        refine ⟨rfl, ?_, m9, k9⟩
        first | exact e9 | (rw [hv]; exact e9)
      · go_wp2
        refine world_gen (AddR g m k p j (true) V s be it n d w) (hW.put hpw _) ?_
        intro X hX
        clear hc0 hc1 hc2 hf2 q0 q1 q2 q3 q4 hW W
        obtain ⟨hc0, hc1, hc2, hf2⟩ := ecell hX.ent
        obtain ⟨q0, q1, q2, q3, q4⟩ := lcell hX.line
        obtain ⟨w9, hr9, e9, m9, k9⟩ := AddR.store (hX.below ((Below.refl _ _).drew)) h1 h2 hk
        go_region
        go_end0
        refine ⟨rfl, ?_, m9, k9⟩
        first | exact e9 | (rw [hv]; exact e9)
    · go_wp2
      refine world_gen (AddR g m k p j (true) V s be it n d w) (hW.put hpw _) ?_
      intro X hX
      clear hc0 hc1 hc2 hf2 q0 q1 q2 q3 q4 hW W
      obtain ⟨hc0, hc1, hc2, hf2⟩ := ecell hX.ent
      obtain ⟨q0, q1, q2, q3, q4⟩ := lcell hX.line
      obtain ⟨w9, hr9, e9, m9, k9⟩ := AddR.store (hX.below ((Below.refl _ _).drew)) h1 h2 hk
      go_region
      go_end0
      refine ⟨rfl, ?_, m9, k9⟩
      first | exact e9 | (rw [hv]; exact e9)
end Go.Proofs.Ytnlcgiemhegmcaa
