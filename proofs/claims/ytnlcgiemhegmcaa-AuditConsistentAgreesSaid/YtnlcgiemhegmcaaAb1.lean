/-
  The entries in memory while an explanation is read: which block is which, and what a line changes. No conditions.
-/
import Derived.Test.YtnlcgiemhegmcaaAa6
import Derived.Test.YtnlcgiemhegmcaaAuq
import Derived.DeepKeys4
namespace Go.Proofs.Ytnlcgiemhegmcaa
open Go.RowKit
set_option linter.unusedVariables false

/-- The slice v reads as the lines L, and lies below block B. -/
def Lns (B : Nat) (w : World) (v : Value) (L : List Ln) : Prop :=
  ∃ (a : Option Addr) (c : Nat), v = .slice a L.length c ∧ L.length ≤ c ∧ (0 < L.length → ∃ b o, a = some ⟨b, o, none⟩ ∧ b < B ∧ ∀ i, i < L.length →
    w.cell? ⟨b, o + i * 5, none⟩ = some (.int .i64 (ln L i).s) ∧ w.cell? ⟨b, o + i * 5 + 1, none⟩ = some (.int .i64 (ln L i).b) ∧ w.cell? ⟨b, o + i * 5 + 2, none⟩ = some (.int .i64 (ln L i).it) ∧
    w.cell? ⟨b, o + i * 5 + 3, none⟩ = some (.int .i64 (ln L i).n) ∧ w.cell? ⟨b, o + i * 5 + 4, none⟩ = some (.int .i64 (ln L i).d))
theorem Lns.below {B : Nat} {w w' : World} {v : Value} {L : List Ln} (h : Lns B w v L) (hb : Below B w w') : Lns B w' v L := by
  obtain ⟨a, c, hv, hc, h⟩ := h
  refine ⟨a, c, hv, hc, fun hl => ?_⟩
  obtain ⟨b, o, ha, hB, hcell⟩ := h hl
  refine ⟨b, o, ha, hB, fun i hi => ?_⟩
  have e : ∀ q, w'.cell? ⟨b, q, none⟩ = w.cell? ⟨b, q, none⟩ := fun q => hb.cell (p := ⟨b, q, none⟩) hB
  rw [e, e, e, e, e]
  exact hcell i hi
theorem Lns.mono {B B' : Nat} {w : World} {v : Value} {L : List Ln} (h : Lns B w v L) (hB : B ≤ B') : Lns B' w v L := by
  obtain ⟨a, c, hv, hc, h⟩ := h
  refine ⟨a, c, hv, hc, fun hl => ?_⟩
  obtain ⟨b, o, ha, hb, hcell⟩ := h hl
  exact ⟨b, o, ha, by omega, hcell⟩
/-- The numbers of the lines are machine numbers. -/
def LnsR (L : List Ln) : Prop := ∀ i, i < L.length → (-9223372036854775808 ≤ (ln L i).s ∧ (ln L i).s ≤ 9223372036854775807) ∧ (-9223372036854775808 ≤ (ln L i).b ∧ (ln L i).b ≤ 9223372036854775807) ∧ (-9223372036854775808 ≤ (ln L i).it ∧ (ln L i).it ≤ 9223372036854775807)

theorem laid_out : laidOutB Try.prog = true := by kernel_rfl
theorem law_key : Go.Maps.Keyed Try.prog 49 := Go.Maps.Keyed.of_law (deep_law_laid (P := Try.prog) laid_out (m := Try.prog.types.size + 1) (of_decide_eq_true (by kernel_rfl)) (of_decide_eq_true (by kernel_rfl)) (by kernel_rfl) (by kernel_rfl))
theorem lits_int (k : Nat) (x : Int) (h1 : -9223372036854775808 ≤ x) (h2 : x ≤ 9223372036854775807) : Try.prog.keyLits (k + 1) 3 [.int .i64 x] = some [.int .i64 x] := by
  have hw : (Lit.int .i64 x).wf = true := by simp [Lit.wf, IntKind.min, IntKind.max, IntKind.bits, IntKind.signed]; omega
  simp [Program.keyLits, Try.underlying3, hw]
theorem cells_int : Try.prog.cellsOf 3 = 1 := by kernel_rfl
theorem cells_arr : Try.prog.cellsOf 49 = 2 := by kernel_rfl
theorem ktype_arr : Try.prog.keyType 49 = true := by kernel_rfl
def kV (s b : Int) : Value := .agg #[.int .i64 s, .int .i64 b]
theorem key_arr (s b : Int) (h1 : -9223372036854775808 ≤ s) (h2 : s ≤ 9223372036854775807) (h3 : -9223372036854775808 ≤ b) (h4 : b ≤ 9223372036854775807) :
    keyOf Try.prog 49 (kV s b) = some (.string (keyBytes [.int .i64 s, .int .i64 b])) := by
  have hf : (kV s b).formed Try.prog 49 = true := by simp [kV, Value.formed, Try.underlying49, cells_arr]
  have hl : Try.prog.keyLits (Try.prog.types.size + 1) 49 (kV s b).cells.toList = some [.int .i64 s, .int .i64 b] := by
    obtain ⟨q, hq⟩ : ∃ q, Try.prog.types.size = q + 1 := ⟨Try.prog.types.size - 1, by kernel_rfl⟩
    rw [hq]
    unfold Program.keyLits
    simp only [kV, Value.cells]
    rw [Try.underlying49]
    simp [cells_arr, cells_int, List.range, List.range.loop, lits_int _ s h1 h2, lits_int _ b h3 h4]
  simp only [keyOf, Try.underlying49, ktype_arr, hf, hl, Bool.and_self, if_true, Option.map_some]

def kM (key : Value) (s b : Int) : Bool := match key with
  | .agg ⟨[.int .i64 x, .int .i64 y]⟩ => x == s && y == b
  | _ => false
theorem kM_kV (x y s b : Int) : kM (kV x y) s b = (x == s && y == b) := rfl
theorem kM_eq {key : Value} {s b : Int} (h : kM key s b = true) : key = kV s b := by
  unfold kM at h
  split at h
  · simp only [Bool.and_eq_true, beq_iff_eq] at h
    rw [h.1, h.2]; rfl
  · cases h
/-- The entries' pointers by key. -/
def kF (L : List Ln) (js : List Nat) (eb : Nat → Nat) (key : Value) : Option Value := (js.find? fun j => kM key (ln L j).s (ln L j).b).map fun j => .pointer (some ⟨eb j, 0, none⟩)

/-- The entries while line i is awaited: their blocks eb, their maps' blocks mb, the index's block idx, the row of pointers v. -/
structure UInv (w : World) (L : List Ln) (i idx : Nat) (eb mb : Nat → Nat) (v : Value) (W : World) : Prop where
  bel : Below w.heap.size w W
  row : W.ownsRow w.heap.size 50 1 v (fs L i).length ((fs L i).map fun j => .pointer (some ⟨eb j, 0, none⟩))
  ent : ∀ j, j ∈ fs L i → BlkIs W (eb j) 53 (ecells j (mb j) (wrongB (gAt L i j)))
  map : ∀ j, j ∈ fs L i → MapF W Try.prog 3 (mb j) i (iF (lastV (gAt L i j)))
  ix : MapF W Try.prog 49 idx i (kF L (fs L i) eb)
  ilo : w.heap.size ≤ idx
  lo : ∀ j, j ∈ fs L i → w.heap.size ≤ eb j ∧ w.heap.size ≤ mb j
  inj : ∀ j k, j ∈ fs L i → k ∈ fs L i → mb j = mb k → j = k
  nid : ∀ j, j ∈ fs L i → mb j ≠ idx
section
variable {w : World} {L : List Ln} {i idx : Nat} {eb mb : Nat → Nat} {v : Value} {W : World}
theorem UInv.einj (h : UInv w L i idx eb mb v W) {j k : Nat} (hj : j ∈ fs L i) (hk : k ∈ fs L i) (he : eb j = eb k) : j = k := by
  have h1 := h.ent j hj
  have h2 := h.ent k hk
  rw [he] at h1
  unfold BlkIs at h1 h2
  rw [h1] at h2
  injection h2 with h2
  injection h2 with h2
  simp [ecells] at h2
  omega
theorem UInv.em (h : UInv w L i idx eb mb v W) {j k : Nat} (hj : j ∈ fs L i) (hk : k ∈ fs L i) : eb j ≠ mb k := by
  intro he
  have h1 := h.ent j hj
  obtain ⟨es, cl, h2⟩ := (h.map k hk).isMap
  rw [he] at h1
  unfold BlkIs at h1
  rw [h1] at h2
  cases h2
theorem UInv.ei (h : UInv w L i idx eb mb v W) {j : Nat} (hj : j ∈ fs L i) : eb j ≠ idx := by
  intro he
  have h1 := h.ent j hj
  obtain ⟨es, cl, h2⟩ := h.ix.isMap
  rw [he] at h1
  unfold BlkIs at h1
  rw [h1] at h2
  cases h2
theorem UInv.rown (h : UInv w L i idx eb mb v W) : (∀ j, j ∈ fs L i → some (eb j) ≠ v.ownBlock) ∧ (∀ j, j ∈ fs L i → some (mb j) ≠ v.ownBlock) ∧ some idx ≠ v.ownBlock := by
  have hmap : ∀ b, (∃ es cl, W.heap[b]? = some (.map es cl)) → some b ≠ v.ownBlock := by
    rintro b ⟨es, cl, hb⟩ he
    rcases h.row.2 with ⟨hv, _⟩ | ⟨g, cap, cur, hv, _, hg, _⟩
    · rw [hv] at he; cases he
    · rw [hv] at he
      simp only [Value.ownBlock, Option.some.injEq] at he
      subst he
      rw [hb] at hg
      cases hg
  exact ⟨fun j hj => (h.ent j hj).apart h.row (by decide), fun j hj => hmap _ (h.map j hj).isMap, hmap _ h.ix.isMap⟩
theorem UInv.below (h : UInv w L i idx eb mb v W) {W' : World} (hb : Below W.heap.size W W') : UInv w L i idx eb mb v W' where
  bel := bnext h.bel hb
  row := own_below h.row hb (by
    intro g hg
    rcases h.row.2 with ⟨hv, _⟩ | ⟨g', cap, cur, hv, _, hg', _⟩
    · rw [hv] at hg; cases hg
    · rw [hv] at hg
      simp only [Value.ownBlock, Option.some.injEq] at hg
      subst hg
      exact (Array.getElem?_eq_some_iff.1 hg').1)
  ent j hj := (h.ent j hj).below hb (h.ent j hj).lt
  map j hj := (h.map j hj).keep (hb.block _ (h.map j hj).lt)
  ix := h.ix.keep (hb.block _ h.ix.lt)
  ilo := h.ilo
  lo := h.lo
  inj := h.inj
  nid := h.nid
/-- A line of an entry that has begun. -/
theorem UInv.hit (h : UInv w L i idx eb mb v W) (hi : i < L.length) {j : Nat} (hf : isFst L i = false) (hj : j ∈ fs L i) (hs : same (ln L j) (ln L i) = true) {W' : World}
    (he : BlkIs W' (eb j) 53 (ecells j (mb j) (wrongB (gAt L i j) || (lastV (gAt L i j) (ln L i).it).isSome || !fitB (ln L i).it (ln L i).n (ln L i).d)))
    (hm : MapF W' Try.prog 3 (mb j) (i + 1) (iF fun x => if (ln L i).it = x then some ((ln L i).n, (ln L i).d) else lastV (gAt L i j) x)) (hk : KeptBut [eb j, mb j] W W') : UInv w L (i + 1) idx eb mb v W' := by
  have hfs : fs L (i + 1) = fs L i := by rw [fs_succ, hf]; simp
  have hn : ∀ k, k ∈ fs L i → k ≠ j → same (ln L k) (ln L i) = false := by
    intro k hk hne
    cases hq : same (ln L k) (ln L i) with
    | false => rfl
    | true =>
      refine absurd (fs_same (by omega) hk hj ?_) hne
      rw [same_iff] at hq hs ⊢
      exact ⟨hq.1.trans hs.1.symm, hq.2.trans hs.2.symm⟩
  have hlo := h.lo j hj
  refine ⟨h.bel.trans (hk.below h.bel.size (by intro k hk; simp at hk; omega)), ?_, ?_, ?_, ?_, h.ilo, by rw [hfs]; exact h.lo, by rw [hfs]; exact h.inj, by rw [hfs]; exact h.nid⟩
  · rw [hfs]
    have hr := h.rown
    obtain ⟨h1, h2⟩ := h.row
    refine ⟨h1, ?_⟩
    rcases h2 with h2 | ⟨g, cap, cur, hv, hg, hh, rest⟩
    · exact .inl h2
    · refine .inr ⟨g, cap, cur, hv, hg, (hk.block g (Array.getElem?_eq_some_iff.1 hh).1 ?_).trans hh, rest⟩
      intro hm
      simp only [List.mem_cons, List.not_mem_nil, or_false] at hm
      rcases hm with rfl | rfl
      · exact hr.1 j hj (by rw [hv]; rfl)
      · exact hr.2.1 j hj (by rw [hv]; rfl)
  · rw [hfs]
    intro k hk'
    by_cases hkj : k = j
    · subst hkj
      rw [gAt_hit hi hs, wrongB_snoc]
      exact he
    · rw [gAt_miss hi (hn k hk' hkj)]
      refine (h.ent k hk').kept hk ?_
      simp only [List.mem_cons, List.not_mem_nil, or_false, not_or]
      exact ⟨fun e => hkj (h.einj hk' hj e), h.em hk' hj⟩
  · rw [hfs]
    intro k hk'
    by_cases hkj : k = j
    · subst hkj
      rw [gAt_hit hi hs]
      have e : lastV (gAt L i k ++ [ln L i]) = fun x => if (ln L i).it = x then some ((ln L i).n, (ln L i).d) else lastV (gAt L i k) x := by
        funext x
        rw [lastV_snoc]
        simp
      rw [e]
      exact hm
    · rw [gAt_miss hi (hn k hk' hkj)]
      refine ((h.map k hk').mono (Nat.le_succ _)).keep (hk.block _ (h.map k hk').lt ?_)
      simp only [List.mem_cons, List.not_mem_nil, or_false, not_or]
      exact ⟨(h.em hj hk').symm, fun e => hkj (h.inj k j hk' hj e)⟩
  · rw [hfs]
    refine (h.ix.mono (Nat.le_succ _)).keep (hk.block _ h.ix.lt ?_)
    simp only [List.mem_cons, List.not_mem_nil, or_false, not_or]
    exact ⟨(h.ei hj).symm, (h.nid j hj).symm⟩
/-- The blocks with one more. -/
def upd (f : Nat → Nat) (i q : Nat) (k : Nat) : Nat := if k = i then q else f k
theorem upd_same (f : Nat → Nat) (i q : Nat) : upd f i q i = q := by simp [upd]
theorem upd_ne (f : Nat → Nat) {i k : Nat} (q : Nat) (h : k ≠ i) : upd f i q k = f k := by simp [upd, h]
theorem kF_snoc (L : List Ln) {i : Nat} (hi : i < L.length) (hf : isFst L i = true) (eb : Nat → Nat) (q : Nat) (key : Value) :
    kF L (fs L i ++ [i]) (upd eb i q) key = if kM key (ln L i).s (ln L i).b then some (.pointer (some ⟨q, 0, none⟩)) else kF L (fs L i) eb key := by
  unfold kF
  rw [List.find?_append]
  have hno : ∀ j, j ∈ fs L i → j ≠ i := fun j hj => by have := fs_lt hj; omega
  by_cases hk : kM key (ln L i).s (ln L i).b = true
  · have e := kM_eq hk
    subst e
    have hn : (fs L i).find? (fun j => kM (kV (ln L i).s (ln L i).b) (ln L j).s (ln L j).b) = none := by
      rw [List.find?_eq_none]
      intro j hj
      have h1 := (isFst_iff (by omega)).1 hf j (fs_lt hj)
      rw [same_comm] at h1
      rw [kM_kV]
      unfold same at h1
      rw [h1]
      simp
    rw [hn]
    simp [kM_kV, upd_same]
  · have hk' : kM key (ln L i).s (ln L i).b = false := by simpa using hk
    rw [if_neg hk]
    simp only [List.find?_cons, hk', List.find?_nil, Option.or_none]
    cases hfd : (fs L i).find? (fun j => kM key (ln L j).s (ln L j).b) with
    | none => rfl
    | some j =>
      have hj := List.mem_of_find?_eq_some hfd
      simp [upd_ne eb q (hno j hj)]
/-- A line that begins an entry. -/
theorem UInv.fresh (h : UInv w L i idx eb mb v W) (hi : i < L.length) (hf : isFst L i = true) {W' : World} {v' : Value} {q1 q2 : Nat} (h1 : W.heap.size ≤ q1) (h2 : W.heap.size ≤ q2) (hb : Below w.heap.size w W')
    (hkeep : ∀ b, b < W.heap.size → b ≠ idx → some b ≠ v.ownBlock → W'.heap[b]? = W.heap[b]?)
    (hrow : W'.ownsRow w.heap.size 50 1 v' ((fs L i).map (fun j => Value.pointer (some ⟨eb j, 0, none⟩)) ++ [Value.pointer (some ⟨q2, 0, none⟩)]).length ((fs L i).map (fun j => Value.pointer (some ⟨eb j, 0, none⟩)) ++ [Value.pointer (some ⟨q2, 0, none⟩)]))
    (hix : MapF W' Try.prog 49 idx (i + 1) (fun key => if kM key (ln L i).s (ln L i).b then some (Value.pointer (some ⟨q2, 0, none⟩)) else kF L (fs L i) eb key))
    (he : BlkIs W' q2 53 (ecells i q1 (!fitB (ln L i).it (ln L i).n (ln L i).d))) {k : Nat} (hk : k ≤ i + 1)
    (hm : MapF W' Try.prog 3 q1 k (iF fun x => if (ln L i).it = x then some ((ln L i).n, (ln L i).d) else none)) :
    UInv w L (i + 1) idx (upd eb i q2) (upd mb i q1) v' W' := by
  have hfs : fs L (i + 1) = fs L i ++ [i] := by rw [fs_succ, hf]; simp
  have hno : ∀ j, j ∈ fs L i → j ≠ i := fun j hj => by have := fs_lt hj; omega
  have hms : ∀ j, j ∈ fs L i → same (ln L j) (ln L i) = false := fun j hj => (isFst_iff (by omega)).1 hf j (fs_lt hj)
  have hg : gAt L (i + 1) i = [ln L i] := by
    rw [gAt_hit hi (by simp [same]), gAt_new hi hf]; rfl
  have hr := h.rown
  have hz := h.bel.size
  have hil := h.ix.lt
  have mem : ∀ {j}, j ∈ fs L i ++ [i] → j ∈ fs L i ∨ j = i := by intro j hj; simpa using hj
  refine ⟨hb, ?_, ?_, ?_, ?_, h.ilo, ?_, ?_, ?_⟩ <;> rw [hfs]
  · have e : (fs L i ++ [i]).map (fun j => Value.pointer (some ⟨upd eb i q2 j, 0, none⟩)) = (fs L i).map (fun j => Value.pointer (some ⟨eb j, 0, none⟩)) ++ [Value.pointer (some ⟨q2, 0, none⟩)] := by
      rw [List.map_append]
      congr 1
      · apply List.map_congr_left
        intro j hj
        rw [upd_ne eb q2 (hno j hj)]
      · simp [upd_same]
    rw [e]
    simpa using hrow
  · intro j hj
    rcases mem hj with hj | rfl
    · rw [upd_ne eb q2 (hno j hj), upd_ne mb q1 (hno j hj), gAt_miss hi (hms j hj)]
      exact (h.ent j hj).keep (hkeep _ (h.ent j hj).lt (h.ei hj) (hr.1 j hj))
    · rw [upd_same, upd_same, hg]
      have e : wrongB [ln L j] = !fitB (ln L j).it (ln L j).n (ln L j).d := by
        simp [wrongB]
      rw [e]
      exact he
  · intro j hj
    rcases mem hj with hj | rfl
    · rw [upd_ne mb q1 (hno j hj), gAt_miss hi (hms j hj)]
      exact ((h.map j hj).mono (Nat.le_succ _)).keep (hkeep _ (h.map j hj).lt (h.nid j hj) (hr.2.1 j hj))
    · rw [upd_same, hg]
      have e : lastV [ln L j] = fun x => if (ln L j).it = x then some ((ln L j).n, (ln L j).d) else none := by
        funext x
        have := lastV_snoc [] (ln L j) x
        simp [lastV] at this
        simp [lastV]
      rw [e]
      exact hm.mono hk
  · have e : kF L (fs L i ++ [i]) (upd eb i q2) = fun key => if kM key (ln L i).s (ln L i).b then some (Value.pointer (some ⟨q2, 0, none⟩)) else kF L (fs L i) eb key := funext fun key => kF_snoc L hi hf eb q2 key
    rw [e]
    exact hix
  · intro j hj
    rcases mem hj with hj | rfl
    · rw [upd_ne eb q2 (hno j hj), upd_ne mb q1 (hno j hj)]
      exact h.lo j hj
    · rw [upd_same, upd_same]
      omega
  · intro j k hj hk
    rcases mem hj with hj | rfl <;> rcases mem hk with hk | rfl
    · rw [upd_ne mb q1 (hno j hj), upd_ne mb q1 (hno k hk)]
      exact h.inj j k hj hk
    · rw [upd_ne mb q1 (hno j hj), upd_same]
      intro e
      have := (h.map j hj).lt
      omega
    · rw [upd_ne mb q1 (hno k hk), upd_same]
      intro e
      have := (h.map k hk).lt
      omega
    · intro _; rfl
  · intro j hj
    rcases mem hj with hj | rfl
    · rw [upd_ne mb q1 (hno j hj)]
      exact h.nid j hj
    · rw [upd_same]
      omega
theorem UInv.start (w : World) (L : List Ln) (eb mb : Nat → Nat) : UInv w L 0 w.heap.size eb mb (.slice none 0 0) (w.alloc (.map #[] 0)) where
  bel := (Below.refl _ _).alloc (Nat.le_refl _) _
  row := World.ownsRow_nil _ _ _ _
  ent j hj := by cases hj
  map j hj := by cases hj
  ix := MapF.made w _ _
  ilo := Nat.le_refl _
  lo j hj := by cases hj
  inj j k hj := by cases hj
  nid j hj := by cases hj
theorem zero_ptr (w : World) : (zeroValue 50).run Try.prog w = .ok (.pointer none) w := by kernel_rfl
/-- The look-up of a line's entry. -/
theorem UInv.look (h : UInv w L i idx eb mb v W) (s b : Int) (h1 : -9223372036854775808 ≤ s) (h2 : s ≤ 9223372036854775807) (h3 : -9223372036854775808 ≤ b) (h4 : b ≤ 9223372036854775807) :
    (Instr.lookup 48 (.map (some idx)) (.agg #[.int .i64 s, .int .i64 b]) false).run Try.prog W = .ok ((kF L (fs L i) eb (kV s b)).getD (.pointer none)) W :=
  h.ix.look law_key Try.underlying48 (zero_ptr W) (key_arr s b h1 h2 h3 h4)
theorem kF_hit {j : Nat} (hi : i < L.length) (hj : j ∈ fs L i) (hs : same (ln L j) (ln L i) = true) : kF L (fs L i) eb (kV (ln L i).s (ln L i).b) = some (.pointer (some ⟨eb j, 0, none⟩)) := by
  unfold kF
  have hs' := (same_iff _ _).1 hs
  cases hfd : (fs L i).find? (fun k => kM (kV (ln L i).s (ln L i).b) (ln L k).s (ln L k).b) with
  | none =>
    rw [List.find?_eq_none] at hfd
    have := hfd j hj
    rw [kM_kV, hs'.1, hs'.2] at this
    simp at this
  | some k =>
    have hk := List.mem_of_find?_eq_some hfd
    have hk2 := List.find?_some hfd
    simp only [kM_kV, Bool.and_eq_true, beq_iff_eq] at hk2
    have : k = j := fs_same (by omega) hk hj (by rw [same_iff]; exact ⟨hk2.1.symm.trans hs'.1.symm, hk2.2.symm.trans hs'.2.symm⟩)
    subst this
    rfl
theorem kF_miss (hi : i < L.length) (hf : isFst L i = true) : kF L (fs L i) eb (kV (ln L i).s (ln L i).b) = none := by
  unfold kF
  rw [Option.map_eq_none_iff, List.find?_eq_none]
  intro j hj
  have h1 := (isFst_iff (by omega)).1 hf j (fs_lt hj)
  rw [same_comm] at h1
  rw [kM_kV]
  unfold same at h1
  rw [h1]
  simp
/-- The store of a new entry. -/
theorem UInv.put (h : UInv w L i idx eb mb v W) (hi : i ≤ 100000000) (s b : Int) (h1 : -9223372036854775808 ≤ s) (h2 : s ≤ 9223372036854775807) (h3 : -9223372036854775808 ≤ b) (h4 : b ≤ 9223372036854775807) (q : Nat) :
    ∃ w', (Instr.mapUpdate 48 (.map (some idx)) (.agg #[.int .i64 s, .int .i64 b]) (.pointer (some ⟨q, 0, none⟩))).run Try.prog W = .ok () w' ∧
      MapF w' Try.prog 49 idx (i + 1) (fun key => if kM key s b then some (Value.pointer (some ⟨q, 0, none⟩)) else kF L (fs L i) eb key) ∧ W.grownBy w' (some idx) :=
  h.ix.store law_key Try.underlying48 (by unfold maxLen; omega) (key_arr s b h1 h2 h3 h4) (by simp [kM_kV]) (by
    intro x hx
    have : kM x s b = false := by
      cases hh : kM x s b with
      | false => rfl
      | true => exact absurd (kM_eq hh) hx
    simp [this])
end
end Go.Proofs.Ytnlcgiemhegmcaa
