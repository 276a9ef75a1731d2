/-
  Blocks that are just some cells; worlds that differ in certain blocks alone; a row that grows by one element. No conditions.
-/
import Derived.Test.YtnlcgiemhegmcaaAft
import Derived.Laws.OwnMore
import Derived.Deep.AppendLies
import Derived.Deep.Draws
namespace Go.Proofs.Ytnlcgiemhegmcaa
open Go.RowKit
set_option linter.unusedVariables false

theorem bnext {w W w1 : World} (h : Below w.heap.size w W) (hb : Below W.heap.size W w1) : Below w.heap.size w w1 := h.trans (hb.mono h.size)

/-- A world is forgotten but for what is known of it. -/
theorem world_gen {G : World → Prop} {w0 : World} (R : World → Prop) (h0 : R w0) (h : ∀ W, R W → G W) : G w0 := h w0 h0
theorem bdrewN {B : Nat} {a w : World} (h : Below B a w) (n : Nat) : Below B a (w.drewN n) := h.trans ⟨rfl, rfl, rfl, Nat.le_refl _, fun _ _ => rfl⟩
theorem bcell {W w1 : World} (hb : Below W.heap.size W w1) : (∀ b o, b < W.heap.size → w1.cell? ⟨b, o, none⟩ = W.cell? ⟨b, o, none⟩) ∧ (∀ b o, b < W.heap.size → w1.frozen? ⟨b, o, none⟩ = W.frozen? ⟨b, o, none⟩) :=
  ⟨fun b o h => hb.cell (p := ⟨b, o, none⟩) h, fun b o h => hb.frozen (p := ⟨b, o, none⟩) h⟩
/-- Block g is just the cells cs of type t, and none is frozen. -/
def BlkIs (w : World) (g : Nat) (t : TypeId) (cs : Array Value) : Prop := w.heap[g]? = some (.cells cs t (0, 0))
theorem BlkIs.lt {w : World} {g : Nat} {t : TypeId} {cs : Array Value} (h : BlkIs w g t cs) : g < w.heap.size := by
  rcases Nat.lt_or_ge g w.heap.size with hl | hl
  · exact hl
  · unfold BlkIs at h; rw [Array.getElem?_eq_none hl] at h; cases h
theorem BlkIs.cell {w : World} {g : Nat} {t : TypeId} {cs : Array Value} (h : BlkIs w g t cs) (i : Nat) : w.cell? ⟨g, i, none⟩ = cs[i]? := cell_of_row w g i cs t (0, 0) h
theorem BlkIs.new (w : World) (t : TypeId) (cs : Array Value) : BlkIs (w.alloc (.cells cs t)) w.heap.size t cs := heap_alloc_new w _
theorem BlkIs.grown {w w' : World} {g : Nat} {t : TypeId} {cs : Array Value} {row : Option Nat} (h : BlkIs w g t cs) (hg : w.grownBy w' row) (hne : some g ≠ row) : BlkIs w' g t cs := (hg.block g h.lt hne).trans h
theorem BlkIs.below {w w' : World} {B g : Nat} {t : TypeId} {cs : Array Value} (h : BlkIs w g t cs) (hb : Below B w w') (hg : g < B) : BlkIs w' g t cs := (hb.block g hg).trans h
theorem BlkIs.alloc {w : World} {g : Nat} {t : TypeId} {cs : Array Value} (h : BlkIs w g t cs) (o : Obj) : BlkIs (w.alloc o) g t cs := (Below.heap_alloc w o g h.lt).trans h
theorem BlkIs.newAt (w : World) (g : Nat) (t : TypeId) (cs : Array Value) (h : g = w.heap.size) : BlkIs (w.alloc (.cells cs t)) g t cs := by subst h; exact BlkIs.new w t cs
theorem BlkIs.drew {w : World} {g : Nat} {t : TypeId} {cs : Array Value} (h : BlkIs w g t cs) : BlkIs w.drew g t cs := h
theorem BlkIs.drewN {w : World} {g n : Nat} {t : TypeId} {cs : Array Value} (h : BlkIs w g t cs) : BlkIs (w.drewN n) g t cs := h
theorem BlkIs.put {w : World} {g : Nat} {t : TypeId} {cs : Array Value} (h : BlkIs w g t cs) (i : Nat) (u : Value) : BlkIs (w.setCell ⟨g, i, none⟩ u) g t (cs.setIfInBounds i u) := by
  unfold BlkIs at h ⊢
  simp [World.setCell, Array.getElem?_modify, h]
theorem BlkIs.far {w : World} {g : Nat} {t : TypeId} {cs : Array Value} (h : BlkIs w g t cs) {p : Addr} (hp : g ≠ p.block) (u : Value) : BlkIs (w.setCell p u) g t cs := (Below.heap_setCell w p u g hp).trans h
theorem BlkIs.frozen {w : World} {g : Nat} {t : TypeId} {cs : Array Value} (h : BlkIs w g t cs) (i : Nat) : w.frozen? ⟨g, i, none⟩ = false := by
  unfold BlkIs at h
  simp [World.frozen?, h]
theorem BlkIs.keep {w w' : World} {g : Nat} {t : TypeId} {cs : Array Value} (h : BlkIs w g t cs) (he : w'.heap[g]? = w.heap[g]?) : BlkIs w' g t cs := he.trans h
/-- A row that is owned lies in another block than one of another type. -/
theorem BlkIs.apart {w : World} {g base n size : Nat} {t e : TypeId} {cs : Array Value} {v : Value} {xs : List Value} (h : BlkIs w g t cs) (ho : w.ownsRow base e size v n xs) (hne : e ≠ t) : some g ≠ v.ownBlock := by
  rcases ho.2 with ⟨rfl, _⟩ | ⟨g', cap, cur, rfl, _, hg', _⟩
  · simp [Value.ownBlock]
  · intro hh
    have e1 : g = g' := by simpa [Value.ownBlock] using hh
    subst e1
    unfold BlkIs at h
    rw [h] at hg'
    injection hg' with h1
    injection h1 with _ h2
    exact hne h2.symm
theorem own_below {w : World} {base n size : Nat} {e : TypeId} {v : Value} {xs : List Value} (h : w.ownsRow base e size v n xs) {B : Nat} {w' : World} (hb : Below B w w') (hB : ∀ g, v.ownBlock = some g → g < B) : w'.ownsRow base e size v n xs := by
  obtain ⟨h1, h2⟩ := h
  refine ⟨h1, ?_⟩
  rcases h2 with h2 | ⟨g, cap, cur, rfl, hg, hh, rest⟩
  · exact .inl h2
  · exact .inr ⟨g, cap, cur, rfl, hg, (hb.block g (hB g rfl)).trans hh, rest⟩

/-- All blocks but those of S are as they were. -/
structure KeptBut (S : List Nat) (w w' : World) : Prop where
  os : w'.os = w.os
  tape : w'.tape = w.tape
  output : w'.output = w.output
  size : w.heap.size ≤ w'.heap.size
  block : ∀ k, k < w.heap.size → k ∉ S → w'.heap[k]? = w.heap[k]?
theorem KeptBut.refl (S : List Nat) (w : World) : KeptBut S w w := ⟨rfl, rfl, rfl, Nat.le_refl _, fun _ _ _ => rfl⟩
theorem KeptBut.trans {S : List Nat} {a b c : World} (h : KeptBut S a b) (k : KeptBut S b c) : KeptBut S a c :=
  ⟨k.os.trans h.os, k.tape.trans h.tape, k.output.trans h.output, Nat.le_trans h.size k.size, fun i hi hn => (k.block i (Nat.lt_of_lt_of_le hi h.size) hn).trans (h.block i hi hn)⟩
theorem KeptBut.of_below {S : List Nat} {w w' : World} (h : Below w.heap.size w w') : KeptBut S w w' := ⟨h.os, h.tape, h.output, h.size, fun k hk _ => h.block k hk⟩
theorem KeptBut.of_grown {S : List Nat} {w w' : World} {g : Nat} (h : w.grownBy w' (some g)) (hg : g ∈ S) : KeptBut S w w' := ⟨h.os, h.tape, h.output, h.size, fun k hk hn => h.block k hk (fun e => by injection e with e; subst e; exact hn hg)⟩
theorem KeptBut.below {S : List Nat} {B : Nat} {w w' : World} (h : KeptBut S w w') (hB : B ≤ w.heap.size) (hS : ∀ k ∈ S, B ≤ k) : Below B w w' := ⟨h.os, h.tape, h.output, h.size, fun k hk => h.block k (by omega) (fun hm => by have := hS k hm; omega)⟩
theorem BlkIs.kept {S : List Nat} {w w' : World} {g : Nat} {t : TypeId} {cs : Array Value} (h : BlkIs w g t cs) (hk : KeptBut S w w') (hn : g ∉ S) : BlkIs w' g t cs := (hk.block g h.lt hn).trans h
theorem KeptBut.alloc {S : List Nat} {a b : World} (h : KeptBut S a b) (o : Obj) : KeptBut S a (b.alloc o) := h.trans (KeptBut.of_below ((Below.refl _ _).alloc (Nat.le_refl _) _))
theorem KeptBut.setCell {S : List Nat} {a b : World} (h : KeptBut S a b) {p : Addr} (hp : p.block ∈ S) (u : Value) : KeptBut S a (b.setCell p u) :=
  h.trans ⟨rfl, rfl, rfl, by simp, fun k hk hn => Below.heap_setCell b p u k (fun e => hn (e ▸ hp))⟩
theorem KeptBut.drew {S : List Nat} {a b : World} (h : KeptBut S a b) : KeptBut S a b.drew := ⟨h.os, h.tape, h.output, h.size, h.block⟩

theorem own_kept {S : List Nat} {w w' : World} {base n size : Nat} {e : TypeId} {v : Value} {xs : List Value} (h : w.ownsRow base e size v n xs) (hk : KeptBut S w w') (hS : ∀ k, k ∈ S → some k ≠ v.ownBlock) : w'.ownsRow base e size v n xs := by
  obtain ⟨h1, h2⟩ := h
  refine ⟨h1, ?_⟩
  rcases h2 with h2 | ⟨g, cap, cur, rfl, h3, hh, rest⟩
  · exact .inl h2
  · exact .inr ⟨g, cap, cur, rfl, h3, (hk.block g (Array.getElem?_eq_some_iff.1 hh).1 (fun hm => hS g hm rfl)).trans hh, rest⟩
theorem own_lt {w : World} {base n size : Nat} {e : TypeId} {v : Value} {xs : List Value} (h : w.ownsRow base e size v n xs) {g : Nat} (hg : some g = v.ownBlock) : g < w.heap.size := by
  rcases h.2 with ⟨rfl, _⟩ | ⟨g', cap, cur, rfl, _, hh, _⟩
  · cases hg
  · simp only [Value.ownBlock, Option.some.injEq] at hg
    subst hg
    exact (Array.getElem?_eq_some_iff.1 hh).1
theorem own_not_map {w : World} {base n size : Nat} {e : TypeId} {v : Value} {xs : List Value} (h : w.ownsRow base e size v n xs) {g : Nat} (hm : ∃ es cl, w.heap[g]? = some (.map es cl)) : some g ≠ v.ownBlock := by
  obtain ⟨es, cl, hb⟩ := hm
  intro he
  rcases h.2 with ⟨hv, _⟩ | ⟨g', cap, cur, hv, _, hg, _⟩
  · rw [hv] at he; cases he
  · rw [hv] at he
    simp only [Value.ownBlock, Option.some.injEq] at he
    subst he
    rw [hb] at hg
    cases hg
/-- s = append(s, one element of one cell). -/
theorem wpList_appV {P : Program} {ops : Array Oper} {rest : List Oper} {o : Oper} {a : Act} {Q : Exit → Act → World → Prop} (hgd : o.guard = none) (s x : Operand) (ts te : TypeId)
    (ho : o.op = .call { callee := .builtin .append, args := #[s, x], argTypes := #[ts, ts] }) (hts : P.underlying ts = some (.slice te)) (z : Value) (hz1 : z.oneCell' = true) (nb : Nat) (hnb : 0 < nb ∧ nb ≤ 8)
    (hinfo : (P.info? te).map (fun i => (i.zero, i.size, i.bytes)) = some (some z, 1, nb))
    (base : Nat) (v : Value) (l : List Value) (wr : World) (y : Value) (hy : y.oneCell' = true) (hs : a.eval s = v) (hown : wr.ownsRow base te 1 v l.length l) (g : Nat) (hx : a.eval x = .slice (some ⟨g, 0, none⟩) 1 1) (hgs : g = wr.heap.size)
    (hlen : l.length ≤ 100000000) (hbase : base ≤ wr.heap.size)
    (h : ∀ v' w', w'.ownsRow base te 1 v' (l ++ [y]).length (l ++ [y]) → Below base wr w' → wr.grownBy w' v.ownBlock → wpList P ops Q rest (a.put o.dst v') w') :
    wpList P ops Q (o :: rest) a (wr.alloc (.cells #[y] te)) := by
  subst hgs
  obtain ⟨i0, hi, hz0, hzs, hz2⟩ := info_parts hinfo
  refine wpList_append_own _ hgd s x ts ho base te i0 z 1 nb hts hi hz0 hzs hz2 (by cases z <;> first | rfl | (simp [Value.oneCell'] at hz1)) (by decide) v l.length l hs (hown.alloc _) ⟨wr.heap.size, 0, none⟩ 1 1 [y] hx rfl
    (World.news_of_block (cs := #[y]) (t := te) (fr := (0, 0)) (heap_alloc_new wr _)) (by simp [hy]) (by simp only [maxLen]; omega) (by have := hnb.2; have : (l.length + 1) * nb ≤ (l.length + 1) * 8 := Nat.mul_le_mul_left _ hnb.2; omega) (by simp; omega) ?_
  intro v' w' hown' hg _
  have hg' : wr.grownBy w' v.ownBlock := ⟨hg.os, hg.tape, hg.output, Nat.le_trans (by simp) hg.size, fun k hk hne => (hg.block k (by simp; omega) hne).trans (Below.heap_alloc wr _ k hk)⟩
  refine h v' w' ?_ ?_ hg'
  · rw [List.length_append]
    exact hown'
  · refine ⟨hg'.os, hg'.tape, hg'.output, hg'.size, fun k hk => hg'.block k (by omega) ?_⟩
    rcases hown.2 with ⟨rfl, _⟩ | ⟨g, cap, cur, rfl, hg, _⟩
    · simp [Value.ownBlock]
    · simp [Value.ownBlock]; omega
end Go.Proofs.Ytnlcgiemhegmcaa
