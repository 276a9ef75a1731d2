/-
  A region that draws its order, whose calls may write certain blocks (a reader, say) and make memory: all other blocks stay. And the same with operations that make a variable or a small slice beside such calls: one walk serves every order.
-/
import Derived.Test.YtkkjiihdmpngbaaRel
namespace Go.Proofs.Ytkkjiihdmpngbaa
open Go.RowKit
set_option linter.unusedVariables false

/-- All blocks but those of S are as they were. -/
structure KeptBut (S : List Nat) (w w' : World) : Prop where
  os : w'.os = w.os
  tape : w'.tape = w.tape
  output : w'.output = w.output
  size : w.heap.size ≤ w'.heap.size
  block : ∀ k, k < w.heap.size → k ∉ S → w'.heap[k]? = w.heap[k]?
theorem KeptBut.refl (S : List Nat) (w : World) : KeptBut S w w := ⟨rfl, rfl, rfl, Nat.le_refl _, fun _ _ _ => rfl⟩
theorem KeptBut.trans {S : List Nat} {a b c : World} (h : KeptBut S a b) (k : KeptBut S b c) : KeptBut S a c :=
  ⟨k.os.trans h.os, k.tape.trans h.tape, k.output.trans h.output, Nat.le_trans h.size k.size, fun i hi hn => (k.block i (Nat.lt_of_lt_of_le hi h.size) hn).trans (h.block i hi hn)⟩
theorem KeptBut.of_below {S : List Nat} {w w' : World} (h : Below w.heap.size w w') : KeptBut S w w' := ⟨h.os, h.tape, h.output, h.size, fun k hk _ => h.block k hk⟩
theorem KeptBut.of_grown {S : List Nat} {w w' : World} {g : Nat} (h : w.grownBy w' (some g)) (hg : g ∈ S) : KeptBut S w w' := ⟨h.os, h.tape, h.output, h.size, fun k hk hn => h.block k hk (fun e => by injection e with e; subst e; exact hn hg)⟩
theorem KeptBut.below {S : List Nat} {B : Nat} {w w' : World} (h : KeptBut S w w') (hB : B ≤ w.heap.size) (hS : ∀ k ∈ S, B ≤ k) : Below B w w' := ⟨h.os, h.tape, h.output, h.size, fun k hk => h.block k (by omega) (fun hm => by have := hS k hm; omega)⟩
theorem BlkIs.kept {S : List Nat} {w w' : World} {g : Nat} {t : TypeId} {cs : Array Value} (h : BlkIs w g t cs) (hk : KeptBut S w w') (hn : g ∉ S) : BlkIs w' g t cs := (hk.block g h.lt hn).trans h

structure AfterS (S : List Nat) (w : World) where
  x : World
  h : KeptBut S w x
instance {S : List Nat} {w : World} : Nonempty (AfterS S w) := ⟨⟨w, KeptBut.refl _ _⟩⟩
theorem AfterS.cell {S : List Nat} {w : World} (y : AfterS S w) (b o : Nat) (h : b < w.heap.size) (hn : b ∉ S) : y.x.cell? ⟨b, o, none⟩ = w.cell? ⟨b, o, none⟩ := World.cell?_of_block (a := ⟨b, o, none⟩) (y.h.block b h hn)
theorem AfterS.frozen {S : List Nat} {w : World} (y : AfterS S w) (b o : Nat) (h : b < w.heap.size) (hn : b ∉ S) : y.x.frozen? ⟨b, o, none⟩ = w.frozen? ⟨b, o, none⟩ := World.frozen?_of_block (a := ⟨b, o, none⟩) (y.h.block b h hn)

attribute [go_sem] AfterS.cell AfterS.frozen

/-- The worlds in which all blocks but those of S are as in w. -/
def CS (S : List Nat) (w : World) : World → Prop := fun w' => ∃ y : AfterS S w, w' = y.x
theorem CS.self (S : List Nat) (w : World) : CS S w w := ⟨⟨w, KeptBut.refl _ _⟩, rfl⟩
theorem CS.of {S : List Nat} {w w' : World} (h : KeptBut S w w') : CS S w w' := ⟨⟨w', h⟩, rfl⟩
theorem CS.sub {S : List Nat} {w w' x : World} (h : KeptBut S w w') (hx : CS S w' x) : CS S w x := by
  obtain ⟨y, rfl⟩ := hx
  exact ⟨⟨y.x, h.trans y.h⟩, rfl⟩

section
variable {P : Program} {ops : Array Oper} {Q : Exit → Act → World → Prop} {fin : Array Bool} {E : Act → World → Prop} {S : List Nat}

/-- Operations that give a value and enter no function; max and min too. -/
def plainOp2 (op : Op) : Bool := plainOp op || (match op with | .call c => (match c.callee with | .builtin .max => true | .builtin .min => true | _ => false) | _ => false)
theorem plain_value2 {ρ : Operand → Value} {o : Oper} {w : World} {n : Next} {w' : World} (hp : plainOp2 o.op = true) (h : (execOp ρ o).run P w = .ok n w') : ∃ u, n = .value u := by
  unfold plainOp2 at hp
  rw [Bool.or_eq_true] at hp
  rcases hp with hp | hp
  · exact plain_value hp h
  · unfold execOp at h
    cases ho : o.op <;> rw [ho] at h hp <;> try (cases hp; done)
    case call c =>
      obtain ⟨cal, args, ats⟩ := c
      cases cal with
      | builtin b =>
        cases b <;> simp only at hp <;> try (cases hp; done)
        all_goals
          simp only [resolve, invoke, Sem.run_bind, Sem.run_pure, Result.andThen] at h
          unfold builtin at h
          exact value_of_bind h
      | _ => simp at hp
/-- The order is one of those in which the operations can come up, the calls alone. -/
def ordB2 (ops : Array Oper) (loud : List Nat) : List Nat → Array Bool → Bool
  | [], listed => (Region.ready .any ops listed).isEmpty
  | i :: rest, listed =>
    (if loud.contains i then Region.ready .any ops listed == [i]
     else (Region.ready .any ops listed).contains i && Region.free .any ops listed i && (match ops[i]? with | some o => plainOp2 o.op | none => false)) && ordB2 ops loud rest (listed.setIfInBounds i true)
def ordR2 (ops : Array Oper) (fin : Array Bool) (loud : List Nat) : List Nat → Array Bool → Bool
  | [], listed => listed == fin
  | i :: rest, listed => fin.getD i false &&
    (if loud.contains i then Region.ready .any ops listed == [i]
     else (Region.ready .any ops listed).contains i && Region.free .any ops listed i && (match ops[i]? with | some o => plainOp2 o.op | none => false)) && ordR2 ops fin loud rest (listed.setIfInBounds i true)
theorem yieldsIf_gen {C : World → Prop} {o : Oper} {v : Value} {a : Act} (hp : plainOp2 o.op = true) (h : YieldsIn P ops C o v a) : YieldsIf P ops C o v a := by
  rcases h with ⟨hw, hq⟩ | h
  · refine .inl ⟨hw, fun w' hw' => ?_⟩
    have h1 := hq w' hw'
    unfold Oper.quietAt at h1
    cases hr : (execOp a.eval o).run P w' with
    | ok n w1 =>
      obtain ⟨u, rfl⟩ := plain_value2 hp hr
      rw [hr] at h1
      obtain ⟨rfl, rfl⟩ := h1
      rfl
    | halt x w1 => rw [hr] at h1; exact h1.elim
  · exact .inr h

/-- The walk: the operations in an order of ours, each with a mark whether it is a call. -/
def wpMs (P : Program) (ops : Array Oper) (Q : Exit → Act → World → Prop) (S : List Nat) : List (Bool × Oper) → Act → World → Prop
  | [], a, w => Q .normal a w
  | (true, o) :: rest, a, w => if Region.wanted o (yielded ops a.tmps) then o.wp P a w (fun a' w' => KeptBut S w w' ∧ wpMs P ops Q S rest a' w') Q else wpMs P ops Q S rest (a.put o.dst undef) w
  | (false, o) :: rest, a, w => wpQuiet P ops (CS S w) (fun a' => wpMs P ops Q S rest a' w) [o] a

theorem wpAnyH_ms {l : List Oper} (loud : List Nat) (hs : Region.noSelect l.toArray = true) (hQ : ∀ c a (d : Tmp) v w, Q (.panic c) (Act.put a (some d) v) w → Q (.panic c) a w) :
    ∀ (perm : List Nat) (listed : Array Bool) (a : Act) (w : World), (∀ i ∈ perm, i < l.length) → ordB2 l.toArray loud perm listed = true → wpMs P l.toArray Q S (marked l loud perm) a w → wpAnyH P .any l.toArray Q (CS S w) perm.length listed a w
  | [], listed, a, w, _, hB, h => wpAnyH_done (by simpa [ordB2] using hB) h _
  | i :: rest, listed, a, w, hlt, hB, h => by
    obtain ⟨o, hi⟩ : ∃ o, l[i]? = some o := ⟨_, List.getElem?_eq_getElem (hlt i (List.mem_cons_self ..))⟩
    have hi' : l.toArray[i]? = some o := by simpa using hi
    rw [marked_cons l loud i rest _ hi] at h
    simp only [ordB2, Bool.and_eq_true] at hB
    obtain ⟨hB1, hB2⟩ := hB
    have ih := fun a' w' => wpAnyH_ms loud hs hQ rest (listed.setIfInBounds i true) a' w' (fun j hj => hlt j (List.mem_cons_of_mem _ hj)) hB2
    by_cases hl : loud.contains i = true
    · rw [hl] at h hB1
      simp only [if_true, beq_iff_eq] at hB1
      refine wpAnyH_all hB1 (by simp) fun j hj => ?_
      obtain rfl : j = i := by simpa using hj
      unfold wpOp
      rw [hi']
      simp only [wpMs] at h
      simp only
      split
      · rename_i hw
        rw [if_pos hw] at h
        refine .inl (Oper.wp_mono (fun a' w' hh => ?_) h)
        obtain ⟨hb, hh⟩ := hh
        exact ⟨CS.of hb, wpAnyH_sub (fun x hx => CS.sub hb hx) _ _ _ _ (ih a' w' hh)⟩
      · rename_i hw
        rw [if_neg hw] at h
        exact ⟨CS.self S w, ih _ w h⟩
    · rw [Bool.not_eq_true] at hl
      rw [hl] at h hB1
      simp only [Bool.false_eq_true, if_false, Bool.and_eq_true, hi'] at hB1
      obtain ⟨⟨hr, hf⟩, hpl⟩ := hB1
      simp only [wpMs] at h
      have hq : qOp P l.toArray (CS S w) i (fun a' => wpMs P l.toArray Q S (marked l loud rest) a' w) a := by
        unfold qOp; rw [hi']; exact h
      obtain ⟨v, hy, hK⟩ := yieldsIn_of_qOp hi' hq
      have hQ' : ∀ c a w, Q (.panic c) (Act.put a o.dst v) w → Q (.panic c) a w := by
        intro c a' w' hh
        cases hd : o.dst with
        | none => rw [hd] at hh; exact hh
        | some d => rw [hd] at hh; exact hQ c a' d v w' hh
      exact wpAnyH_take hi' hs hf hr hQ' (yieldsIf_gen hpl hy) (CS.self S w) (ih _ w hK)

/-- The beginning. -/
theorem wp_region_ms {id : Nat} {a : Act} {w : World} {l : List Oper} (S : List Nat) (loud perm : List Nat) (hm : P.follows .mixedOrders = true) (hs : Region.noSelect l.toArray = true)
    (hlen : perm.length = l.toArray.size) (hlt : (perm.all fun i => decide (i < l.length)) = true) (hB : ordB2 l.toArray loud perm (Array.replicate l.toArray.size false) = true)
    (hQ : ∀ c a (d : Tmp) v w, Q (.panic c) (Act.put a (some d) v) w → Q (.panic c) a w)
    (h : wpMs P l.toArray Q S (marked l loud perm) a w.drew) : (Code.region id l.toArray true).wp P Q a w := by
  refine wp_region_held (S := CS S w.drew) hm ?_
  have := wpAnyH_ms loud hs hQ perm (Array.replicate l.toArray.size false) a w.drew (fun i hi => by simpa using List.all_eq_true.1 hlt i hi) hB h
  rw [hlen] at this
  exact this

section
variable {o : Oper} {rest : List (Bool × Oper)} {a : Act} {w : World}
theorem ms_quiet (h : wpQuiet P ops (fun w' => ∃ y : AfterS S w, w' = y.x) (fun a' => wpMs P ops Q S rest a' w) [o] a) : wpMs P ops Q S ((false, o) :: rest) a w := h
theorem ms_skip (hw : Region.wanted o (yielded ops a.tmps) = false) (h : wpMs P ops Q S rest (a.put o.dst undef) w) : wpMs P ops Q S ((true, o) :: rest) a w := by
  simp only [wpMs, hw, Bool.false_eq_true, if_false]
  exact h
theorem ms_loud (hw : Region.wanted o (yielded ops a.tmps) = true)
    (h : ∀ K : Act → World → Prop, (∀ a' w', KeptBut S w w' → wpMs P ops Q S rest a' w' → K a' w') → o.wp P a w K Q) : wpMs P ops Q S ((true, o) :: rest) a w := by
  simp only [wpMs, hw, if_true]
  exact h _ fun _ _ h1 h2 => ⟨h1, h2⟩
theorem ms_off (hw : Region.wanted o (yielded ops a.tmps) = false) (h : wpMs P ops Q S rest (a.put o.dst undef) w) : wpMs P ops Q S ((false, o) :: rest) a w := by
  simp only [wpMs, wpQuiet, hw, Bool.false_eq_true, if_false]
  exact h
theorem not_wanted {j dj : Nat} {bb : Bool} (hg : o.guard = some (j, bb)) (hj : (ops[j]?).bind (·.dst) = some dj) (hv : a.tmps[dj]? = some (.bool (!bb))) : Region.wanted o (yielded ops a.tmps) = false := by
  have h1 : yielded ops a.tmps j = some (!bb) := by
    unfold yielded
    rw [hj]
    simp [hv]
  unfold Region.wanted
  rw [hg]
  cases bb <;> simp_all
theorem put_undef {dd : Nat} {dst : Option Tmp} (hd : dst = some dd) (hu : a.tmps[dd]? = some undef) : a.put dst undef = a := by
  subst hd
  obtain ⟨t, ds⟩ := a
  simp only at hu
  have : t.setIfInBounds dd undef = t := by
    apply Array.ext_getElem?
    intro i
    rw [Array.getElem?_setIfInBounds]
    split
    · rename_i e
      subst e
      have hlt := (Array.getElem?_eq_some_iff.1 hu).1
      rw [if_pos hlt, hu]
    · rfl
  unfold Act.put
  simp only [this]
theorem ms_off_same {j dj dd : Nat} {bb : Bool} (hg : o.guard = some (j, bb)) (hj : (ops[j]?).bind (·.dst) = some dj) (hv : a.tmps[dj]? = some (.bool (!bb))) (hd : o.dst = some dd) (hu : a.tmps[dd]? = some undef) (h : wpMs P ops Q S rest a w) : wpMs P ops Q S ((false, o) :: rest) a w :=
  ms_off (not_wanted hg hj hv) (by rw [put_undef hd hu]; exact h)
theorem ms_skip_same {j dj dd : Nat} {bb : Bool} (hg : o.guard = some (j, bb)) (hj : (ops[j]?).bind (·.dst) = some dj) (hv : a.tmps[dj]? = some (.bool (!bb))) (hd : o.dst = some dd) (hu : a.tmps[dd]? = some undef) (h : wpMs P ops Q S rest a w) : wpMs P ops Q S ((true, o) :: rest) a w :=
  ms_skip (not_wanted hg hj hv) (by rw [put_undef hd hu]; exact h)
theorem ms_nil (h : Q .normal a w) : wpMs P ops Q S [] a w := h
end

/-! With operations that make something beside the calls. -/

/-- Every operation of the tail waits for every one before it. -/
def TailW (ops : Array Oper) (fin : Array Bool) : Prop :=
  ∀ (j : Nat) (oj : Oper), ops[j]? = some oj → fin.getD j false = false → ∀ i, fin.getD i false = true → reachB ops 6 j i = true
def tailWB (ops : Array Oper) (fin : Array Bool) : Bool :=
  (List.range ops.size).all fun j => fin.getD j false || match ops[j]? with
    | some _ => (List.range fin.size).all fun i => !fin.getD i false || reachB ops 6 j i
    | none => true
theorem tailW_spec (h : tailWB ops fin = true) : TailW ops fin := by
  intro j oj hj hf i hi
  have hjl : j < ops.size := (Array.getElem?_eq_some_iff.1 hj).1
  have hil : i < fin.size := by
    rcases Nat.lt_or_ge i fin.size with h' | h'
    · exact h'
    · simp [Array.getElem?_eq_none h'] at hi
  have h1 := List.all_eq_true.1 h j (List.mem_range.2 hjl)
  rw [hf, hj] at h1
  simp only [Bool.false_or] at h1
  have h2 := List.all_eq_true.1 h1 i (List.mem_range.2 hil)
  rw [hi] at h2
  simpa using h2
theorem pre_of_readyW (hW : TailW ops fin) {listed : Array Bool} (hc : Closed ops listed) {i j : Nat} (hi : listed.getD i false = false) (hif : fin.getD i false = true) (hj : j ∈ Region.ready .any ops listed) : fin.getD j false = true := by
  obtain ⟨_, oj, hoj, hall⟩ := mem_ready.1 hj
  cases hf : fin.getD j false
  · have := reach_listed hc i 6 j (hW j oj hoj hf i hif) (fun o ho => by rw [hoj] at ho; injection ho with ho; subst ho; exact hall)
    rw [hi] at this
    cases this
  · rfl

/-- Whatever order is picked of the operations up to 'fin', others making memory in between. -/
def wpAnyG (P : Program) (ops : Array Oper) (Q : Exit → Act → World → Prop) (S : List Nat) (fin : Array Bool) (E : Act → World → Prop) : Nat → Array Bool → Act → World → Prop
  | 0, listed, a, w => listed = fin ∧ ∀ w', Below w.heap.size w w' → E a w'
  | fuel + 1, listed, a, w => Region.ready .any ops listed ≠ [] ∧ (∀ i ∈ Region.ready .any ops listed, fin.getD i false = true) ∧
    ∀ w', Below w.heap.size w w' → ∀ i ∈ Region.ready .any ops listed, wpOp P ops Q i (fun a' w'' => KeptBut S w' w'' ∧ wpAnyG P ops Q S fin E fuel (listed.setIfInBounds i true) a' w'') a w'

theorem wpAnyG_rely {fuel : Nat} {listed : Array Bool} {a : Act} {w w1 : World} (h : wpAnyG P ops Q S fin E fuel listed a w) (hb : Below w.heap.size w w1) : wpAnyG P ops Q S fin E fuel listed a w1 := by
  cases fuel with
  | zero => exact ⟨h.1, fun w' hw' => h.2 w' (bnext hb hw')⟩
  | succ fuel => exact ⟨h.1, h.2.1, fun w' hw' => h.2.2 w' (bnext hb hw')⟩

theorem wpAny_of_G {m : Nat} (hE : ∀ a w, E a w → wpAny P .any ops Q m fin a w) : ∀ (fuel : Nat) (listed : Array Bool) (a : Act) (w : World), wpAnyG P ops Q S fin E fuel listed a w → wpAny P .any ops Q (fuel + m) listed a w
  | 0, listed, a, w, h => by
    obtain ⟨rfl, h⟩ := h
    rw [Nat.zero_add]
    exact hE a w (h w (Below.refl _ _))
  | fuel + 1, listed, a, w, h => by
    rw [show fuel + 1 + m = (fuel + m) + 1 by omega]
    exact ⟨fun h0 => absurd h0 h.1, fun i hi => wpOp_mono (fun a' w' h' => wpAny_of_G hE fuel _ a' w' h'.2) (h.2.2 w (Below.refl _ _) i hi)⟩

/-- An operation that only reads may be taken first. -/
theorem wpAnyG_first {i : Nat} {oi : Oper} {v : Value} (hW : TailW ops fin) (hi : ops[i]? = some oi) (hif : fin.getD i false = true) (hsel : ∀ (j : Nat) (o : Oper) cs b, ops[j]? = some o → o.op ≠ .select cs b)
    (hQ : ∀ c a w, Q (.panic c) (a.put oi.dst v) w → Q (.panic c) a w) :
    ∀ (fuel : Nat) (listed : Array Bool) (a : Act) (w : World), Closed ops listed →
      (∀ j oj, ops[j]? = some oj → j ≠ i → listed.getD j true = false → (∀ e ∈ oj.after, Region.binds .any e = true → e.on ≠ i) → oi.apart ops oj = true) →
      i ∈ Region.ready .any ops listed → YieldsIf P ops (CS S w) oi v a →
      wpAnyG P ops Q S fin E fuel (listed.setIfInBounds i true) (a.put oi.dst v) w → wpAnyG P ops Q S fin E (fuel + 1) listed a w := by
  intro fuel
  induction fuel with
  | zero =>
    intro listed a w hc _ hr hy H
    refine ⟨fun h => (by rw [h] at hr; cases hr), fun j hj => pre_of_readyW hW hc (not_listed hr) hif hj, fun w' hw' j hj => ?_⟩
    by_cases hji : j = i
    · subst hji
      exact hy.wpOp hi (CS.of (KeptBut.of_below hw')) ⟨KeptBut.refl _ _, H.1, fun w'' hw'' => H.2 w'' (bnext hw' hw'')⟩
    · have h1 := ready_mono hj hji
      rw [H.1] at h1
      have h2 := not_listed h1
      rw [pre_of_readyW hW hc (not_listed hr) hif hj] at h2
      cases h2
  | succ fuel ih =>
    intro listed a w hc hfree hr hy H
    refine ⟨fun h => (by rw [h] at hr; cases hr), fun j hj => pre_of_readyW hW hc (not_listed hr) hif hj, fun w' hw' j hj => ?_⟩
    have hy' : YieldsIf P ops (CS S w') oi v a := by
      refine hy.imp (fun ⟨h1, h2⟩ => ⟨h1, fun x hx => h2 x (CS.sub (KeptBut.of_below hw') hx)⟩) id
    by_cases hji : j = i
    · subst hji
      exact hy'.wpOp hi (CS.self _ _) ⟨KeptBut.refl _ _, wpAnyG_rely H hw'⟩
    · have h1 := H.2.2 w' hw' j (ready_mono hj hji)
      obtain ⟨hjun, oj, hoj, hall⟩ := mem_ready.1 hj
      have hnot : ∀ e ∈ oj.after, Region.binds .any e = true → e.on ≠ i := fun e he hb heq => by
        have h1 := hall e he hb
        rw [heq, not_listed hr] at h1
        cases h1
      have h2 := wpOp_putIf hoj (hfree j oj hoj hji hjun hnot) (fun cs b => hsel i oi cs b hi) (fun cs b => hsel j oj cs b hoj) hQ hy' h1
      have hfree' : ∀ k ok, ops[k]? = some ok → k ≠ i → (listed.setIfInBounds j true).getD k true = false →
          (∀ e ∈ ok.after, Region.binds .any e = true → e.on ≠ i) → oi.apart ops ok = true := fun k ok hk hki hun hno => by
        refine hfree k ok hk hki ?_ hno
        by_cases hjk : j = k
        · subst hjk; exact hjun
        · rw [getD_set_ne true hjk] at hun; exact hun
      refine wpOp_mono (fun a' w'' h3 => ⟨h3.2.1, ih (listed.setIfInBounds j true) a' w'' (closed_set hc hj) hfree' (ready_mono hr (Ne.symm hji)) ?_ ?_⟩) h2
      · exact h3.1.imp (fun ⟨h4, h5⟩ => ⟨h4, fun x hx => h5 x (CS.sub h3.2.1 hx)⟩) id
      · rw [Array.setIfInBounds_comm _ _ hji]
        exact h3.2.2

/-- The walk with others in between. -/
def wpRs (P : Program) (ops : Array Oper) (Q : Exit → Act → World → Prop) (S : List Nat) (E : Act → World → Prop) : List (Bool × Oper) → Act → World → Prop
  | [], a, w => ∀ w', Below w.heap.size w w' → E a w'
  | (true, o) :: rest, a, w => ∀ w', Below w.heap.size w w' →
      if Region.wanted o (yielded ops a.tmps) then o.wp P a w' (fun a' w'' => KeptBut S w' w'' ∧ wpRs P ops Q S E rest a' w'') Q else wpRs P ops Q S E rest (a.put o.dst undef) w'
  | (false, o) :: rest, a, w => wpQuiet P ops (CS S w) (fun a' => wpRs P ops Q S E rest a' w) [o] a

theorem wpAnyG_walk {l : List Oper} (loud : List Nat) (hW : TailW l.toArray fin) (hs : Region.noSelect l.toArray = true) (hQ : ∀ c a (d : Tmp) v w, Q (.panic c) (Act.put a (some d) v) w → Q (.panic c) a w) :
    ∀ (perm : List Nat) (listed : Array Bool) (a : Act) (w : World), Closed l.toArray listed → (∀ i ∈ perm, i < l.length) → ordR2 l.toArray fin loud perm listed = true → wpRs P l.toArray Q S E (marked l loud perm) a w → wpAnyG P l.toArray Q S fin E perm.length listed a w
  | [], listed, a, w, _, _, hB, h => ⟨by simpa [ordR2] using hB, h⟩
  | i :: rest, listed, a, w, hc, hlt, hB, h => by
    obtain ⟨o, hi⟩ : ∃ o, l[i]? = some o := ⟨_, List.getElem?_eq_getElem (hlt i (List.mem_cons_self ..))⟩
    have hi' : l.toArray[i]? = some o := by simpa using hi
    rw [marked_cons l loud i rest _ hi] at h
    simp only [ordR2, Bool.and_eq_true] at hB
    obtain ⟨⟨hif, hB1⟩, hB2⟩ := hB
    have ih := fun hi a' w' => wpAnyG_walk loud hW hs hQ rest (listed.setIfInBounds i true) a' w' (closed_set hc hi) (fun j hj => hlt j (List.mem_cons_of_mem _ hj)) hB2
    by_cases hl : loud.contains i = true
    · rw [hl] at h hB1
      simp only [if_true, beq_iff_eq] at hB1
      have hri : i ∈ Region.ready .any l.toArray listed := by rw [hB1]; simp
      refine ⟨by rw [hB1]; simp, fun j hj => ?_, fun w' hw' j hj => ?_⟩
      · obtain rfl : j = i := by rw [hB1] at hj; simpa using hj
        exact hif
      · obtain rfl : j = i := by rw [hB1] at hj; simpa using hj
        unfold wpOp
        rw [hi']
        simp only [wpRs] at h
        have h1 := h w' hw'
        simp only
        split
        · rename_i hw
          rw [if_pos hw] at h1
          exact .inl (Oper.wp_mono (fun a' w'' hh => ⟨hh.1, ih hri a' w'' hh.2⟩) h1)
        · rename_i hw
          rw [if_neg hw] at h1
          exact ⟨KeptBut.refl _ _, ih hri _ w' h1⟩
    · rw [Bool.not_eq_true] at hl
      rw [hl] at h hB1
      simp only [Bool.false_eq_true, if_false, Bool.and_eq_true, hi'] at hB1
      obtain ⟨⟨hr, hf⟩, hpl⟩ := hB1
      have hri : i ∈ Region.ready .any l.toArray listed := by simpa using hr
      simp only [wpRs] at h
      have hq : qOp P l.toArray (CS S w) i (fun a' => wpRs P l.toArray Q S E (marked l loud rest) a' w) a := by
        unfold qOp; rw [hi']; exact h
      obtain ⟨v, hy, hK⟩ := yieldsIn_of_qOp hi' hq
      have hQ' : ∀ c a w, Q (.panic c) (Act.put a o.dst v) w → Q (.panic c) a w := by
        intro c a' w' hh
        cases hd : o.dst with
        | none => rw [hd] at hh; exact hh
        | some d => rw [hd] at hh; exact hQ c a' d v w' hh
      exact wpAnyG_first hW hi' hif (Region.noSelect_spec hs) hQ' _ listed a w hc (Region.free_spec hi' hf) hri (yieldsIf_gen hpl hy) (ih hri _ w hK)

theorem wpQuiet_one {C : World → Prop} {o : Oper} {a : Act} {K K' : Act → Prop} (hK : ∀ a, K a → K' a) (h : wpQuiet P ops C K [o] a) : wpQuiet P ops C K' [o] a := by
  simp only [wpQuiet] at h ⊢
  split
  · rename_i hw
    rw [if_pos hw] at h
    exact Oper.quiet_mono hK h
  · rename_i hw
    rw [if_neg hw] at h
    exact hK _ h
/-- Operations that only read, taken first. -/
def wpPre (P : Program) (ops : Array Oper) (S : List Nat) (w : World) (K : Act → Prop) : List Oper → Act → Prop
  | [], a => K a
  | o :: rest, a => wpQuiet P ops (CS S w) (fun a' => wpPre P ops S w K rest a') [o] a
def ordP (ops : Array Oper) (fin : Array Bool) : List Nat → Array Bool → Array Bool → Bool
  | [], listed, listed1 => listed == listed1
  | i :: rest, listed, listed1 => fin.getD i false && ((Region.ready .any ops listed).contains i && Region.free .any ops listed i && (match ops[i]? with | some o => plainOp2 o.op | none => false)) && ordP ops fin rest (listed.setIfInBounds i true) listed1
def picked (l : List Oper) : List Nat → List Oper
  | [] => []
  | i :: rest => match l[i]? with
    | some o => o :: picked l rest
    | none => []
theorem picked_cons (l : List Oper) (i : Nat) (rest : List Nat) (o : Oper) (h : l[i]? = some o) : picked l (i :: rest) = o :: picked l rest := by simp [picked, h]
theorem wpAnyG_pre {l : List Oper} (hW : TailW l.toArray fin) (hs : Region.noSelect l.toArray = true) (hQ : ∀ c a (d : Tmp) v w, Q (.panic c) (Act.put a (some d) v) w → Q (.panic c) a w) {m : Nat} {listed1 : Array Bool} {w : World} :
    ∀ (perm : List Nat) (listed : Array Bool) (a : Act), Closed l.toArray listed → (∀ i ∈ perm, i < l.length) → ordP l.toArray fin perm listed listed1 = true →
      wpPre P l.toArray S w (fun a1 => Closed l.toArray listed1 → wpAnyG P l.toArray Q S fin E m listed1 a1 w) (picked l perm) a → wpAnyG P l.toArray Q S fin E (m + perm.length) listed a w
  | [], listed, a, hc, _, hB, h => by
    simp only [ordP, beq_iff_eq] at hB
    subst hB
    exact h hc
  | i :: rest, listed, a, hc, hlt, hB, h => by
    obtain ⟨o, hi⟩ : ∃ o, l[i]? = some o := ⟨_, List.getElem?_eq_getElem (hlt i (List.mem_cons_self ..))⟩
    have hi' : l.toArray[i]? = some o := by simpa using hi
    rw [picked_cons l i rest _ hi] at h
    simp only [ordP, Bool.and_eq_true, hi'] at hB
    obtain ⟨⟨hif, ⟨hr, hf⟩, hpl⟩, hB2⟩ := hB
    have hri : i ∈ Region.ready .any l.toArray listed := by simpa using hr
    simp only [wpPre] at h
    have hq : qOp P l.toArray (CS S w) i (fun a' => wpPre P l.toArray S w (fun a1 => Closed l.toArray listed1 → wpAnyG P l.toArray Q S fin E m listed1 a1 w) (picked l rest) a') a := by
      unfold qOp; rw [hi']; exact h
    obtain ⟨v, hy, hK⟩ := yieldsIn_of_qOp hi' hq
    have hQ' : ∀ c a w, Q (.panic c) (Act.put a o.dst v) w → Q (.panic c) a w := by
      intro c a' w' hh
      cases hd : o.dst with
      | none => rw [hd] at hh; exact hh
      | some d => rw [hd] at hh; exact hQ c a' d v w' hh
    exact wpAnyG_first hW hi' hif (Region.noSelect_spec hs) hQ' _ listed a w hc (Region.free_spec hi' hf) hri (yieldsIf_gen hpl hy) (wpAnyG_pre hW hs hQ rest _ _ (closed_set hc hri) (fun j hj => hlt j (List.mem_cons_of_mem _ hj)) hB2 hK)

/-- Something that is made: the operation's number, its slot, the block's type and cells, and the value as the block's number gives it. -/
structure Mk where
  i : Nat
  d : Tmp
  t : TypeId
  z : Array Value
  v : Nat → Value

def msets (a : Act) : List (Mk × Option Nat) → Act
  | [] => a
  | (x, some b) :: s => (msets a s).put (some x.d) (x.v b)
  | (_, none) :: s => msets a s

theorem msets_upd (a : Act) (x : Mk) (b : Nat) (s2 : List (Mk × Option Nat)) : ∀ s1 : List (Mk × Option Nat), (∀ y ∈ s1, y.1.d ≠ x.d) → (msets a (s1 ++ (x, none) :: s2)).put (some x.d) (x.v b) = msets a (s1 ++ (x, some b) :: s2)
  | [], _ => rfl
  | (y, none) :: s1, h => msets_upd a x b s2 s1 fun z hz => h z (List.mem_cons_of_mem _ hz)
  | (y, some c) :: s1, h => by
    have hne := h (y, some c) (List.mem_cons_self ..)
    simp only [List.cons_append, msets]
    rw [Act.put_comm _ _ _ (fun d hd he => by simp at hd he; exact hne (hd.trans he.symm)), msets_upd a x b s2 s1 fun z hz => h z (List.mem_cons_of_mem _ hz)]
theorem msets_put (a : Act) (dst : Option Tmp) (u : Value) : ∀ s : List (Mk × Option Nat), (∀ y ∈ s, dst ≠ some y.1.d) → (msets a s).put dst u = msets (a.put dst u) s
  | [], _ => rfl
  | (y, none) :: s, h => msets_put a dst u s fun z hz => h z (List.mem_cons_of_mem _ hz)
  | (y, some c) :: s, h => by
    have hne := h (y, some c) (List.mem_cons_self ..)
    simp only [msets]
    rw [Act.put_comm _ _ _ (fun d hd he => by rw [he] at hne; exact hne hd.symm), msets_put a dst u s fun z hz => h z (List.mem_cons_of_mem _ hz)]
theorem msets_defers (a : Act) (d : Deferred) : ∀ s : List (Mk × Option Nat), ({ msets a s with defers := d :: (msets a s).defers } : Act) = msets { a with defers := d :: a.defers } s
  | [] => rfl
  | (y, none) :: s => msets_defers a d s
  | (y, some c) :: s => by
    simp only [msets]
    rw [Act.put_defers, msets_defers a d s]
theorem msets_exec (a : Act) (o : Oper) (hs : ∀ cs b, o.op ≠ .select cs b) : ∀ s : List (Mk × Option Nat), (∀ y ∈ s, y.1.d ∉ o.looksAt ops) → execOp (msets a s).eval o = execOp a.eval o ∧ Region.wanted o (yielded ops (msets a s).tmps) = Region.wanted o (yielded ops a.tmps)
  | [], _ => ⟨rfl, rfl⟩
  | (y, none) :: s, h => msets_exec a o hs s fun z hz => h z (List.mem_cons_of_mem _ hz)
  | (y, some c) :: s, h => by
    have hne := h (y, some c) (List.mem_cons_self ..)
    obtain ⟨e1, e2⟩ := msets_exec a o hs s fun z hz => h z (List.mem_cons_of_mem _ hz)
    simp only [msets]
    exact ⟨(execOp_put (ops := ops) o hs _ _ _ (fun d hd => by injection hd with hd; subst hd; exact hne)).trans e1, (wanted_put o _ _ _ (fun d hd => by injection hd with hd; subst hd; exact hne)).trans e2⟩
theorem msets_panic (hQ : ∀ c a (d : Tmp) v w, Q (.panic c) a w → Q (.panic c) (Act.put a (some d) v) w) {c : _} {a : Act} {w : World} (h : Q (.panic c) a w) : ∀ s : List (Mk × Option Nat), Q (.panic c) (msets a s) w
  | [] => h
  | (y, none) :: s => msets_panic hQ h s
  | (y, some b) :: s => hQ _ _ _ _ _ (msets_panic hQ h s)

/-- What an act has turned into still gives the operation x what it gave. -/
def Agrees (x : Oper) (a a' : Act) : Prop := execOp a'.eval x = execOp a.eval x
theorem wpOp_msets {j : Nat} {oj : Oper} (hj : ops[j]? = some oj) (hs : ∀ cs b, oj.op ≠ .select cs b) (s : List (Mk × Option Nat)) (hl : ∀ y ∈ s, y.1.d ∉ oj.looksAt ops) (hd : ∀ y ∈ s, oj.dst ≠ some y.1.d)
    (hQ : ∀ c a (d : Tmp) v w, Q (.panic c) a w → Q (.panic c) (Act.put a (some d) v) w) {K : Act → World → Prop} {a : Act} {w : World} (h : wpOp P ops Q j K a w) :
    wpOp P ops Q j (fun a' w' => ∃ a0, a' = msets a0 s ∧ K a0 w' ∧ ∀ x : Oper, (∀ cs b, x.op ≠ .select cs b) → (∀ d, oj.dst = some d → d ∉ x.looksAt ops) → Agrees x a a0) (msets a s) w := by
  obtain ⟨he, hw⟩ := msets_exec (ops := ops) a oj hs s hl
  have hput : ∀ (a1 : Act) (u : Value), a1.eval = a.eval → ∀ x : Oper, (∀ cs b, x.op ≠ .select cs b) → (∀ d, oj.dst = some d → d ∉ x.looksAt ops) → Agrees x a (a1.put oj.dst u) := by
    intro a1 u ha x hx hdx
    unfold Agrees
    rw [execOp_put (ops := ops) x hx a1 oj.dst u hdx, ha]
  unfold wpOp at *
  simp only [hj] at *
  rw [hw]
  split
  · rename_i hwt
    simp only [hwt, if_true] at h
    rcases h with h | ⟨hasks, hlets⟩
    case inr => exact .inr ⟨by unfold Oper.asks at *; rw [he]; exact hasks, hlets⟩
    refine .inl ?_
    unfold Oper.wp at *
    rw [he]
    generalize (execOp a.eval oj).run P w = r at *
    cases r with
    | ok n w' =>
      cases n <;> simp only [Oper.upon] at h ⊢
      case value u => exact ⟨_, msets_put a _ u s hd, h, hput a u rfl⟩
      case skip => exact ⟨_, msets_put a _ _ s hd, h, hput a _ rfl⟩
      case defer d => exact ⟨_, by rw [msets_defers]; exact msets_put _ _ _ s hd, h, hput _ _ rfl⟩
      case enter f args =>
        refine Calls.mono h fun e w'' he => ?_
        cases e with
        | returned u => exact ⟨_, msets_put a _ u s hd, he, hput a u rfl⟩
        | panicked c => exact msets_panic hQ he s
        | outgrown => exact he
      case row row args => exact Rows.mono h fun u w'' he => ⟨_, msets_put a _ u s hd, he, hput a u rfl⟩
    | halt x w' =>
      cases x <;> simp only [Oper.upon] at h ⊢
      case panic u => exact msets_panic hQ h s
  · rename_i hwt
    simp only [hwt] at h
    exact ⟨_, msets_put a _ _ s hd, h, hput a _ rfl⟩

/-- What is asked of what is made. -/
structure MkOk (ops : Array Oper) (fin listed1 : Array Bool) (al : List Mk) : Prop where
  op : ∀ x ∈ al, ∃ o, ops[x.i]? = some o ∧ o.dst = some x.d ∧ o.guard = none ∧ (∀ e ∈ o.after, Region.binds .any e = true → listed1.getD e.on false = true) ∧ (∀ y ∈ al, y.d ∉ o.looksAt ops)
  pre : ∀ x ∈ al, fin.getD x.i false = true
  other : ∀ j oj, ops[j]? = some oj → fin.getD j false = true → listed1.getD j true = false → (∀ x ∈ al, x.i ≠ j) → ∀ x ∈ al, x.d ∉ oj.looksAt ops ∧ oj.dst ≠ some x.d ∧ ∀ o, ops[x.i]? = some o → ∀ d, oj.dst = some d → d ∉ o.looksAt ops
  slots : (al.map Mk.d).Nodup
  idx : (al.map Mk.i).Nodup
/-- The making itself. -/
def MkRun (P : Program) (ops : Array Oper) (al : List Mk) (a : Act) : Prop := ∀ x ∈ al, ∀ o, ops[x.i]? = some o → ∀ w, (execOp a.eval o).run P w = .ok (.value (x.v w.heap.size)) (w.alloc (.cells x.z x.t))

def mpend (s : List (Mk × Option Nat)) : List Nat := s.filterMap fun p => match p.2 with | none => some p.1.i | some _ => none
theorem mpend_cons (p : Mk × Option Nat) (s : List (Mk × Option Nat)) : mpend (p :: s) = (match p.2 with | none => p.1.i :: mpend s | some _ => mpend s) := by
  obtain ⟨x, o⟩ := p
  cases o <;> simp [mpend]
theorem mpend_app (s t : List (Mk × Option Nat)) : mpend (s ++ t) = mpend s ++ mpend t := by simp [mpend]

/-- What holds of what has been made. -/
structure Mde (B : Nat) (s : List (Mk × Option Nat)) (w : World) : Prop where
  blk : ∀ x b, (x, some b) ∈ s → B ≤ b ∧ b < w.heap.size ∧ BlkIs w b x.t x.z
  nodup : (s.filterMap Prod.snd).Nodup
theorem Mde.kept {B : Nat} {s : List (Mk × Option Nat)} {w w' : World} (h : Mde B s w) (hb : KeptBut S w w') (hS : ∀ k ∈ S, k < B) : Mde B s w' :=
  ⟨fun x b hx => ⟨(h.blk x b hx).1, Nat.lt_of_lt_of_le (h.blk x b hx).2.1 hb.size, (h.blk x b hx).2.2.kept hb (fun hm => by have h1 := hS b hm; have h2 := (h.blk x b hx).1; omega)⟩, h.nodup⟩
theorem Mde.rely {B : Nat} {s : List (Mk × Option Nat)} {w w' : World} (h : Mde B s w) (hb : Below w.heap.size w w') : Mde B s w' := h.kept (S := []) (KeptBut.of_below hb) (by simp)
theorem Mde.make {B : Nat} {s1 s2 : List (Mk × Option Nat)} {x : Mk} {w : World} (h : Mde B (s1 ++ (x, none) :: s2) w) (hB : B ≤ w.heap.size) : Mde B (s1 ++ (x, some w.heap.size) :: s2) (w.alloc (.cells x.z x.t)) := by
  refine ⟨fun y b hy => ?_, ?_⟩
  · simp only [List.mem_append, List.mem_cons, Prod.mk.injEq, Option.some.injEq] at hy
    rcases hy with hy | ⟨rfl, rfl⟩ | hy
    · obtain ⟨h1, h2, h3⟩ := h.blk y b (by simp [hy])
      exact ⟨h1, by simp; omega, h3.alloc _⟩
    · exact ⟨hB, by simp, BlkIs.new _ _ _⟩
    · obtain ⟨h1, h2, h3⟩ := h.blk y b (by simp [hy])
      exact ⟨h1, by simp; omega, h3.alloc _⟩
  · have hn := h.nodup
    simp only [List.filterMap_append, List.filterMap_cons] at hn ⊢
    rw [List.nodup_append] at hn ⊢
    rw [List.nodup_cons]
    have lt1 : ∀ b ∈ s1.filterMap Prod.snd, b < w.heap.size := by
      intro b hb
      obtain ⟨⟨y, o⟩, hy, ho⟩ := List.mem_filterMap.1 hb
      simp only at ho
      subst ho
      exact (h.blk y b (by simp [hy])).2.1
    have lt2 : ∀ b ∈ s2.filterMap Prod.snd, b < w.heap.size := by
      intro b hb
      obtain ⟨⟨y, o⟩, hy, ho⟩ := List.mem_filterMap.1 hb
      simp only at ho
      subst ho
      exact (h.blk y b (by simp [hy])).2.1
    refine ⟨hn.1, ⟨fun hm => Nat.lt_irrefl _ (lt2 _ hm), hn.2.1⟩, fun a ha b hb => ?_⟩
    rcases List.mem_cons.1 hb with rfl | hb
    · exact Nat.ne_of_lt (lt1 a ha)
    · exact hn.2.2 a ha b hb

/-- What is to be shown when all has been made. -/
def AllMde (B : Nat) (al : List Mk) (E : Act → World → Prop) (a : Act) (w : World) : Prop :=
  ∀ s : List (Mk × Option Nat), s.map Prod.fst = al → mpend s = [] → Mde B s w → E (msets a s) w

theorem wpAnyG_makes {al : List Mk} {B : Nat} {listed1 : Array Bool} (hA : MkOk ops fin listed1 al) (hW : TailW ops fin) (hS : ∀ k ∈ S, k < B) (hsel : ∀ (j : Nat) (o : Oper) cs b, ops[j]? = some o → o.op ≠ .select cs b)
    (hQ : ∀ c a (d : Tmp) v w, Q (.panic c) a w → Q (.panic c) (Act.put a (some d) v) w) :
    ∀ (m fuel : Nat) (s : List (Mk × Option Nat)) (listed : Array Bool) (a : Act) (w : World), Closed ops listed → (∀ i, listed1.getD i false = true → listed.getD i false = true) → (∀ i, listed.getD i true = false → listed1.getD i true = false) → MkRun P ops al a → m = fuel + (mpend s).length → s.map Prod.fst = al → Mde B s w → B ≤ w.heap.size →
      (∀ i ∈ mpend s, listed.getD i true = false) → (∀ x b, (x, some b) ∈ s → listed.getD x.i true = true) →
      wpAnyG P ops Q S fin (AllMde B al E) fuel (listedAll listed (mpend s)) a w → wpAnyG P ops Q S fin E m listed (msets a s) w := by
  intro m
  induction m with
  | zero =>
    intro fuel s listed a w hc _ _ _ hm hs hM hB hun hdo H
    have hp : mpend s = [] := List.eq_nil_of_length_eq_zero (by omega)
    have hf : fuel = 0 := by omega
    subst hf
    rw [hp] at H
    exact ⟨H.1, fun w' hw' => H.2 w' hw' s hs hp (hM.rely hw')⟩
  | succ m ih =>
    intro fuel s listed a w hc hl1 hl2 hrun hm hs hM hB hun hdo H
    have key : Region.ready .any ops listed ≠ [] ∧ ∀ i ∈ Region.ready .any ops listed, fin.getD i false = true := by
      rcases hp : mpend s with _ | ⟨i, ps⟩
      · rw [hp] at H hm
        rcases fuel with _ | fuel
        · simp at hm
        · exact ⟨H.1, H.2.1⟩
      · have hi : i ∈ mpend s := by rw [hp]; exact List.mem_cons_self ..
        have hi0 := hun i hi
        obtain ⟨⟨x, o⟩, hx, ho⟩ := List.mem_filterMap.1 hi
        rcases o with _ | o
        · simp only [Option.some.injEq] at ho
          subst ho
          have hxa : x ∈ al := by rw [← hs]; exact List.mem_map.2 ⟨_, hx, rfl⟩
          obtain ⟨ox, h1, h3, h4, h5, _⟩ := hA.op x hxa
          have hr : x.i ∈ Region.ready .any ops listed := mem_ready.2 ⟨hi0, ox, h1, fun e he hb => hl1 _ (h5 e he hb)⟩
          exact ⟨(fun h => by rw [h] at hr; cases hr), fun j hj => pre_of_readyW hW hc (not_listed hr) (hA.pre x hxa) hj⟩
        · cases ho
    have hls : ∀ j i, listed1.getD i false = true → (listed.setIfInBounds j true).getD i false = true := fun j i hi => by
      by_cases hji : j = i
      · subst hji
        have := hl1 j hi
        rcases Nat.lt_or_ge j listed.size with h' | h'
        · simp [h']
        · simp [Array.getElem?_eq_none h'] at this
      · rw [getD_set_ne false hji]; exact hl1 i hi
    have hls2 : ∀ j i, (listed.setIfInBounds j true).getD i true = false → listed1.getD i true = false := fun j i hi => by
      by_cases hji : j = i
      · subst hji
        rcases Nat.lt_or_ge j listed.size with h' | h'
        · simp [h'] at hi
        · simp at hi
      · rw [getD_set_ne true hji] at hi; exact hl2 i hi
    refine ⟨key.1, key.2, fun w' hw' j hj => ?_⟩
    obtain ⟨hjun, oj, hoj, _⟩ := mem_ready.1 hj
    by_cases hjp : j ∈ mpend s
    · obtain ⟨⟨x, o⟩, hx, ho⟩ := List.mem_filterMap.1 hjp
      rcases o with _ | o
      · simp only [Option.some.injEq] at ho
        subst ho
        have hxa : x ∈ al := by rw [← hs]; exact List.mem_map.2 ⟨_, hx, rfl⟩
        obtain ⟨ox, h1, h3, h4, h5, h6⟩ := hA.op x hxa
        have hex := (msets_exec (ops := ops) a ox (fun cs b => hsel x.i ox cs b h1) s (fun y hy => h6 y.1 (by rw [← hs]; exact List.mem_map.2 ⟨y, hy, rfl⟩))).1
        have hrx := hrun x hxa ox h1 w'
        rw [← hex] at hrx
        obtain ⟨s1, s2, rfl⟩ := List.append_of_mem hx
        have hd := hA.slots
        have hix := hA.idx
        rw [← hs] at hd hix
        simp only [List.map_append, List.map_cons, List.map_map] at hd hix
        rw [List.nodup_append] at hd hix
        have hne : ∀ y ∈ s1, y.1.d ≠ x.d := fun y hy => hd.2.2 _ (List.mem_map.2 ⟨y, hy, rfl⟩) _ (List.mem_cons_self ..)
        have hp : mpend (s1 ++ (x, none) :: s2) = mpend s1 ++ x.i :: mpend s2 := by rw [mpend_app, mpend_cons]
        have hp' : mpend (s1 ++ (x, some w'.heap.size) :: s2) = mpend s1 ++ mpend s2 := by rw [mpend_app, mpend_cons]
        unfold wpOp
        rw [h1]
        have hwt : Region.wanted ox (yielded ops (msets a (s1 ++ (x, none) :: s2)).tmps) = true := by simp [Region.wanted, h4]
        simp only [hwt, if_true]
        refine .inl ?_
        unfold Oper.wp
        rw [hrx]
        simp only [Oper.upon, h3]
        refine ⟨KeptBut.of_below ((Below.refl _ _).alloc (Nat.le_refl _) _), ?_⟩
        rw [msets_upd a x w'.heap.size s2 s1 hne]
        have hnm : x.i ∉ (s1.map fun y => y.1.i) ∧ x.i ∉ (s2.map fun y => y.1.i) := by
          refine ⟨fun h => ?_, fun h => ?_⟩
          · exact hix.2.2 _ h _ (List.mem_cons_self ..) rfl
          · exact (List.nodup_cons.1 hix.2.1).1 h
        have hpm : ∀ (t : List (Mk × Option Nat)) i, i ∈ mpend t → i ∈ t.map fun y => y.1.i := by
          intro t i hi
          obtain ⟨⟨y, o⟩, hy, ho⟩ := List.mem_filterMap.1 hi
          rcases o with _ | o
          · simp only [Option.some.injEq] at ho; exact List.mem_map.2 ⟨_, hy, ho⟩
          · cases ho
        refine ih fuel _ _ a _ (closed_set hc hj) (hls _) (hls2 _) hrun ?_ ?_ ((hM.rely hw').make (Nat.le_trans hB hw'.size)) (Nat.le_trans hB (Nat.le_trans hw'.size (by simp))) ?_ ?_ ?_
        · rw [hp] at hm; rw [hp']; simp at hm ⊢; omega
        · rw [← hs]; simp
        · intro i hi
          rw [hp'] at hi
          have hij : x.i ≠ i := by
            rintro rfl
            rcases List.mem_append.1 hi with h | h
            · exact hnm.1 (hpm _ _ h)
            · exact hnm.2 (hpm _ _ h)
          rw [getD_set_ne true hij]
          exact hun i (by rw [hp]; rcases List.mem_append.1 hi with h | h <;> simp [h])
        · intro y b hy
          by_cases hyx : x.i = y.i
          · rw [← hyx]
            rcases Nat.lt_or_ge x.i listed.size with h' | h'
            · simp [h']
            · simp
          · rw [getD_set_ne true hyx]
            simp only [List.mem_append, List.mem_cons, Prod.mk.injEq] at hy
            rcases hy with hy | ⟨rfl, _⟩ | hy
            · exact hdo y b (by simp [hy])
            · exact absurd rfl hyx
            · exact hdo y b (by simp [hy])
        · rw [hp', listedAll_mid, ← hp]
          exact wpAnyG_rely H (bnext hw' ((Below.refl _ _).alloc (Nat.le_refl _) _))
      · cases ho
    · have hja : ∀ x ∈ al, x.i ≠ j := by
        intro x hx hxj
        rw [← hs] at hx
        obtain ⟨⟨y, o⟩, hy, rfl⟩ := List.mem_map.1 hx
        rcases o with _ | b
        · exact hjp (List.mem_filterMap.2 ⟨(y, none), hy, by simp only at hxj ⊢; rw [hxj]⟩)
        · have := hdo y b hy
          simp only at hxj
          rw [hxj, hjun] at this
          cases this
      have hjf := key.2 j hj
      have hj2 := ready_all (mpend s) hj hjp
      rcases fuel with _ | fuel
      · have h1 := not_listed hj2
        rw [H.1, hjf] at h1
        cases h1
      · have h1 := H.2.2 w' hw' j hj2
        have ho := hA.other j oj hoj hjf (hl2 j hjun) hja
        have hsa : ∀ y ∈ s, y.1 ∈ al := fun y hy => by rw [← hs]; exact List.mem_map.2 ⟨y, hy, rfl⟩
        have h2 := wpOp_msets hoj (fun cs b => hsel j oj cs b hoj) s (fun y hy => (ho y.1 (hsa y hy)).1) (fun y hy => (ho y.1 (hsa y hy)).2.1) hQ h1
        refine wpOp_mono (fun a' w'' h3 => ?_) h2
        obtain ⟨a0, rfl, ⟨hb, hR⟩, hag⟩ := h3
        refine ⟨hb, ih fuel s _ a0 w'' (closed_set hc hj) (hls _) (hls2 _) ?_ (by omega) hs ((hM.rely hw').kept hb hS) (Nat.le_trans hB (Nat.le_trans hw'.size hb.size)) (fun i hi => ?_) (fun y b hy => ?_) ?_⟩
        · intro x hx o hox w1
          have := hag o (fun cs b => hsel x.i o cs b hox) ((ho x hx).2.2 o hox)
          unfold Agrees at this
          rw [this]
          exact hrun x hx o hox w1
        · rw [getD_set_ne true (fun h => hjp (by rw [h]; exact hi))]; exact hun i hi
        · rw [getD_set_ne true (fun h => hja y (hsa _ hy) h.symm)]; exact hdo y b hy
        · rw [listedAll_set]; exact hR

/-- The checks on what is made. -/
def mkB (ops : Array Oper) (fin listed1 : Array Bool) (al : List Mk) : Bool :=
  (al.all fun x => (match ops[x.i]? with | some o => o.dst == some x.d && o.guard.isNone && o.after.all (fun e => !Region.binds .any e || listed1.getD e.on false) && al.all (fun y => !(o.looksAt ops).contains y.d) | none => false) && fin.getD x.i false) &&
  ((List.range ops.size).all fun j => !fin.getD j false || listed1.getD j true || al.any (fun x => x.i == j) || match ops[j]? with | some oj => al.all fun x => !(oj.looksAt ops).contains x.d && oj.dst != some x.d && (match ops[x.i]? with | some o => (match oj.dst with | some d => !(o.looksAt ops).contains d | none => true) | none => true) | none => true) &&
  decide (al.map Mk.d).Nodup && decide (al.map Mk.i).Nodup
theorem mkB_spec {al : List Mk} {listed1 : Array Bool} (h : mkB ops fin listed1 al = true) : MkOk ops fin listed1 al := by
  simp only [mkB, Bool.and_eq_true, decide_eq_true_eq] at h
  obtain ⟨⟨⟨h1, h2⟩, h3⟩, h4⟩ := h
  refine ⟨fun x hx => ?_, fun x hx => ?_, fun j oj hj hf hl hne x hx => ?_, h3, h4⟩
  · have := List.all_eq_true.1 h1 x hx
    simp only [Bool.and_eq_true] at this
    obtain ⟨this, _⟩ := this
    split at this
    · rename_i o ho
      simp only [Bool.and_eq_true, beq_iff_eq] at this
      obtain ⟨⟨⟨a2, a3⟩, a4⟩, a5⟩ := this
      refine ⟨o, ho, a2, by simpa using a3, fun e he hb => ?_, fun y hy => ?_⟩
      · have := Array.all_eq_true_iff_forall_mem.1 a4 e he
        rw [hb] at this
        simpa using this
      · have := List.all_eq_true.1 a5 y hy
        simpa using this
    · cases this
  · have := List.all_eq_true.1 h1 x hx
    simp only [Bool.and_eq_true] at this
    exact this.2
  · have hjl : j < ops.size := (Array.getElem?_eq_some_iff.1 hj).1
    have h5 := List.all_eq_true.1 h2 j (List.mem_range.2 hjl)
    rw [hf, hl, hj] at h5
    simp only [Bool.not_true, Bool.false_or, Bool.or_eq_true] at h5
    rcases h5 with h5 | h5
    · obtain ⟨y, hy, hyj⟩ := List.any_eq_true.1 h5
      exact absurd (by simpa using hyj) (hne y hy)
    · have := List.all_eq_true.1 h5 x hx
      simp only [Bool.and_eq_true, Bool.not_eq_true', bne_iff_ne, ne_eq] at this
      refine ⟨by simpa using this.1.1, this.1.2, fun o ho d hd => ?_⟩
      have h6 := this.2
      rw [ho, hd] at h6
      simpa using h6

theorem msets_none (a : Act) (al : List Mk) : msets a (al.map fun x => (x, none)) = a := by
  induction al with
  | nil => rfl
  | cons x al ih => exact ih
theorem mpend_none (al : List Mk) : mpend (al.map fun x => (x, none)) = al.map Mk.i := by
  induction al with
  | nil => rfl
  | cons x al ih => simp only [List.map_cons, mpend_cons, ih]
theorem mfst_none (al : List Mk) : (al.map fun x => (x, (none : Option Nat))).map Prod.fst = al := by
  induction al with
  | nil => rfl
  | cons x al ih => simp only [List.map_cons, ih]
theorem msnd_none (al : List Mk) : (al.map fun x => (x, (none : Option Nat))).filterMap Prod.snd = [] := by
  induction al with
  | nil => rfl
  | cons x al ih => simp only [List.map_cons, List.filterMap_cons, ih]

/-- The beginning: 'perm0' what only reads and is taken first, 'al' what is made, 'perm' the others before the tail, 'tail' the tail. -/
theorem wp_region_rg {id : Nat} {a : Act} {w : World} {l : List Oper} (S : List Nat) (al : List Mk) (loud perm0 perm tail : List Nat) (fin listed1 : Array Bool) (hm : P.follows .mixedOrders = true) (hs : Region.noSelect l.toArray = true)
    (hlen : perm.length + al.length + perm0.length + tail.length = l.toArray.size) (hlt0 : (perm0.all fun i => decide (i < l.length)) = true) (hlt : (perm.all fun i => decide (i < l.length)) = true) (hlt2 : (tail.all fun i => decide (i < l.length)) = true)
    (hW : tailWB l.toArray fin = true) (hA : mkB l.toArray fin listed1 al = true)
    (hP : ordP l.toArray fin perm0 (Array.replicate l.toArray.size false) listed1 = true)
    (hB : ordR2 l.toArray fin loud perm (listedAll listed1 (al.map Mk.i)) = true) (hT : ordB2 l.toArray loud tail fin = true)
    (hal : (al.all fun x => decide (listed1.getD x.i true = false)) = true) (hC : closedB l.toArray (listedAll listed1 (al.map Mk.i)) = true)
    (hQ : ∀ c a (d : Tmp) v w, Q (.panic c) (Act.put a (some d) v) w → Q (.panic c) a w) (hQ2 : ∀ c a (d : Tmp) v w, Q (.panic c) a w → Q (.panic c) (Act.put a (some d) v) w)
    (hS : ∀ k ∈ S, k < w.heap.size)
    (h : wpPre P l.toArray S w.drew (fun a1 => MkRun P l.toArray al a1 ∧ wpRs P l.toArray Q S (AllMde w.heap.size al (fun a' w' => ∃ S', wpMs P l.toArray Q S' (marked l loud tail) a' w')) (marked l loud perm) a1 w.drew) (picked l perm0) a) : (Code.region id l.toArray true).wp P Q a w := by
  refine wp_region_any hm ?_
  have hW' := tailW_spec hW
  have hA' := mkB_spec hA
  have hsel := Region.noSelect_spec hs
  have hpre : ∀ (K K' : Act → Prop) (hK : ∀ a, K a → K' a) (os : List Oper) (a : Act), wpPre P l.toArray S w.drew K os a → wpPre P l.toArray S w.drew K' os a := by
    intro K K' hK os
    induction os with
    | nil => intro a h; exact hK a h
    | cons o os ih => intro a h; simp only [wpPre] at h ⊢; exact wpQuiet_one (fun a' h' => ih a' h') h
  have h2 : wpAnyG P l.toArray Q S fin (fun a' w' => ∃ S', wpMs P l.toArray Q S' (marked l loud tail) a' w') (perm.length + al.length + perm0.length) (Array.replicate l.toArray.size false) a w.drew := by
    refine wpAnyG_pre hW' hs hQ perm0 _ a (closed_none _) (fun i hi => by simpa using List.all_eq_true.1 hlt0 i hi) hP (hpre _ _ ?_ _ a h)
    intro a1 h1 hcl
    have h3 := wpAnyG_walk (E := AllMde w.heap.size al (fun a' w' => ∃ S', wpMs P l.toArray Q S' (marked l loud tail) a' w')) loud hW' hs hQ perm _ a1 w.drew (closedB_spec hC) (fun i hi => by simpa using List.all_eq_true.1 hlt i hi) hB h1.2
    have h4 := wpAnyG_makes (B := w.heap.size) hA' hW' hS hsel hQ2 (perm.length + al.length) perm.length (al.map fun x => (x, none)) listed1 a1 w.drew hcl (fun i hi => hi) (fun i hi => hi) h1.1 (by rw [mpend_none]; simp) (mfst_none al) ⟨fun x b hx => by simp at hx, by rw [msnd_none]; exact List.nodup_nil⟩ (Nat.le_refl _)
      (fun i hi => by
        rw [mpend_none] at hi
        obtain ⟨x, hx, rfl⟩ := List.mem_map.1 hi
        have := List.all_eq_true.1 hal x hx
        simpa only [decide_eq_true_eq] using this)
      (fun x b hx => by simp at hx) (by rw [mpend_none]; exact h3)
    rw [msets_none] at h4
    exact h4
  have h3 := wpAny_of_G (m := tail.length) (fun a' w' hE => by
    obtain ⟨S', hE⟩ := hE
    have := wpAnyH_ms loud hs hQ tail fin a' w' (fun i hi => by simpa using List.all_eq_true.1 hlt2 i hi) hT hE
    exact wpAny_of_held _ _ _ _ this) _ _ _ _ h2
  rw [hlen] at h3
  exact h3

section
variable {o : Oper} {rest : List (Bool × Oper)} {a : Act} {w : World}
theorem pre_quiet {K : Act → Prop} {os : List Oper} (h : wpQuiet P ops (fun w' => ∃ y : AfterS S w, w' = y.x) (fun a' => wpPre P ops S w K os a') [o] a) : wpPre P ops S w K (o :: os) a := h
theorem pre_nil {K : Act → Prop} (h : K a) : wpPre P ops S w K [] a := h
theorem rs_quiet (h : wpQuiet P ops (fun w' => ∃ y : AfterS S w, w' = y.x) (fun a' => wpRs P ops Q S E rest a' w) [o] a) : wpRs P ops Q S E ((false, o) :: rest) a w := h
theorem rs_loud (hw : Region.wanted o (yielded ops a.tmps) = true)
    (h : ∀ w', Below w.heap.size w w' → ∀ K : Act → World → Prop, (∀ a' w'', KeptBut S w' w'' → wpRs P ops Q S E rest a' w'' → K a' w'') → o.wp P a w' K Q) : wpRs P ops Q S E ((true, o) :: rest) a w := by
  intro w' hw'
  simp only [hw, if_true]
  exact h w' hw' _ fun _ _ h1 h2 => ⟨h1, h2⟩
theorem rs_nil (h : ∀ w', Below w.heap.size w w' → E a w') : wpRs P ops Q S E [] a w := h
end
end
attribute [irreducible] wpMs wpRs wpPre
theorem mde1 {B : Nat} {x : Mk} {s : List (Mk × Option Nat)} {w : World} (h1 : s.map Prod.fst = [x]) (h2 : mpend s = []) (h3 : Mde B s w) : ∃ g, s = [(x, some g)] ∧ B ≤ g ∧ BlkIs w g x.t x.z := by
  match s, h1 with
  | [(_, none)], h1 => simp [mpend] at h2
  | [(y, some g)], h1 =>
    simp at h1
    subst h1
    obtain ⟨a1, _, a3⟩ := h3.blk y g (by simp)
    exact ⟨g, rfl, a1, a3⟩
end Go.Proofs.Ytkkjiihdmpngbaa
