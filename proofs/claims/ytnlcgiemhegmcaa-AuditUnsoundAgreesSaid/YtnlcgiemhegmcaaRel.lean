/-
  A region that draws its order, in which variables are made (allocs that wait for nobody) beside calls that make memory, before a tail of stores that wait for all the rest: the walk is done with the others' making of memory in between ('rely'), and the new blocks come in at the end.
-/
import Derived.Test.YtnlcgiemhegmcaaMix
import Derived.Test.YtnlcgiemhegmcaaBlk
namespace Go.Proofs.Ytnlcgiemhegmcaa
open Go.RowKit
set_option linter.unusedVariables false


section
variable {P : Program} {ops : Array Oper} {Q : Exit → Act → World → Prop} {fin : Array Bool} {E : Act → World → Prop}

/-- Whatever order is picked of the operations up to 'fin', others making memory in between. -/
def wpAnyR (P : Program) (ops : Array Oper) (Q : Exit → Act → World → Prop) (fin : Array Bool) (E : Act → World → Prop) : Nat → Array Bool → Act → World → Prop
  | 0, listed, a, w => listed = fin ∧ ∀ w', Below w.heap.size w w' → E a w'
  | fuel + 1, listed, a, w => Region.ready .any ops listed ≠ [] ∧ (∀ i ∈ Region.ready .any ops listed, fin.getD i false = true) ∧
    ∀ w', Below w.heap.size w w' → ∀ i ∈ Region.ready .any ops listed, wpOp P ops Q i (fun a' w'' => Below w'.heap.size w' w'' ∧ wpAnyR P ops Q fin E fuel (listed.setIfInBounds i true) a' w'') a w'

theorem wpAnyR_rely {fuel : Nat} {listed : Array Bool} {a : Act} {w w1 : World} (h : wpAnyR P ops Q fin E fuel listed a w) (hb : Below w.heap.size w w1) : wpAnyR P ops Q fin E fuel listed a w1 := by
  cases fuel with
  | zero => exact ⟨h.1, fun w' hw' => h.2 w' (bnext hb hw')⟩
  | succ fuel => exact ⟨h.1, h.2.1, fun w' hw' => h.2.2 w' (bnext hb hw')⟩

theorem wpAny_of_R {m : Nat} (hE : ∀ a w, E a w → wpAny P .any ops Q m fin a w) : ∀ (fuel : Nat) (listed : Array Bool) (a : Act) (w : World), wpAnyR P ops Q fin E fuel listed a w → wpAny P .any ops Q (fuel + m) listed a w
  | 0, listed, a, w, h => by
    obtain ⟨rfl, h⟩ := h
    rw [Nat.zero_add]
    exact hE a w (h w (Below.refl _ _))
  | fuel + 1, listed, a, w, h => by
    rw [show fuel + 1 + m = (fuel + m) + 1 by omega]
    exact ⟨fun h0 => absurd h0 h.1, fun i hi => wpOp_mono (fun a' w' h' => wpAny_of_R hE fuel _ a' w' h'.2) (h.2.2 w (Below.refl _ _) i hi)⟩

/-- What has come up has come up behind what it waits for. -/
def Closed (ops : Array Oper) (listed : Array Bool) : Prop := ∀ k o, ops[k]? = some o → listed.getD k false = true → ∀ e ∈ o.after, Region.binds .any e = true → listed.getD e.on false = true
theorem closed_set {listed : Array Bool} {i : Nat} (h : Closed ops listed) (hi : i ∈ Region.ready .any ops listed) : Closed ops (listed.setIfInBounds i true) := by
  intro k o hk hl e he hb
  apply getD_set_true
  by_cases hki : i = k
  · subst hki
    obtain ⟨_, o', ho', hall⟩ := mem_ready.1 hi
    rw [hk] at ho'
    injection ho' with ho'
    subst ho'
    exact hall e he hb
  · rw [getD_set_ne false hki] at hl
    exact h k o hk hl e he hb
def closedB (ops : Array Oper) (listed : Array Bool) : Bool :=
  (List.range ops.size).all fun k => !listed.getD k false || match ops[k]? with | some o => o.after.all fun e => !Region.binds .any e || listed.getD e.on false | none => true
theorem closedB_spec {listed : Array Bool} (h : closedB ops listed = true) : Closed ops listed := by
  intro k o hk hl e he hb
  have hkl : k < ops.size := (Array.getElem?_eq_some_iff.1 hk).1
  have h1 := List.all_eq_true.1 h k (List.mem_range.2 hkl)
  rw [hl, hk] at h1
  simp only [Bool.not_true, Bool.false_or] at h1
  have h2 := Array.all_eq_true_iff_forall_mem.1 h1 e he
  rw [hb] at h2
  simpa using h2
theorem closed_none (n : Nat) : Closed ops (Array.replicate n false) := by
  intro k o hk hl
  rcases Nat.lt_or_ge k n with h | h
  · simp [h] at hl
  · simp [Array.getElem?_eq_none (show (Array.replicate n false).size ≤ k by simpa using h)] at hl
/-- Operation j waits for operation i, at once or through others. -/
def reachB (ops : Array Oper) : Nat → Nat → Nat → Bool
  | 0, _, _ => false
  | n + 1, j, i => match ops[j]? with
    | some oj => oj.after.any (fun e => Region.binds .any e && e.on == i) || oj.after.any (fun e => Region.binds .any e && reachB ops n e.on i)
    | none => false
theorem reach_listed {listed : Array Bool} (hc : Closed ops listed) (i : Nat) : ∀ (n j : Nat), reachB ops n j i = true → (∀ oj, ops[j]? = some oj → ∀ e ∈ oj.after, Region.binds .any e = true → listed.getD e.on false = true) → listed.getD i false = true
  | 0, _, h, _ => by cases h
  | n + 1, j, h, hj => by
    simp only [reachB] at h
    split at h
    · rename_i oj hoj
      rw [Bool.or_eq_true] at h
      rcases h with h | h
      · rw [Array.any_eq_true] at h
        obtain ⟨k, hk, h3⟩ := h
        simp only [Bool.and_eq_true, beq_iff_eq] at h3
        have := hj oj hoj _ (Array.getElem_mem hk) h3.1
        rw [h3.2] at this
        exact this
      · rw [Array.any_eq_true] at h
        obtain ⟨k, hk, h3⟩ := h
        simp only [Bool.and_eq_true] at h3
        have h4 := hj oj hoj _ (Array.getElem_mem hk) h3.1
        exact reach_listed hc i n _ h3.2 fun o ho e he hb => hc _ o ho h4 e he hb
    · cases h

/-- Every operation of the tail waits for every one before it. -/
def TailWaits (ops : Array Oper) (fin : Array Bool) : Prop :=
  ∀ (j : Nat) (oj : Oper), ops[j]? = some oj → fin.getD j false = false → ∀ i, fin.getD i false = true → reachB ops 4 j i = true
def tailB (ops : Array Oper) (fin : Array Bool) : Bool :=
  (List.range ops.size).all fun j => fin.getD j false || match ops[j]? with
    | some _ => (List.range fin.size).all fun i => !fin.getD i false || reachB ops 4 j i
    | none => true
theorem tailB_spec (h : tailB ops fin = true) : TailWaits ops fin := by
  intro j oj hj hf i hi
  have hjl : j < ops.size := (Array.getElem?_eq_some_iff.1 hj).1
  have hil : i < fin.size := by
    rcases Nat.lt_or_ge i fin.size with h' | h'
    · exact h'
    · simp [Array.getElem?_eq_none h'] at hi
  have h1 := List.all_eq_true.1 h j (List.mem_range.2 hjl)
  rw [hf, hj] at h1
  simp only [Bool.false_or] at h1
  have h2 := List.all_eq_true.1 h1 i (List.mem_range.2 hil)
  rw [hi] at h2
  simpa using h2
theorem not_listed {i : Nat} {listed : Array Bool} (hr : i ∈ Region.ready .any ops listed) : listed.getD i false = false := by
  have h0 := (mem_ready.1 hr).1
  rcases Nat.lt_or_ge i listed.size with h' | h'
  · simp [h'] at h0 ⊢; exact h0
  · simp [Array.getElem?_eq_none h']
theorem pre_of_ready (hW : TailWaits ops fin) {listed : Array Bool} (hc : Closed ops listed) {i j : Nat} (hi : listed.getD i false = false) (hif : fin.getD i false = true) (hj : j ∈ Region.ready .any ops listed) : fin.getD j false = true := by
  obtain ⟨_, oj, hoj, hall⟩ := mem_ready.1 hj
  cases hf : fin.getD j false
  · have := reach_listed hc i 4 j (hW j oj hoj hf i hif) (fun o ho => by rw [hoj] at ho; injection ho with ho; subst ho; exact hall)
    rw [hi] at this
    cases this
  · rfl

/-- An operation that only reads may be taken first. -/
theorem wpAnyR_first {i : Nat} {oi : Oper} {v : Value} (hW : TailWaits ops fin) (hi : ops[i]? = some oi) (hif : fin.getD i false = true) (hsel : ∀ (j : Nat) (o : Oper) cs b, ops[j]? = some o → o.op ≠ .select cs b)
    (hQ : ∀ c a w, Q (.panic c) (a.put oi.dst v) w → Q (.panic c) a w) :
    ∀ (fuel : Nat) (listed : Array Bool) (a : Act) (w : World), Closed ops listed →
      (∀ j oj, ops[j]? = some oj → j ≠ i → listed.getD j true = false → (∀ e ∈ oj.after, Region.binds .any e = true → e.on ≠ i) → oi.apart ops oj = true) →
      i ∈ Region.ready .any ops listed → YieldsIf P ops (Cl w.heap.size w) oi v a →
      wpAnyR P ops Q fin E fuel (listed.setIfInBounds i true) (a.put oi.dst v) w → wpAnyR P ops Q fin E (fuel + 1) listed a w := by
  intro fuel
  induction fuel with
  | zero =>
    intro listed a w hc _ hr hy H
    refine ⟨fun h => (by rw [h] at hr; cases hr), fun j hj => pre_of_ready hW hc (not_listed hr) hif hj, fun w' hw' j hj => ?_⟩
    by_cases hji : j = i
    · subst hji
      exact hy.wpOp hi (Cl.of hw') ⟨Below.refl _ _, H.1, fun w'' hw'' => H.2 w'' (bnext hw' hw'')⟩
    · have h1 := ready_mono hj hji
      rw [H.1] at h1
      have h2 := not_listed h1
      rw [pre_of_ready hW hc (not_listed hr) hif hj] at h2
      cases h2
  | succ fuel ih =>
    intro listed a w hc hfree hr hy H
    refine ⟨fun h => (by rw [h] at hr; cases hr), fun j hj => pre_of_ready hW hc (not_listed hr) hif hj, fun w' hw' j hj => ?_⟩
    have hy' : YieldsIf P ops (Cl w'.heap.size w') oi v a := by
      refine hy.imp (fun ⟨h1, h2⟩ => ⟨h1, fun x hx => h2 x (Cl.sub hw'.size hw' hx)⟩) id
    by_cases hji : j = i
    · subst hji
      exact hy'.wpOp hi (Cl.self _ _) ⟨Below.refl _ _, wpAnyR_rely H hw'⟩
    · have h1 := H.2.2 w' hw' j (ready_mono hj hji)
      obtain ⟨hjun, oj, hoj, hall⟩ := mem_ready.1 hj
      have hnot : ∀ e ∈ oj.after, Region.binds .any e = true → e.on ≠ i := fun e he hb heq => by
        have h1 := hall e he hb
        rw [heq, not_listed hr] at h1
        cases h1
      have h2 := wpOp_putIf hoj (hfree j oj hoj hji hjun hnot) (fun cs b => hsel i oi cs b hi) (fun cs b => hsel j oj cs b hoj) hQ hy' h1
      have hfree' : ∀ k ok, ops[k]? = some ok → k ≠ i → (listed.setIfInBounds j true).getD k true = false →
          (∀ e ∈ ok.after, Region.binds .any e = true → e.on ≠ i) → oi.apart ops ok = true := fun k ok hk hki hun hno => by
        refine hfree k ok hk hki ?_ hno
        by_cases hjk : j = k
        · subst hjk; exact hjun
        · rw [getD_set_ne true hjk] at hun; exact hun
      refine wpOp_mono (fun a' w'' h3 => ⟨h3.2.1, ih (listed.setIfInBounds j true) a' w'' (closed_set hc hj) hfree' (ready_mono hr (Ne.symm hji)) ?_ ?_⟩) h2
      · exact h3.1.imp (fun ⟨h4, h5⟩ => ⟨h4, fun x hx => h5 x (Cl.sub h3.2.1.size h3.2.1 hx)⟩) id
      · rw [Array.setIfInBounds_comm _ _ hji]
        exact h3.2.2

/-- The walk with others in between. -/
def wpRl (P : Program) (ops : Array Oper) (Q : Exit → Act → World → Prop) (E : Act → World → Prop) : List (Bool × Oper) → Act → World → Prop
  | [], a, w => ∀ w', Below w.heap.size w w' → E a w'
  | (true, o) :: rest, a, w => ∀ w', Below w.heap.size w w' →
      if Region.wanted o (yielded ops a.tmps) then o.wp P a w' (fun a' w'' => Below w'.heap.size w' w'' ∧ wpRl P ops Q E rest a' w'') Q else wpRl P ops Q E rest (a.put o.dst undef) w'
  | (false, o) :: rest, a, w => wpQuiet P ops (Cl w.heap.size w) (fun a' => wpRl P ops Q E rest a' w) [o] a

def ordR (ops : Array Oper) (fin : Array Bool) (loud : List Nat) : List Nat → Array Bool → Bool
  | [], listed => listed == fin
  | i :: rest, listed => fin.getD i false &&
    (if loud.contains i then Region.ready .any ops listed == [i]
     else (Region.ready .any ops listed).contains i && Region.free .any ops listed i && (match ops[i]? with | some o => plainOp o.op | none => false)) && ordR ops fin loud rest (listed.setIfInBounds i true)

theorem wpAnyR_walk {l : List Oper} (loud : List Nat) (hW : TailWaits l.toArray fin) (hs : Region.noSelect l.toArray = true) (hQ : ∀ c a (d : Tmp) v w, Q (.panic c) (Act.put a (some d) v) w → Q (.panic c) a w) :
    ∀ (perm : List Nat) (listed : Array Bool) (a : Act) (w : World), Closed l.toArray listed → (∀ i ∈ perm, i < l.length) → ordR l.toArray fin loud perm listed = true → wpRl P l.toArray Q E (marked l loud perm) a w → wpAnyR P l.toArray Q fin E perm.length listed a w
  | [], listed, a, w, _, _, hB, h => ⟨by simpa [ordR] using hB, h⟩
  | i :: rest, listed, a, w, hc, hlt, hB, h => by
    obtain ⟨o, hi⟩ : ∃ o, l[i]? = some o := ⟨_, List.getElem?_eq_getElem (hlt i (List.mem_cons_self ..))⟩
    have hi' : l.toArray[i]? = some o := by simpa using hi
    rw [marked_cons l loud i rest _ hi] at h
    simp only [ordR, Bool.and_eq_true] at hB
    obtain ⟨⟨hif, hB1⟩, hB2⟩ := hB
    have ih := fun hi a' w' => wpAnyR_walk loud hW hs hQ rest (listed.setIfInBounds i true) a' w' (closed_set hc hi) (fun j hj => hlt j (List.mem_cons_of_mem _ hj)) hB2
    by_cases hl : loud.contains i = true
    · rw [hl] at h hB1
      simp only [if_true, beq_iff_eq] at hB1
      have hri : i ∈ Region.ready .any l.toArray listed := by rw [hB1]; simp
      refine ⟨by rw [hB1]; simp, fun j hj => ?_, fun w' hw' j hj => ?_⟩
      · obtain rfl : j = i := by rw [hB1] at hj; simpa using hj
        exact hif
      · obtain rfl : j = i := by rw [hB1] at hj; simpa using hj
        unfold wpOp
        rw [hi']
        simp only [wpRl] at h
        have h1 := h w' hw'
        simp only
        split
        · rename_i hw
          rw [if_pos hw] at h1
          exact .inl (Oper.wp_mono (fun a' w'' hh => ⟨hh.1, ih hri a' w'' hh.2⟩) h1)
        · rename_i hw
          rw [if_neg hw] at h1
          exact ⟨Below.refl _ _, ih hri _ w' h1⟩
    · rw [Bool.not_eq_true] at hl
      rw [hl] at h hB1
      simp only [Bool.false_eq_true, if_false, Bool.and_eq_true, hi'] at hB1
      obtain ⟨⟨hr, hf⟩, hpl⟩ := hB1
      have hri : i ∈ Region.ready .any l.toArray listed := by simpa using hr
      simp only [wpRl] at h
      have hq : qOp P l.toArray (Cl w.heap.size w) i (fun a' => wpRl P l.toArray Q E (marked l loud rest) a' w) a := by
        unfold qOp; rw [hi']; exact h
      obtain ⟨v, hy, hK⟩ := yieldsIn_of_qOp hi' hq
      have hQ' : ∀ c a w, Q (.panic c) (Act.put a o.dst v) w → Q (.panic c) a w := by
        intro c a' w' hh
        cases hd : o.dst with
        | none => rw [hd] at hh; exact hh
        | some d => rw [hd] at hh; exact hQ c a' d v w' hh
      exact wpAnyR_first hW hi' hif (Region.noSelect_spec hs) hQ' _ listed a w hc (Region.free_spec hi' hf) hri (yieldsIf_of hpl hy) (ih hri _ w hK)

/-- A variable that is made: the operation's number, its slot, its type and the cells at first. -/
structure Al where
  i : Nat
  d : Tmp
  t : TypeId
  z : Array Value

def ptrTo (b : Nat) : Value := .pointer (some ⟨b, 0, none⟩)

def sets (a : Act) : List (Al × Option Nat) → Act
  | [] => a
  | (x, some b) :: s => (sets a s).put (some x.d) (ptrTo b)
  | (_, none) :: s => sets a s

theorem sets_upd (a : Act) (x : Al) (b : Nat) (s2 : List (Al × Option Nat)) : ∀ s1 : List (Al × Option Nat), (∀ y ∈ s1, y.1.d ≠ x.d) → (sets a (s1 ++ (x, none) :: s2)).put (some x.d) (ptrTo b) = sets a (s1 ++ (x, some b) :: s2)
  | [], _ => rfl
  | (y, none) :: s1, h => sets_upd a x b s2 s1 fun z hz => h z (List.mem_cons_of_mem _ hz)
  | (y, some c) :: s1, h => by
    have hne := h (y, some c) (List.mem_cons_self ..)
    simp only [List.cons_append, sets]
    rw [Act.put_comm _ _ _ (fun d hd he => by simp at hd he; exact hne (hd.trans he.symm)), sets_upd a x b s2 s1 fun z hz => h z (List.mem_cons_of_mem _ hz)]
theorem sets_put (a : Act) (dst : Option Tmp) (u : Value) : ∀ s : List (Al × Option Nat), (∀ y ∈ s, dst ≠ some y.1.d) → (sets a s).put dst u = sets (a.put dst u) s
  | [], _ => rfl
  | (y, none) :: s, h => sets_put a dst u s fun z hz => h z (List.mem_cons_of_mem _ hz)
  | (y, some c) :: s, h => by
    have hne := h (y, some c) (List.mem_cons_self ..)
    simp only [sets]
    rw [Act.put_comm _ _ _ (fun d hd he => by rw [he] at hne; exact hne hd.symm), sets_put a dst u s fun z hz => h z (List.mem_cons_of_mem _ hz)]
theorem sets_defers (a : Act) (d : Deferred) : ∀ s : List (Al × Option Nat), ({ sets a s with defers := d :: (sets a s).defers } : Act) = sets { a with defers := d :: a.defers } s
  | [] => rfl
  | (y, none) :: s => sets_defers a d s
  | (y, some c) :: s => by
    simp only [sets]
    rw [Act.put_defers, sets_defers a d s]
theorem sets_exec (a : Act) (o : Oper) (hs : ∀ cs b, o.op ≠ .select cs b) : ∀ s : List (Al × Option Nat), (∀ y ∈ s, y.1.d ∉ o.looksAt ops) → execOp (sets a s).eval o = execOp a.eval o ∧ Region.wanted o (yielded ops (sets a s).tmps) = Region.wanted o (yielded ops a.tmps)
  | [], _ => ⟨rfl, rfl⟩
  | (y, none) :: s, h => sets_exec a o hs s fun z hz => h z (List.mem_cons_of_mem _ hz)
  | (y, some c) :: s, h => by
    have hne := h (y, some c) (List.mem_cons_self ..)
    obtain ⟨e1, e2⟩ := sets_exec a o hs s fun z hz => h z (List.mem_cons_of_mem _ hz)
    simp only [sets]
    exact ⟨(execOp_put (ops := ops) o hs _ _ _ (fun d hd => by injection hd with hd; subst hd; exact hne)).trans e1, (wanted_put o _ _ _ (fun d hd => by injection hd with hd; subst hd; exact hne)).trans e2⟩
theorem sets_panic (hQ : ∀ c a (d : Tmp) v w, Q (.panic c) a w → Q (.panic c) (Act.put a (some d) v) w) {c : _} {a : Act} {w : World} (h : Q (.panic c) a w) : ∀ s : List (Al × Option Nat), Q (.panic c) (sets a s) w
  | [] => h
  | (y, none) :: s => sets_panic hQ h s
  | (y, some b) :: s => hQ _ _ _ _ _ (sets_panic hQ h s)

theorem wpOp_sets {j : Nat} {oj : Oper} (hj : ops[j]? = some oj) (hs : ∀ cs b, oj.op ≠ .select cs b) (s : List (Al × Option Nat)) (hl : ∀ y ∈ s, y.1.d ∉ oj.looksAt ops) (hd : ∀ y ∈ s, oj.dst ≠ some y.1.d)
    (hQ : ∀ c a (d : Tmp) v w, Q (.panic c) a w → Q (.panic c) (Act.put a (some d) v) w) {K : Act → World → Prop} {a : Act} {w : World} (h : wpOp P ops Q j K a w) :
    wpOp P ops Q j (fun a' w' => ∃ a0, a' = sets a0 s ∧ K a0 w') (sets a s) w := by
  obtain ⟨he, hw⟩ := sets_exec (ops := ops) a oj hs s hl
  unfold wpOp at *
  simp only [hj] at *
  rw [hw]
  split
  · rename_i hwt
    simp only [hwt, if_true] at h
    rcases h with h | ⟨hasks, hlets⟩
    case inr => exact .inr ⟨by unfold Oper.asks at *; rw [he]; exact hasks, hlets⟩
    refine .inl ?_
    unfold Oper.wp at *
    rw [he]
    generalize (execOp a.eval oj).run P w = r at *
    cases r with
    | ok n w' =>
      cases n <;> simp only [Oper.upon] at h ⊢
      case value u => exact ⟨_, sets_put a _ u s hd, h⟩
      case skip => exact ⟨_, sets_put a _ _ s hd, h⟩
      case defer d => exact ⟨_, by rw [sets_defers]; exact sets_put _ _ _ s hd, h⟩
      case enter f args =>
        refine Calls.mono h fun e w'' he => ?_
        cases e with
        | returned u => exact ⟨_, sets_put a _ u s hd, he⟩
        | panicked c => exact sets_panic hQ he s
        | outgrown => exact he
      case row row args => exact Rows.mono h fun u w'' he => ⟨_, sets_put a _ u s hd, he⟩
    | halt x w' =>
      cases x <;> simp only [Oper.upon] at h ⊢
      case panic u => exact sets_panic hQ h s
  · rename_i hwt
    simp only [hwt] at h
    exact ⟨_, sets_put a _ _ s hd, h⟩

/-- What is asked of the variables that are made. -/
structure AlOk (P : Program) (ops : Array Oper) (fin : Array Bool) (al : List Al) : Prop where
  op : ∀ x ∈ al, ∃ o, ops[x.i]? = some o ∧ o.op = .alloc x.t ∧ o.dst = some x.d ∧ o.guard = none ∧ (∀ e ∈ o.after, Region.binds .any e = false)
  run : ∀ x ∈ al, ∀ w, (Instr.alloc x.t true (.tuple #[])).run P w = .ok (ptrTo w.heap.size) (w.alloc (.cells x.z x.t))
  pre : ∀ x ∈ al, fin.getD x.i false = true
  other : ∀ j oj, ops[j]? = some oj → fin.getD j false = true → (∀ x ∈ al, x.i ≠ j) → ∀ x ∈ al, x.d ∉ oj.looksAt ops ∧ oj.dst ≠ some x.d
  slots : (al.map Al.d).Nodup
  idx : (al.map Al.i).Nodup

def pend (s : List (Al × Option Nat)) : List Nat := s.filterMap fun p => match p.2 with | none => some p.1.i | some _ => none
theorem pend_cons (p : Al × Option Nat) (s : List (Al × Option Nat)) : pend (p :: s) = (match p.2 with | none => p.1.i :: pend s | some _ => pend s) := by
  obtain ⟨x, o⟩ := p
  cases o <;> simp [pend]
theorem pend_app (s t : List (Al × Option Nat)) : pend (s ++ t) = pend s ++ pend t := by simp [pend]
def listedAll (listed : Array Bool) (l : List Nat) : Array Bool := l.foldl (fun s i => s.setIfInBounds i true) listed
theorem listedAll_set (l : List Nat) : ∀ (listed : Array Bool) (j : Nat), listedAll (listed.setIfInBounds j true) l = (listedAll listed l).setIfInBounds j true := by
  induction l with
  | nil => intro _ _; rfl
  | cons i l ih =>
    intro listed j
    show listedAll ((listed.setIfInBounds j true).setIfInBounds i true) l = (listedAll (listed.setIfInBounds i true) l).setIfInBounds j true
    by_cases h : j = i
    · subst h; rw [ih]
    · rw [Array.setIfInBounds_comm _ _ h, ih]
theorem listedAll_mid (p1 p2 : List Nat) (j : Nat) (listed : Array Bool) : listedAll (listed.setIfInBounds j true) (p1 ++ p2) = listedAll listed (p1 ++ j :: p2) := by
  show List.foldl _ _ _ = List.foldl _ _ _
  rw [List.foldl_append, List.foldl_append, List.foldl_cons]
  show listedAll (listedAll _ p1) p2 = listedAll ((listedAll listed p1).setIfInBounds j true) p2
  rw [listedAll_set]
theorem ready_all (l : List Nat) : ∀ {listed : Array Bool} {j : Nat}, j ∈ Region.ready .any ops listed → j ∉ l → j ∈ Region.ready .any ops (listedAll listed l) := by
  induction l with
  | nil => intro _ _ h _; exact h
  | cons i l ih =>
    intro listed j h hn
    simp only [List.mem_cons, not_or] at hn
    exact ih (ready_mono h hn.1) hn.2

/-- What holds of the variables that have been made. -/
structure Made (B : Nat) (s : List (Al × Option Nat)) (w : World) : Prop where
  blk : ∀ x b, (x, some b) ∈ s → B ≤ b ∧ b < w.heap.size ∧ BlkIs w b x.t x.z
  nodup : (s.filterMap Prod.snd).Nodup
theorem Made.rely {B : Nat} {s : List (Al × Option Nat)} {w w' : World} (h : Made B s w) (hb : Below w.heap.size w w') : Made B s w' :=
  ⟨fun x b hx => ⟨(h.blk x b hx).1, Nat.lt_of_lt_of_le (h.blk x b hx).2.1 hb.size, (h.blk x b hx).2.2.below hb (h.blk x b hx).2.1⟩, h.nodup⟩
theorem Made.make {B : Nat} {s1 s2 : List (Al × Option Nat)} {x : Al} {w : World} (h : Made B (s1 ++ (x, none) :: s2) w) (hB : B ≤ w.heap.size) : Made B (s1 ++ (x, some w.heap.size) :: s2) (w.alloc (.cells x.z x.t)) := by
  refine ⟨fun y b hy => ?_, ?_⟩
  · simp only [List.mem_append, List.mem_cons, Prod.mk.injEq, Option.some.injEq] at hy
    rcases hy with hy | ⟨rfl, rfl⟩ | hy
    · obtain ⟨h1, h2, h3⟩ := h.blk y b (by simp [hy])
      exact ⟨h1, by simp; omega, h3.alloc _⟩
    · exact ⟨hB, by simp, BlkIs.new _ _ _⟩
    · obtain ⟨h1, h2, h3⟩ := h.blk y b (by simp [hy])
      exact ⟨h1, by simp; omega, h3.alloc _⟩
  · have hn := h.nodup
    simp only [List.filterMap_append, List.filterMap_cons] at hn ⊢
    rw [List.nodup_append] at hn ⊢
    rw [List.nodup_cons]
    have lt1 : ∀ b ∈ s1.filterMap Prod.snd, b < w.heap.size := by
      intro b hb
      obtain ⟨⟨y, o⟩, hy, ho⟩ := List.mem_filterMap.1 hb
      simp only at ho
      subst ho
      exact (h.blk y b (by simp [hy])).2.1
    have lt2 : ∀ b ∈ s2.filterMap Prod.snd, b < w.heap.size := by
      intro b hb
      obtain ⟨⟨y, o⟩, hy, ho⟩ := List.mem_filterMap.1 hb
      simp only at ho
      subst ho
      exact (h.blk y b (by simp [hy])).2.1
    refine ⟨hn.1, ⟨fun hm => Nat.lt_irrefl _ (lt2 _ hm), hn.2.1⟩, fun a ha b hb => ?_⟩
    rcases List.mem_cons.1 hb with rfl | hb
    · exact Nat.ne_of_lt (lt1 a ha)
    · exact hn.2.2 a ha b hb

/-- What is to be shown when all variables have been made. -/
def AllMade (B : Nat) (al : List Al) (E : Act → World → Prop) (a : Act) (w : World) : Prop :=
  ∀ s : List (Al × Option Nat), s.map Prod.fst = al → pend s = [] → Made B s w → E (sets a s) w

theorem wpAnyR_allocs {al : List Al} {B : Nat} (hA : AlOk P ops fin al) (hW : TailWaits ops fin) (hsel : ∀ (j : Nat) (o : Oper) cs b, ops[j]? = some o → o.op ≠ .select cs b)
    (hQ : ∀ c a (d : Tmp) v w, Q (.panic c) a w → Q (.panic c) (Act.put a (some d) v) w) :
    ∀ (m fuel : Nat) (s : List (Al × Option Nat)) (listed : Array Bool) (a : Act) (w : World), Closed ops listed → m = fuel + (pend s).length → s.map Prod.fst = al → Made B s w → B ≤ w.heap.size →
      (∀ i ∈ pend s, listed.getD i true = false) → (∀ x b, (x, some b) ∈ s → listed.getD x.i true = true) →
      wpAnyR P ops Q fin (AllMade B al E) fuel (listedAll listed (pend s)) a w → wpAnyR P ops Q fin E m listed (sets a s) w := by
  intro m
  induction m with
  | zero =>
    intro fuel s listed a w hc hm hs hM hB hun hdo H
    have hp : pend s = [] := List.eq_nil_of_length_eq_zero (by omega)
    have hf : fuel = 0 := by omega
    subst hf
    rw [hp] at H
    exact ⟨H.1, fun w' hw' => H.2 w' hw' s hs hp (hM.rely hw')⟩
  | succ m ih =>
    intro fuel s listed a w hc hm hs hM hB hun hdo H
    have key : Region.ready .any ops listed ≠ [] ∧ ∀ i ∈ Region.ready .any ops listed, fin.getD i false = true := by
      rcases hp : pend s with _ | ⟨i, ps⟩
      · rw [hp] at H hm
        rcases fuel with _ | fuel
        · simp at hm
        · exact ⟨H.1, H.2.1⟩
      · have hi : i ∈ pend s := by rw [hp]; exact List.mem_cons_self ..
        have hi0 := hun i hi
        obtain ⟨⟨x, o⟩, hx, ho⟩ := List.mem_filterMap.1 hi
        rcases o with _ | o
        · simp only [Option.some.injEq] at ho
          subst ho
          have hxa : x ∈ al := by rw [← hs]; exact List.mem_map.2 ⟨_, hx, rfl⟩
          obtain ⟨ox, h1, h2, h3, h4, h5⟩ := hA.op x hxa
          have hr : x.i ∈ Region.ready .any ops listed := mem_ready.2 ⟨hi0, ox, h1, fun e he hb => by rw [h5 e he] at hb; cases hb⟩
          exact ⟨(fun h => by rw [h] at hr; cases hr), fun j hj => pre_of_ready hW hc (not_listed hr) (hA.pre x hxa) hj⟩
        · cases ho
    refine ⟨key.1, key.2, fun w' hw' j hj => ?_⟩
    obtain ⟨hjun, oj, hoj, _⟩ := mem_ready.1 hj
    by_cases hjp : j ∈ pend s
    · obtain ⟨⟨x, o⟩, hx, ho⟩ := List.mem_filterMap.1 hjp
      rcases o with _ | o
      · simp only [Option.some.injEq] at ho
        subst ho
        have hxa : x ∈ al := by rw [← hs]; exact List.mem_map.2 ⟨_, hx, rfl⟩
        obtain ⟨ox, h1, h2, h3, h4, h5⟩ := hA.op x hxa
        obtain ⟨s1, s2, rfl⟩ := List.append_of_mem hx
        have hd := hA.slots
        have hix := hA.idx
        rw [← hs] at hd hix
        simp only [List.map_append, List.map_cons, List.map_map] at hd hix
        rw [List.nodup_append] at hd hix
        have hne : ∀ y ∈ s1, y.1.d ≠ x.d := fun y hy => hd.2.2 _ (List.mem_map.2 ⟨y, hy, rfl⟩) _ (List.mem_cons_self ..)
        have hp : pend (s1 ++ (x, none) :: s2) = pend s1 ++ x.i :: pend s2 := by rw [pend_app, pend_cons]
        have hp' : pend (s1 ++ (x, some w'.heap.size) :: s2) = pend s1 ++ pend s2 := by rw [pend_app, pend_cons]
        unfold wpOp
        rw [h1]
        have hwt : Region.wanted ox (yielded ops (sets a (s1 ++ (x, none) :: s2)).tmps) = true := by simp [Region.wanted, h4]
        simp only [hwt, if_true]
        refine .inl ?_
        unfold Oper.wp execOp
        simp only [h2, Sem.run_bind, hA.run x hxa w', Result.andThen_ok, Sem.run_pure, Oper.upon, h3]
        refine ⟨(Below.refl _ _).alloc (Nat.le_refl _) _, ?_⟩
        rw [sets_upd a x w'.heap.size s2 s1 hne]
        have hnm : x.i ∉ (s1.map fun y => y.1.i) ∧ x.i ∉ (s2.map fun y => y.1.i) := by
          refine ⟨fun h => ?_, fun h => ?_⟩
          · exact hix.2.2 _ h _ (List.mem_cons_self ..) rfl
          · exact (List.nodup_cons.1 hix.2.1).1 h
        have hpm : ∀ (t : List (Al × Option Nat)) i, i ∈ pend t → i ∈ t.map fun y => y.1.i := by
          intro t i hi
          obtain ⟨⟨y, o⟩, hy, ho⟩ := List.mem_filterMap.1 hi
          rcases o with _ | o
          · simp only [Option.some.injEq] at ho; exact List.mem_map.2 ⟨_, hy, ho⟩
          · cases ho
        refine ih fuel _ _ a _ (closed_set hc hj) ?_ ?_ ((hM.rely hw').make (Nat.le_trans hB hw'.size)) (Nat.le_trans hB (Nat.le_trans hw'.size (by simp))) ?_ ?_ ?_
        · rw [hp] at hm; rw [hp']; simp at hm ⊢; omega
        · rw [← hs]; simp
        · intro i hi
          rw [hp'] at hi
          have hij : x.i ≠ i := by
            rintro rfl
            rcases List.mem_append.1 hi with h | h
            · exact hnm.1 (hpm _ _ h)
            · exact hnm.2 (hpm _ _ h)
          rw [getD_set_ne true hij]
          exact hun i (by rw [hp]; rcases List.mem_append.1 hi with h | h <;> simp [h])
        · intro y b hy
          by_cases hyx : x.i = y.i
          · rw [← hyx]
            rcases Nat.lt_or_ge x.i listed.size with h' | h'
            · simp [h']
            · simp
          · rw [getD_set_ne true hyx]
            simp only [List.mem_append, List.mem_cons, Prod.mk.injEq] at hy
            rcases hy with hy | ⟨rfl, _⟩ | hy
            · exact hdo y b (by simp [hy])
            · exact absurd rfl hyx
            · exact hdo y b (by simp [hy])
        · rw [hp', listedAll_mid, ← hp]
          exact wpAnyR_rely H (bnext hw' ((Below.refl _ _).alloc (Nat.le_refl _) _))
      · cases ho
    · have hja : ∀ x ∈ al, x.i ≠ j := by
        intro x hx hxj
        rw [← hs] at hx
        obtain ⟨⟨y, o⟩, hy, rfl⟩ := List.mem_map.1 hx
        rcases o with _ | b
        · exact hjp (List.mem_filterMap.2 ⟨(y, none), hy, by simp only at hxj ⊢; rw [hxj]⟩)
        · have := hdo y b hy
          simp only at hxj
          rw [hxj, hjun] at this
          cases this
      have hjf := key.2 j hj
      have hj2 := ready_all (pend s) hj hjp
      rcases fuel with _ | fuel
      · have h1 := not_listed hj2
        rw [H.1, hjf] at h1
        cases h1
      · have h1 := H.2.2 w' hw' j hj2
        have ho := hA.other j oj hoj hjf hja
        have hsa : ∀ y ∈ s, y.1 ∈ al := fun y hy => by rw [← hs]; exact List.mem_map.2 ⟨y, hy, rfl⟩
        have h2 := wpOp_sets hoj (fun cs b => hsel j oj cs b hoj) s (fun y hy => (ho y.1 (hsa y hy)).1) (fun y hy => (ho y.1 (hsa y hy)).2) hQ h1
        refine wpOp_mono (fun a' w'' h3 => ?_) h2
        obtain ⟨a0, rfl, hb, hR⟩ := h3
        refine ⟨hb, ih fuel s _ a0 w'' (closed_set hc hj) (by omega) hs (hM.rely (bnext hw' hb)) (Nat.le_trans hB (Nat.le_trans hw'.size hb.size)) (fun i hi => ?_) (fun y b hy => ?_) ?_⟩
        · rw [getD_set_ne true (fun h => hjp (by rw [h]; exact hi))]; exact hun i hi
        · rw [getD_set_ne true (fun h => hja y (hsa _ hy) h.symm)]; exact hdo y b hy
        · rw [listedAll_set]; exact hR

/-- The checks on the variables that are made. -/
def alB (ops : Array Oper) (fin : Array Bool) (al : List Al) : Bool :=
  (al.all fun x => (match ops[x.i]? with | some o => (match o.op with | .alloc t => t == x.t | _ => false) && o.dst == some x.d && o.guard.isNone && o.after.all (fun e => !Region.binds .any e) | none => false) && fin.getD x.i false) &&
  ((List.range ops.size).all fun j => !fin.getD j false || al.any (fun x => x.i == j) || match ops[j]? with | some oj => al.all fun x => !(oj.looksAt ops).contains x.d && oj.dst != some x.d | none => true) &&
  decide (al.map Al.d).Nodup && decide (al.map Al.i).Nodup
theorem alB_spec {al : List Al} (h : alB ops fin al = true) (hr : ∀ x ∈ al, ∀ w, (Instr.alloc x.t true (.tuple #[])).run P w = .ok (ptrTo w.heap.size) (w.alloc (.cells x.z x.t))) : AlOk P ops fin al := by
  simp only [alB, Bool.and_eq_true, decide_eq_true_eq] at h
  obtain ⟨⟨⟨h1, h2⟩, h3⟩, h4⟩ := h
  refine ⟨fun x hx => ?_, hr, fun x hx => ?_, fun j oj hj hf hne x hx => ?_, h3, h4⟩
  · have := List.all_eq_true.1 h1 x hx
    simp only [Bool.and_eq_true] at this
    obtain ⟨this, _⟩ := this
    split at this
    · rename_i o ho
      simp only [Bool.and_eq_true, beq_iff_eq] at this
      obtain ⟨⟨⟨a1, a2⟩, a3⟩, a4⟩ := this
      refine ⟨o, ho, ?_, a2, by simpa using a3, fun e he => ?_⟩
      · split at a1
        · rename_i t ht; rw [ht]; simp only [beq_iff_eq] at a1; rw [a1]
        · cases a1
      · have := Array.all_eq_true_iff_forall_mem.1 a4 e he
        simpa using this
    · cases this
  · have := List.all_eq_true.1 h1 x hx
    simp only [Bool.and_eq_true] at this
    exact this.2
  · have hjl : j < ops.size := (Array.getElem?_eq_some_iff.1 hj).1
    have h5 := List.all_eq_true.1 h2 j (List.mem_range.2 hjl)
    rw [hf, hj] at h5
    simp only [Bool.not_true, Bool.false_or, Bool.or_eq_true] at h5
    rcases h5 with h5 | h5
    · obtain ⟨y, hy, hyj⟩ := List.any_eq_true.1 h5
      exact absurd (by simpa using hyj) (hne y hy)
    · have := List.all_eq_true.1 h5 x hx
      simp only [Bool.and_eq_true, Bool.not_eq_true', bne_iff_ne, ne_eq] at this
      exact ⟨by simpa using this.1, this.2⟩

theorem sets_none (a : Act) (al : List Al) : sets a (al.map fun x => (x, none)) = a := by
  induction al with
  | nil => rfl
  | cons x al ih => exact ih
theorem pend_none (al : List Al) : pend (al.map fun x => (x, none)) = al.map Al.i := by
  induction al with
  | nil => rfl
  | cons x al ih => simp only [List.map_cons, pend_cons, ih]

theorem fst_none (al : List Al) : (al.map fun x => (x, (none : Option Nat))).map Prod.fst = al := by
  induction al with
  | nil => rfl
  | cons x al ih => simp only [List.map_cons, ih]
theorem snd_none (al : List Al) : (al.map fun x => (x, (none : Option Nat))).filterMap Prod.snd = [] := by
  induction al with
  | nil => rfl
  | cons x al ih => simp only [List.map_cons, List.filterMap_cons, ih]

/-- The beginning: 'al' the variables that are made, 'perm' the others before the tail, 'tail' the tail. -/
theorem wp_region_rely {id : Nat} {a : Act} {w : World} {l : List Oper} (al : List Al) (loud perm tail : List Nat) (fin : Array Bool) (hm : P.follows .mixedOrders = true) (hs : Region.noSelect l.toArray = true)
    (hlen : perm.length + al.length + tail.length = l.toArray.size) (hlt : (perm.all fun i => decide (i < l.length)) = true) (hlt2 : (tail.all fun i => decide (i < l.length)) = true)
    (hW : tailB l.toArray fin = true) (hA : alB l.toArray fin al = true)
    (hB : ordR l.toArray fin loud perm (listedAll (Array.replicate l.toArray.size false) (al.map Al.i)) = true) (hT : ordB l.toArray loud tail fin = true)
    (hal : (al.all fun x => decide (x.i < l.length)) = true) (hC : closedB l.toArray (listedAll (Array.replicate l.toArray.size false) (al.map Al.i)) = true)
    (hr : ∀ x ∈ al, ∀ w, (Instr.alloc x.t true (.tuple #[])).run P w = .ok (ptrTo w.heap.size) (w.alloc (.cells x.z x.t)))
    (hQ : ∀ c a (d : Tmp) v w, Q (.panic c) (Act.put a (some d) v) w → Q (.panic c) a w) (hQ2 : ∀ c a (d : Tmp) v w, Q (.panic c) a w → Q (.panic c) (Act.put a (some d) v) w)
    (h : wpRl P l.toArray Q (AllMade w.heap.size al (fun a' w' => wpMl P l.toArray Q (marked l loud tail) w.heap.size a' w')) (marked l loud perm) a w.drew) : (Code.region id l.toArray true).wp P Q a w := by
  refine wp_region_any hm ?_
  have hW' := tailB_spec hW
  have hA' := alB_spec (P := P) hA hr
  have hsel := Region.noSelect_spec hs
  have h1 := wpAnyR_walk (E := AllMade w.heap.size al (fun a' w' => wpMl P l.toArray Q (marked l loud tail) w.heap.size a' w')) loud hW' hs hQ perm _ a w.drew (closedB_spec hC) (fun i hi => by simpa using List.all_eq_true.1 hlt i hi) hB h
  have h2 := wpAnyR_allocs (B := w.heap.size) hA' hW' hsel hQ2 (perm.length + al.length) perm.length (al.map fun x => (x, none)) (Array.replicate l.toArray.size false) a w.drew (closed_none _) (by rw [pend_none]; simp) (fst_none al) ⟨fun x b hx => by simp at hx, by rw [snd_none]; exact List.nodup_nil⟩ (Nat.le_refl _)
    (fun i hi => by
      rw [pend_none] at hi
      obtain ⟨x, hx, rfl⟩ := List.mem_map.1 hi
      have := List.all_eq_true.1 hal x hx
      simp only [decide_eq_true_eq] at this
      simp [this])
    (fun x b hx => by simp at hx) (by rw [pend_none]; exact h1)
  rw [sets_none] at h2
  have h3 := wpAny_of_R (m := tail.length) (fun a' w' hE => by
    have := wpAnyH_ml loud hs hQ tail fin w.heap.size a' w' (fun i hi => by simpa using List.all_eq_true.1 hlt2 i hi) hT hE
    exact wpAny_of_held _ _ _ _ this) _ _ _ _ h2
  rw [hlen] at h3
  exact h3

section
variable {o : Oper} {rest : List (Bool × Oper)} {a : Act} {w : World}
theorem rl_quiet (h : wpQuiet P ops (fun w' => ∃ y : AfterB w.heap.size w, w' = y.x) (fun a' => wpRl P ops Q E rest a' w) [o] a) : wpRl P ops Q E ((false, o) :: rest) a w := h
theorem rl_loud (hw : Region.wanted o (yielded ops a.tmps) = true)
    (h : ∀ w', Below w.heap.size w w' → ∀ K : Act → World → Prop, (∀ a' w'', Below w'.heap.size w' w'' → wpRl P ops Q E rest a' w'' → K a' w'') → o.wp P a w' K Q) : wpRl P ops Q E ((true, o) :: rest) a w := by
  intro w' hw'
  simp only [hw, if_true]
  exact h w' hw' _ fun _ _ h1 h2 => ⟨h1, h2⟩
theorem rl_nil (h : ∀ w', Below w.heap.size w w' → E a w') : wpRl P ops Q E [] a w := h
end
end
theorem made1 {B : Nat} {x : Al} {s : List (Al × Option Nat)} {w : World} (h1 : s.map Prod.fst = [x]) (h2 : pend s = []) (h3 : Made B s w) : ∃ g, s = [(x, some g)] ∧ B ≤ g ∧ BlkIs w g x.t x.z := by
  match s, h1 with
  | [(_, none)], h1 => simp [pend] at h2
  | [(y, some g)], h1 =>
    simp at h1
    subst h1
    obtain ⟨a1, _, a3⟩ := h3.blk y g (by simp)
    exact ⟨g, rfl, a1, a3⟩
theorem made2 {B : Nat} {x y : Al} {s : List (Al × Option Nat)} {w : World} (h1 : s.map Prod.fst = [x, y]) (h2 : pend s = []) (h3 : Made B s w) : ∃ g h, s = [(x, some g), (y, some h)] ∧ B ≤ g ∧ BlkIs w g x.t x.z ∧ B ≤ h ∧ BlkIs w h y.t y.z ∧ g ≠ h := by
  match s, h1 with
  | [(x', none), _], h1 => simp [pend_cons] at h2
  | [(x', some g), (y', none)], h1 => simp [pend_cons] at h2
  | [(x', some g), (y', some h)], h1 =>
    simp at h1
    obtain ⟨rfl, rfl⟩ := h1
    obtain ⟨a1, _, a3⟩ := h3.blk x' g (by simp)
    obtain ⟨b1, _, b3⟩ := h3.blk y' h (by simp)
    have hn := h3.nodup
    simp at hn
    exact ⟨g, h, rfl, a1, a3, b1, b3, hn⟩
theorem made3 {B : Nat} {x y z : Al} {s : List (Al × Option Nat)} {w : World} (h1 : s.map Prod.fst = [x, y, z]) (h2 : pend s = []) (h3 : Made B s w) :
    ∃ g h k, s = [(x, some g), (y, some h), (z, some k)] ∧ B ≤ g ∧ BlkIs w g x.t x.z ∧ B ≤ h ∧ BlkIs w h y.t y.z ∧ B ≤ k ∧ BlkIs w k z.t z.z ∧ g ≠ h ∧ g ≠ k ∧ h ≠ k := by
  match s, h1 with
  | [(x', none), _, _], h1 => simp [pend_cons] at h2
  | [(x', some g), (y', none), _], h1 => simp [pend_cons] at h2
  | [(x', some g), (y', some h), (z', none)], h1 => simp [pend_cons] at h2
  | [(x', some g), (y', some h), (z', some k)], h1 =>
    simp at h1
    obtain ⟨rfl, rfl, rfl⟩ := h1
    obtain ⟨a1, _, a3⟩ := h3.blk x' g (by simp)
    obtain ⟨b1, _, b3⟩ := h3.blk y' h (by simp)
    obtain ⟨c1, _, c3⟩ := h3.blk z' k (by simp)
    have hn := h3.nodup
    simp at hn
    exact ⟨g, h, k, rfl, a1, a3, b1, b3, c1, c3, hn.1.1, hn.1.2, hn.2⟩
end Go.Proofs.Ytnlcgiemhegmcaa
