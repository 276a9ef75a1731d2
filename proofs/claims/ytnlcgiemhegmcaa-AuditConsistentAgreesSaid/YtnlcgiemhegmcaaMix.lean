/-
  A region that draws its order and holds calls that wait for one another and make new memory: the operations that only compute and read are taken as soon as they can come up, the calls in their order; one walk serves every order.
-/
import Derived.Test.YtnlcgiemhegmcaaAft
import Derived.OrdersHeld
import Derived.Deep.Quiet
namespace Go.Proofs.Ytnlcgiemhegmcaa
open Go.RowKit

/-- Operations that give a value and enter no function. -/
def plainOp : Op → Bool
  | .move _ | .assign _ | .pick .. | .build .. | .load .. | .binOp .. | .unOp .. | .convert .. | .slice .. | .fieldAddr .. | .field .. | .indexAddr .. | .index .. | .extract .. | .lookup .. => true
  | .call c => match c.callee with | .builtin .len => true | _ => false
  | _ => false

section
variable {P : Program} {ops : Array Oper} {Q : Exit → Act → World → Prop}

theorem value_of_bind {s : Sem Value} {w : World} {n : Next} {w' : World} (h : (do pure (Next.value (← s)) : Sem Next).run P w = .ok n w') : ∃ u, n = .value u := by
  rw [Sem.run_bind] at h
  cases hs : s.run P w with
  | ok x w1 => rw [hs] at h; simp [Result.andThen] at h; exact ⟨x, h.1.symm⟩
  | halt x w1 => rw [hs] at h; simp [Result.andThen] at h

theorem plain_value {ρ : Operand → Value} {o : Oper} {w : World} {n : Next} {w' : World} (hp : plainOp o.op = true) (h : (execOp ρ o).run P w = .ok n w') : ∃ u, n = .value u := by
  unfold execOp at h
  cases ho : o.op <;> rw [ho] at h hp <;> simp only [plainOp] at hp <;> try (cases hp; done)
  case move x => simp at h; exact ⟨_, h.1.symm⟩
  case assign x => simp at h; exact ⟨_, h.1.symm⟩
  case pick c a b =>
    simp only [Sem.run_bind] at h
    cases hs : (asBool (ρ c)).run P w with
    | ok x w1 => rw [hs] at h; simp [Result.andThen] at h; exact ⟨_, h.1.symm⟩
    | halt x w1 => rw [hs] at h; simp [Result.andThen] at h
  case call c =>
    obtain ⟨cal, args, ats⟩ := c
    cases cal with
    | builtin b =>
      cases b <;> simp only at hp <;> try (cases hp; done)
      simp only [resolve, invoke, Sem.run_bind, Sem.run_pure, Result.andThen] at h
      unfold builtin at h
      exact value_of_bind h
    | _ => simp at hp
  all_goals exact value_of_bind h

/-- A world that is as w was below block B. -/
structure AfterB (B : Nat) (w : World) where
  x : World
  h : Below B w x
instance {B : Nat} {w : World} : Nonempty (AfterB B w) := ⟨⟨w, Below.refl _ _⟩⟩
theorem AfterB.cell {B : Nat} {w : World} (y : AfterB B w) (b o : Nat) (h : b < B) : y.x.cell? ⟨b, o, none⟩ = w.cell? ⟨b, o, none⟩ := y.h.cell (p := ⟨b, o, none⟩) h
theorem AfterB.frozen {B : Nat} {w : World} (y : AfterB B w) (b o : Nat) (h : b < B) : y.x.frozen? ⟨b, o, none⟩ = w.frozen? ⟨b, o, none⟩ := y.h.frozen (p := ⟨b, o, none⟩) h
attribute [go_sem] AfterB.cell AfterB.frozen

/-- The worlds that are as w was below block B. -/
def Cl (B : Nat) (w : World) : World → Prop := fun w' => ∃ y : AfterB B w, w' = y.x
theorem Cl.self (B : Nat) (w : World) : Cl B w w := ⟨⟨w, Below.refl _ _⟩, rfl⟩
theorem Cl.of {B : Nat} {w w' : World} (h : Below B w w') : Cl B w w' := ⟨⟨w', h⟩, rfl⟩
theorem Cl.sub {B B' : Nat} {w w' x : World} (hB : B ≤ B') (h : Below B w w') (hx : Cl B' w' x) : Cl B w x := by
  obtain ⟨y, rfl⟩ := hx
  exact ⟨⟨y.x, h.trans (y.h.mono hB)⟩, rfl⟩

theorem yieldsIf_of {o : Oper} {v : Value} {a : Act} {B : Nat} {w : World} (hp : plainOp o.op = true) (h : YieldsIn P ops (Cl B w) o v a) : YieldsIf P ops (Cl B w) o v a := by
  rcases h with ⟨hw, hq⟩ | h
  · refine .inl ⟨hw, fun w' hw' => ?_⟩
    have h1 := hq w' hw'
    unfold Oper.quietAt at h1
    cases hr : (execOp a.eval o).run P w' with
    | ok n w1 =>
      obtain ⟨u, rfl⟩ := plain_value hp hr
      rw [hr] at h1
      obtain ⟨rfl, rfl⟩ := h1
      rfl
    | halt x w1 => rw [hr] at h1; exact h1.elim
  · exact .inr h

theorem wpAnyH_sub {S S' : World → Prop} (hS : ∀ w, S' w → S w) : ∀ (fuel : Nat) (listed : Array Bool) (a : Act) (w : World), wpAnyH P .any ops Q S' fuel listed a w → wpAnyH P .any ops Q S fuel listed a w
  | 0, _, _, _, h => h
  | fuel + 1, _, _, _, h => ⟨h.1, fun i hi => wpOp_mono (fun a' w' h' => ⟨hS _ h'.1, wpAnyH_sub hS fuel _ a' w' h'.2⟩) (h.2 i hi)⟩

/-- The walk: the operations in an order of ours, each with a mark whether it is a call. -/
def wpMl (P : Program) (ops : Array Oper) (Q : Exit → Act → World → Prop) : List (Bool × Oper) → Nat → Act → World → Prop
  | [], _, a, w => Q .normal a w
  | (true, o) :: rest, B, a, w => if Region.wanted o (yielded ops a.tmps) then o.wp P a w (fun a' w' => ∃ B', B ≤ B' ∧ Below B w w' ∧ wpMl P ops Q rest B' a' w') Q else wpMl P ops Q rest B (a.put o.dst undef) w
  | (false, o) :: rest, B, a, w => wpQuiet P ops (Cl B w) (fun a' => wpMl P ops Q rest B a' w) [o] a

/-- The order is one of those in which the operations can come up, the calls alone. -/
def ordB (ops : Array Oper) (loud : List Nat) : List Nat → Array Bool → Bool
  | [], listed => (Region.ready .any ops listed).isEmpty
  | i :: rest, listed =>
    (if loud.contains i then Region.ready .any ops listed == [i]
     else (Region.ready .any ops listed).contains i && Region.free .any ops listed i && (match ops[i]? with | some o => plainOp o.op | none => false)) && ordB ops loud rest (listed.setIfInBounds i true)

/-- The operations of an order, marked. -/
def marked (l : List Oper) (loud : List Nat) : List Nat → List (Bool × Oper)
  | [] => []
  | i :: rest => match l[i]? with
    | some o => (loud.contains i, o) :: marked l loud rest
    | none => []

theorem marked_cons (l : List Oper) (loud : List Nat) (i : Nat) (rest : List Nat) (o : Oper) (h : l[i]? = some o) : marked l loud (i :: rest) = (loud.contains i, o) :: marked l loud rest := by
  simp [marked, h]

theorem wpAnyH_ml {l : List Oper} (loud : List Nat) (hs : Region.noSelect l.toArray = true) (hQ : ∀ c a (d : Tmp) v w, Q (.panic c) (Act.put a (some d) v) w → Q (.panic c) a w) :
    ∀ (perm : List Nat) (listed : Array Bool) (B : Nat) (a : Act) (w : World), (∀ i ∈ perm, i < l.length) → ordB l.toArray loud perm listed = true → wpMl P l.toArray Q (marked l loud perm) B a w → wpAnyH P .any l.toArray Q (Cl B w) perm.length listed a w
  | [], listed, B, a, w, _, hB, h => wpAnyH_done (by simpa [ordB] using hB) h _
  | i :: rest, listed, B, a, w, hlt, hB, h => by
    obtain ⟨o, hi⟩ : ∃ o, l[i]? = some o := ⟨_, List.getElem?_eq_getElem (hlt i (List.mem_cons_self ..))⟩
    have hi' : l.toArray[i]? = some o := by simpa using hi
    rw [marked_cons l loud i rest _ hi] at h
    simp only [ordB, Bool.and_eq_true] at hB
    obtain ⟨hB1, hB2⟩ := hB
    have ih := fun B' a' w' => wpAnyH_ml loud hs hQ rest (listed.setIfInBounds i true) B' a' w' (fun j hj => hlt j (List.mem_cons_of_mem _ hj)) hB2
    by_cases hl : loud.contains i = true
    · rw [hl] at h hB1
      simp only [if_true, beq_iff_eq] at hB1
      refine wpAnyH_all hB1 (by simp) fun j hj => ?_
      obtain rfl : j = i := by simpa using hj
      unfold wpOp
      rw [hi']
      simp only [wpMl] at h
      simp only
      split
      · rename_i hw
        rw [if_pos hw] at h
        refine .inl (Oper.wp_mono (fun a' w' hh => ?_) h)
        obtain ⟨B', hle, hb, hh⟩ := hh
        exact ⟨Cl.of hb, wpAnyH_sub (fun x hx => Cl.sub hle hb hx) _ _ _ _ (ih B' a' w' hh)⟩
      · rename_i hw
        rw [if_neg hw] at h
        exact ⟨Cl.self B w, ih B _ w h⟩
    · rw [Bool.not_eq_true] at hl
      rw [hl] at h hB1
      simp only [Bool.false_eq_true, if_false, Bool.and_eq_true, hi'] at hB1
      obtain ⟨⟨hr, hf⟩, hpl⟩ := hB1
      simp only [wpMl] at h
      have hq : qOp P l.toArray (Cl B w) i (fun a' => wpMl P l.toArray Q (marked l loud rest) B a' w) a := by
        unfold qOp; rw [hi']; exact h
      obtain ⟨v, hy, hK⟩ := yieldsIn_of_qOp hi' hq
      have hQ' : ∀ c a w, Q (.panic c) (Act.put a o.dst v) w → Q (.panic c) a w := by
        intro c a' w' hh
        cases hd : o.dst with
        | none => rw [hd] at hh; exact hh
        | some d => rw [hd] at hh; exact hQ c a' d v w' hh
      exact wpAnyH_take hi' hs hf hr hQ' (yieldsIf_of hpl hy) (Cl.self B w) (ih B _ w hK)

/-- The beginning. -/
theorem wp_region_ml {id : Nat} {a : Act} {w : World} {l : List Oper} (loud perm : List Nat) (B : Nat) (hm : P.follows .mixedOrders = true) (hs : Region.noSelect l.toArray = true)
    (hlen : perm.length = l.toArray.size) (hlt : (perm.all fun i => decide (i < l.length)) = true) (hB : ordB l.toArray loud perm (Array.replicate l.toArray.size false) = true)
    (hQ : ∀ c a (d : Tmp) v w, Q (.panic c) (Act.put a (some d) v) w → Q (.panic c) a w)
    (h : wpMl P l.toArray Q (marked l loud perm) B a w.drew) : (Code.region id l.toArray true).wp P Q a w := by
  refine wp_region_held (S := Cl B w.drew) hm ?_
  have := wpAnyH_ml loud hs hQ perm (Array.replicate l.toArray.size false) B a w.drew (fun i hi => by simpa using List.all_eq_true.1 hlt i hi) hB h
  rw [hlen] at this
  exact this

section
variable {B : Nat} {o : Oper} {rest : List (Bool × Oper)} {a : Act} {w : World}
theorem ml_quiet (h : wpQuiet P ops (fun w' => ∃ y : AfterB B w, w' = y.x) (fun a' => wpMl P ops Q rest B a' w) [o] a) : wpMl P ops Q ((false, o) :: rest) B a w := h
theorem ml_skip (hw : Region.wanted o (yielded ops a.tmps) = false) (h : wpMl P ops Q rest B (a.put o.dst undef) w) : wpMl P ops Q ((true, o) :: rest) B a w := by
  simp only [wpMl, hw, Bool.false_eq_true, if_false]
  exact h
theorem ml_loud (hw : Region.wanted o (yielded ops a.tmps) = true)
    (h : ∀ K : Act → World → Prop, (∀ a' w' B', B ≤ B' → Below B w w' → wpMl P ops Q rest B' a' w' → K a' w') → o.wp P a w K Q) : wpMl P ops Q ((true, o) :: rest) B a w := by
  simp only [wpMl, hw, if_true]
  exact h _ fun _ _ B' h0 h1 h2 => ⟨B', h0, h1, h2⟩
theorem ml_nil (h : Q .normal a w) : wpMl P ops Q [] B a w := h
end
end
end Go.Proofs.Ytnlcgiemhegmcaa
