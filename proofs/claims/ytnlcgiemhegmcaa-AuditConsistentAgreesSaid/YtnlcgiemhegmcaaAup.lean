/-
  Explanations as plain lists of lines: which entries are sound, and where the unsound ones begin. No program in sight.
-/
import Derived.Test.YtnlcgiemhegmcaaProg
namespace Go.Proofs.Ytnlcgiemhegmcaa

/-- A line: state, benefit, item, and the value's numerator and denominator. -/
structure Ln where
  s : Int
  b : Int
  it : Int
  n : Int
  d : Int
deriving DecidableEq, Inhabited

/-- A valid fraction. -/
def vfB (n d : Int) : Bool := decide (1 ≤ d) && (decide (d ≤ 1000000000) && (decide (-1000000000000000 ≤ n) && (decide (n ≤ 1000000000000000) && (Nat.gcd n.natAbs d.natAbs == 1))))
/-- The value of an item is in its range. -/
def fitB (it n d : Int) : Bool := vfB n d && (decide (0 ≤ n) && (if it == 3 || it == 5 then decide (n ≤ d) else (decide (d = 1) && decide (n ≤ 1000000000000))))
/-- One of the lines is wrong, or an item is there twice. -/
def wrongB (g : List Ln) : Bool := g.any (fun l => !fitB l.it l.n l.d) || !decide (g.map (·.it)).Nodup
/-- The last value of an item. -/
def lastV (g : List Ln) (it : Int) : Option (Int × Int) := (g.reverse.find? (fun l => l.it == it)).map fun l => (l.n, l.d)
/-- The first value of an item. -/
def firstV (g : List Ln) (it : Int) : Option (Int × Int) := (g.find? (fun l => l.it == it)).map fun l => (l.n, l.d)
/-- What the arithmetic of an entry asks, of the values of its items. -/
def arithB (V : Int → Option (Int × Int)) : Bool :=
  ((V 5).isSome || ((match V 1, V 6, V 4, V 7 with | some i, some d, some p, some n => n.1 == max (i.1 - d.1) p.1 | _, _, _, _ => true) && (match V 1, V 6 with | some i, some d => decide (d.1 ≤ i.1) | _, _ => true))) &&
  ((match V 4, V 2 with | some p, some t => decide (p.1 ≤ t.1) | _, _ => true) && (match V 7, V 8 with | some n, some c => decide (n.1 < c.1) | _, _ => true))
def soundB (g : List Ln) : Bool := !wrongB g && arithB (firstV g)
/-- The lines of a state and a benefit. -/
def grp (L : List Ln) (s b : Int) : List Ln := L.filter fun l => l.s == s && l.b == b
/-- Line i is the first of its entry. -/
def isFst (L : List Ln) (i : Nat) : Bool := !(L.take i).any fun l => l.s == (L.getD i default).s && l.b == (L.getD i default).b
def fsts (L : List Ln) : List Nat := (List.range L.length).filter (isFst L)
def grpAt (L : List Ln) (i : Nat) : List Ln := grp L (L.getD i default).s (L.getD i default).b
/-- Where the unsound entries begin. -/
def unsL (L : List Ln) : List Nat := (fsts L).filter fun i => !soundB (grpAt L i)

theorem find_any {α : Type} (p : α → Bool) (l : List α) : (l.find? p).isSome = l.any p := by
  rw [Bool.eq_iff_iff, List.find?_isSome, List.any_eq_true]
theorem lastV_snoc (g : List Ln) (l : Ln) (it : Int) : lastV (g ++ [l]) it = if l.it == it then some (l.n, l.d) else lastV g it := by
  unfold lastV
  rw [List.reverse_append]
  simp only [List.reverse_cons, List.reverse_nil, List.nil_append, List.singleton_append, List.find?_cons]
  cases l.it == it <;> simp
theorem lastV_some (g : List Ln) (it : Int) : (lastV g it).isSome = g.any fun l => l.it == it := by
  unfold lastV
  rw [Option.isSome_map, find_any]
  simp
theorem firstV_some (g : List Ln) (it : Int) : (firstV g it).isSome = g.any fun l => l.it == it := by
  unfold firstV
  rw [Option.isSome_map, find_any]
theorem nodup_snoc {α : Type} [DecidableEq α] (l : List α) (x : α) : (l ++ [x]).Nodup ↔ l.Nodup ∧ x ∉ l := by
  rw [List.nodup_append]
  simp
  intro _
  constructor
  · intro h hx; exact h x hx rfl
  · intro h y hy e; subst e; exact h hy
theorem wrongB_snoc (g : List Ln) (l : Ln) : wrongB (g ++ [l]) = (wrongB g || (lastV g l.it).isSome || !fitB l.it l.n l.d) := by
  rw [lastV_some]
  unfold wrongB
  simp only [List.any_append, List.any_cons, List.any_nil, Bool.or_false, List.map_append, List.map_cons, List.map_nil]
  have e : decide ((g.map (·.it)) ++ [l.it]).Nodup = (decide (g.map (·.it)).Nodup && !(g.any fun x => x.it == l.it)) := by
    rw [Bool.eq_iff_iff]
    simp only [decide_eq_true_eq, nodup_snoc, Bool.and_eq_true, Bool.not_eq_true', List.any_eq_false, beq_iff_eq, List.mem_map]
    constructor
    · rintro ⟨h1, h2⟩; exact ⟨h1, fun x hx he => h2 ⟨x, hx, he⟩⟩
    · rintro ⟨h1, h2⟩; exact ⟨h1, fun ⟨x, hx, he⟩ => h2 x hx he⟩
  rw [e]
  cases g.any (fun l => !fitB l.it l.n l.d) <;> cases fitB l.it l.n l.d <;> cases decide (g.map (·.it)).Nodup <;> cases (g.any fun x => x.it == l.it) <;> rfl
/-- Where no item is there twice, the last value is the first. -/
theorem last_first (g : List Ln) (h : (g.map (·.it)).Nodup) (it : Int) : lastV g it = firstV g it := by
  induction g with
  | nil => rfl
  | cons l g ih =>
    simp only [List.map_cons, List.nodup_cons] at h
    have ih := ih h.2
    unfold lastV firstV at *
    simp only [List.reverse_cons, List.find?_append, List.find?_cons, List.find?_nil]
    by_cases e : l.it == it
    · simp only [e]
      have hn : g.reverse.find? (fun l => l.it == it) = none := by
        rw [List.find?_eq_none]
        intro x hx he
        have e1 : l.it = it := by simpa using e
        have e2 : x.it = it := by simpa using he
        exact h.1 (List.mem_map.2 ⟨x, by simpa using hx, by rw [e1, e2]⟩)
      rw [hn]
      rfl
    · simp only [e]
      rw [← ih]
      cases g.reverse.find? (fun l => l.it == it) <;> rfl
theorem sound_last (g : List Ln) : (!wrongB g && arithB (lastV g)) = soundB g := by
  unfold soundB
  by_cases h : (g.map (·.it)).Nodup
  · have e : lastV g = firstV g := funext fun it => last_first g h it
    rw [e]
  · have e : wrongB g = true := by simp [wrongB, h]
    rw [e]
    rfl
theorem grp_snoc (L : List Ln) (l : Ln) (s b : Int) : grp (L ++ [l]) s b = if l.s == s && l.b == b then grp L s b ++ [l] else grp L s b := by
  unfold grp
  rw [List.filter_append]
  by_cases h : (l.s == s && l.b == b) <;> simp [h]
end Go.Proofs.Ytnlcgiemhegmcaa
