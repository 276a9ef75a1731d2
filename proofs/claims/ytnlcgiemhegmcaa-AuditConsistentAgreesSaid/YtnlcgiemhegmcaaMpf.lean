/-
  A map's block as a function from keys to values: what a look-up reads and what a store leaves. No conditions.
-/
import Derived.Maps.OwnSet
namespace Go.Proofs.Ytnlcgiemhegmcaa
open Go.ChangeMaps Go.MapKept Go.WideShapes
open Go.Maps (Keyed IsMap Tidy)
set_option linter.unusedVariables false

/-- Every value reads as itself. -/
def heldR (v : Value) : Option (DataW Value × List MemPlace) := some (.held v, [])

/-- Block b of w is a map of at most n entries; at a key it holds what F says. -/
def MapF (w : World) (P : Program) (k : TypeId) (b n : Nat) (F : Value → Option Value) : Prop :=
  ∃ D : DataW Value, w.ownsMap P k heldR b n D ∧ ∀ key kl, keyOf P k key = some kl → ∀ z, D.atKey kl z = (match F key with | some v => .held v | none => z)

section
variable {P : Program} {k : TypeId} {w : World} {b n : Nat} {F : Value → Option Value}

theorem MapF.made (w : World) (P : Program) (k : TypeId) : MapF (w.alloc (.map #[] 0)) P k w.heap.size 0 (fun _ => none) :=
  ⟨.map [], World.ownsMap_made w P k heldR, fun _ _ _ _ => rfl⟩
theorem MapF.mono (h : MapF w P k b n F) {n' : Nat} (hn : n ≤ n') : MapF w P k b n' F := by
  obtain ⟨D, h1, h2⟩ := h
  exact ⟨D, h1.mono hn, h2⟩
theorem MapF.lt (h : MapF w P k b n F) : b < w.heap.size := by
  obtain ⟨D, h1, h2⟩ := h
  exact h1.lt
/-- The map stays while its block stays. -/
theorem MapF.keep (h : MapF w P k b n F) {w' : World} (he : w'.heap[b]? = w.heap[b]?) : MapF w' P k b n F := by
  obtain ⟨D, ⟨es, clock, hb, r⟩, h2⟩ := h
  exact ⟨D, ⟨es, clock, he.trans hb, r⟩, h2⟩
theorem MapF.isMap (h : MapF w P k b n F) : ∃ es clock, w.heap[b]? = some (.map es clock) := by
  obtain ⟨D, ⟨es, clock, hb, r⟩, h2⟩ := h
  exact ⟨es, clock, hb⟩
theorem MapF.look {t e : TypeId} (h : MapF w P k b n F) (K : Keyed P k) (ht : P.underlying t = some (.map k e)) {z : Value} (hz : (zeroValue e).run P w = .ok z w) {key : Value} {kl : Lit} (hkey : keyOf P k key = some kl) :
    (Instr.lookup t (.map (some b)) key false).run P w = .ok ((F key).getD z) w := by
  obtain ⟨D, ⟨es, clock, hb, Fi, hs, rfl⟩, h2⟩ := h
  have h3 := h2 key kl hkey
  rcases Maps.fit_look false K ht hz hb Fi hkey with ⟨hrun, _, hat⟩ | ⟨e0, y, _, _, hrun, hRv, hat, _⟩
  · rw [hrun]
    cases hf : F key with
    | none => rfl
    | some v =>
      rw [hf] at h3
      have h4 := (h3 .nil).symm.trans (hat .nil)
      cases h4
  · rw [hrun]
    cases hf : F key with
    | none =>
      rw [hf] at h3
      cases hRv
      have h4 := (h3 .nil).symm.trans (hat .nil)
      cases h4
    | some v =>
      rw [hf] at h3
      cases hRv
      have h4 := (h3 .nil).symm.trans (hat .nil)
      cases h4
      rfl
theorem MapF.look_ok {t e : TypeId} (h : MapF w P k b n F) (K : Keyed P k) (ht : P.underlying t = some (.map k e)) {z : Value} (hz : (zeroValue e).run P w = .ok z w) {key : Value} {kl : Lit} (hkey : keyOf P k key = some kl) :
    (Instr.lookup t (.map (some b)) key true).run P w = .ok (.tuple #[(F key).getD z, .bool (F key).isSome]) w := by
  obtain ⟨D, ⟨es, clock, hb, Fi, hs, rfl⟩, h2⟩ := h
  have h3 := h2 key kl hkey
  rcases Maps.fit_look true K ht hz hb Fi hkey with ⟨hrun, _, hat⟩ | ⟨e0, y, _, _, hrun, hRv, hat, _⟩
  · rw [hrun]
    cases hf : F key with
    | none => rfl
    | some v =>
      rw [hf] at h3
      have h4 := (h3 .nil).symm.trans (hat .nil)
      cases h4
  · rw [hrun]
    cases hf : F key with
    | none =>
      rw [hf] at h3
      cases hRv
      have h4 := (h3 .nil).symm.trans (hat .nil)
      cases h4
    | some v =>
      rw [hf] at h3
      cases hRv
      have h4 := (h3 .nil).symm.trans (hat .nil)
      cases h4
      rfl
theorem MapF.store {t e : TypeId} (h : MapF w P k b n F) (K : Keyed P k) (ht : P.underlying t = some (.map k e)) (hn : n < maxLen) {key val : Value} {kl : Lit} (hkey : keyOf P k key = some kl)
    {F' : Value → Option Value} (h1 : F' key = some val) (h2 : ∀ x, x ≠ key → F' x = F x) :
    ∃ w', (Instr.mapUpdate t (.map (some b)) key val).run P w = .ok () w' ∧ MapF w' P k b (n + 1) F' ∧ w.grownBy w' (some b) := by
  obtain ⟨D, ho, h3⟩ := h
  obtain ⟨w', hrun, ho', hg⟩ := ho.update K ht hn hkey (d := .held val) (ps := []) rfl
  refine ⟨w', hrun, ⟨_, ho', fun x xl hx z => ?_⟩, hg⟩
  by_cases e : x = key
  · subst e
    rw [hx] at hkey
    cases hkey
    rw [h1]
    exact Maps.atKey_put_same ho.isMap (K.key hx) _ _
  · rw [h2 x e]
    have hne : xl ≠ kl := fun he => by subst he; exact e (K.inj hx hkey)
    rw [Maps.atKey_put_other hne]
    exact h3 x xl hx z
end
end Go.Proofs.Ytnlcgiemhegmcaa
