/-
  The contract of pensionhand.length, and the plain part of Make: what a made fact is like after each letter.
-/
import Derived.Test.YtkkjiihdmpngbaaFm1
import Derived.Deep.RegionHeld3
import Derived.Deep.RegionWith
import Derived.Deep.DeepCutAuto
namespace Go.Proofs.Ytkkjiihdmpngbaa
open Go.RowKit

theorem emod_bd (n m : Int) (h : 0 < m) : 0 ≤ n % m ∧ n % m < m := ⟨Int.emod_nonneg n (by omega), Int.emod_lt_of_pos n h⟩

def LenPost (w : World) (e : Ending) (w' : World) : Prop := ∃ n : Int, e = .returned (.int .i64 n) ∧ 1 ≤ n ∧ n ≤ 9000 ∧ w = w'

set_option maxHeartbeats 400000 in
theorem length_any (n : Int) (w : World) (h1 : -9223372036854775808 ≤ n) (h2 : n ≤ 9223372036854775807) :
    Calls Try.prog 70 #[.int .i64 n] w (LenPost w) := by
  obtain ⟨b1, b2⟩ := emod_bd (n.tdiv 4) 9000 (by decide)
  obtain ⟨c1, c2⟩ := emod_bd (n.tdiv 4) 1200 (by decide)
  obtain ⟨d1, d2⟩ := emod_bd (n.tdiv 4) 120 (by decide)
  obtain ⟨e1, e2⟩ := emod_bd (n.tdiv 4) 12 (by decide)
  go_enter Try.func70, Try.ntmps70
  go_wp2_with (go_at_call 20; refine (mod_any _ _ _ (by decide) (by decide)).mono ?_; rintro e w' ⟨rfl, rfl⟩)
  all_goals
    go_ret
    go_light
    exact ⟨_, rfl, by omega, by omega, rfl⟩

def zeroF : Array Value := #[.int .i64 0, .int .i64 0, .int .i64 0, .bool false, .int .i64 0, .int .i64 0, .int .i64 0, .int .i64 0, .int .i64 0, .int .i64 0, .int .i64 0, .int .i64 0, .int .i64 0, .int .i64 0]

/-- A fact as cells. -/
def fcells (f : Fct) : Array Value := #[.int .i64 f.iss, .int .i64 f.num, .int .i64 f.ver, .bool f.gone, .int .i64 f.per, .int .i64 f.kind, .int .i64 f.st, .int .i64 f.fr, .int .i64 f.til, .int .i64 f.seat, .int .i64 f.share, .int .i64 f.cur, .int .i64 f.amt, .int .i64 f.ref]
/-- The head of a made fact is in range. -/
def coreP0 (f : Fct) : Prop := 0 ≤ f.iss ∧ f.iss ≤ 5 ∧ 1 ≤ f.num ∧ f.num ≤ 999 ∧ 1 ≤ f.ver ∧ f.ver ≤ 99 ∧ 1 ≤ f.per ∧ f.per ≤ 4 ∧ 1 ≤ f.kind ∧ f.kind ≤ 14

/-- Where Make stands: r in the first new block, the result's variable in the second, the fact in the third. -/
structure MSt (w : World) (rc fc : Array Value) (wr : World) : Prop where
  r : BlkIs wr w.heap.size 30 rc
  z : BlkIs wr (w.heap.size + 1) 76 zeroF
  f : BlkIs wr (w.heap.size + 2) 76 fc
  bel : Below w.heap.size w wr

theorem MSt.put {w wr : World} {rc fc : Array Value} (h : MSt w rc fc wr) (i : Nat) (u : Value) : MSt w rc (fc.setIfInBounds i u) (wr.setCell ⟨w.heap.size + 2, i, none⟩ u) :=
  ⟨h.r.far (by simp) u, h.z.far (by simp) u, h.f.put i u, h.bel.setCell (by simp) u⟩
theorem MSt.drew {w wr : World} {rc fc : Array Value} (h : MSt w rc fc wr) : MSt w rc fc wr.drew := ⟨h.r, h.z, h.f, h.bel.drew⟩
theorem MSt.next {w wr w2 : World} {rc fc : Array Value} (h : MSt w rc fc wr) (hb : Below wr.heap.size wr w2) : MSt w rc fc w2 :=
  ⟨h.r.below hb h.r.lt, h.z.below hb h.z.lt, h.f.below hb h.f.lt, Below.next h.bel hb⟩

def M1 (w : World) (rc : Array Value) (r3 : Bool) (wx : World) : Prop := ∃ i n v : Int, 0 ≤ i ∧ i ≤ 5 ∧ 1 ≤ n ∧ n ≤ 999 ∧ 1 ≤ v ∧ v ≤ 99 ∧ MSt w rc #[.int .i64 i, .int .i64 n, .int .i64 v, .bool r3, .int .i64 0, .int .i64 0, .int .i64 0, .int .i64 0, .int .i64 0, .int .i64 0, .int .i64 0, .int .i64 0, .int .i64 0, .int .i64 0] wx

def ModPost (m : Int) (w : World) (e : Ending) (w' : World) : Prop := ∃ y : Int, e = .returned (.int .i64 y) ∧ 0 ≤ y ∧ y < m ∧ w = w'
theorem mod_ex (n m : Int) (w : World) (h0 : 1 ≤ m) (h1 : m ≤ 1000000000000) : Calls Try.prog 20 #[.int .i64 n, .int .i64 m] w (ModPost m w) :=
  (mod_any n m w h0 h1).mono fun _ _ ⟨he, hw⟩ => ⟨n % m, he, (emod_bd n m (by omega)).1, (emod_bd n m (by omega)).2, hw⟩

theorem hasB_snoc (u : List UInt8) (c x : UInt8) : hasB (u ++ [c]) x = (hasB u x || c == x) := by
  rw [hasB_iff, hasB_iff]
  by_cases h : c = x
  · subst h; simp
  · have h1 : (c == x) = false := by simpa using h
    have h2 : ¬ x = c := fun e => h e.symm
    simp [h1, h2]

/-- What a made fact is like when the letters u have been set. -/
structure Part (u : List UInt8) (k p fr til : Int) (f : Fct) : Prop where
  core : coreP0 f
  ek : f.kind = k
  ep : f.per = p
  s : fieldB (hasB u 83) f.st 0 5 = true
  t : fieldB (hasB u 84) f.seat 0 5 = true
  h : fieldB (hasB u 72) f.share 1 100 = true
  c : fieldB (hasB u 67) f.cur 1 999 = true
  a : fieldB (hasB u 65) f.amt 0 1000000000 = true
  r : fieldB (hasB u 82) f.ref 1 99 = true
  sp : hasB u 80 = true → f.fr = fr ∧ f.til = til
  pt : k = 4 → hasB u 84 = true → f.st ≠ f.seat
  rp : hasB u 82 = true → f.ref ≠ p

theorem fieldB_true (x lo hi : Int) : fieldB true x lo hi = decide (lo ≤ x ∧ x ≤ hi) := rfl
theorem field_bd {b : Bool} {x lo hi : Int} (h : fieldB b x lo hi = true) (h1 : 0 ≤ hi) : (0 ≤ x ∨ lo ≤ x) ∧ x ≤ hi := by
  cases b
  · simp [fieldB] at h; omega
  · simp [fieldB, btw] at h; omega

theorem uses_tail (k : Int) : (83 : UInt8) ∉ (usesL k).tail := by
  by_cases h1 : 1 ≤ k ∧ k ≤ 14
  · have hk : k = 1 ∨ k = 2 ∨ k = 3 ∨ k = 4 ∨ k = 5 ∨ k = 6 ∨ k = 7 ∨ k = 8 ∨ k = 9 ∨ k = 10 ∨ k = 11 ∨ k = 12 ∨ k = 13 ∨ k = 14 := by omega
    clear h1
    rcases hk with rfl | rfl | rfl | rfl | rfl | rfl | rfl | rfl | rfl | rfl | rfl | rfl | rfl | rfl <;> decide
  · rw [uses_else k (by omega)]; decide
theorem uses_S (k : Int) (i : Nat) (h : i < (usesL k).length) (hc : (usesL k)[i] = 83) : i = 0 := by
  rcases i with _ | i
  · rfl
  · exfalso
    apply uses_tail k
    rw [← hc]
    have hlen : i < (usesL k).tail.length := by simp; omega
    have e : (usesL k)[i + 1] = (usesL k).tail[i] := by simp
    rw [e]
    exact List.getElem_mem hlen
theorem uses_P (k : Int) (h1 : 1 ≤ k) (h2 : k ≤ 14) : hasB (usesL k) 80 = true ∧ (usesL k).isEmpty = false := by
  have hk : k = 1 ∨ k = 2 ∨ k = 3 ∨ k = 4 ∨ k = 5 ∨ k = 6 ∨ k = 7 ∨ k = 8 ∨ k = 9 ∨ k = 10 ∨ k = 11 ∨ k = 12 ∨ k = 13 ∨ k = 14 := by omega
  rcases hk with rfl | rfl | rfl | rfl | rfl | rfl | rfl | rfl | rfl | rfl | rfl | rfl | rfl | rfl <;> decide
theorem uses_T (k : Int) (h : k = 4) : hasB (usesL k) 84 = true := by subst h; decide
theorem uses_R (k : Int) (h : k = 10 ∨ k = 14) : hasB (usesL k) 82 = true := by rcases h with rfl | rfl <;> decide

section
variable {u : List UInt8} {k p fr til : Int} {f : Fct}
theorem Part.stepS (hp : Part u k p fr til f) (x : Int) (h0 : 0 ≤ x) (h1 : x ≤ 5) (hu : hasB u 84 = false) : Part (u ++ [83]) k p fr til { f with st := x } := by
  obtain ⟨co, ek, ep, s, t, h, c, a, r, sp, pt, rp⟩ := hp
  refine ⟨co, ek, ep, ?_, ?_, ?_, ?_, ?_, ?_, ?_, ?_, ?_⟩ <;> simp_all [hasB_snoc, fieldB, btw]
theorem Part.stepP (hp : Part u k p fr til f) : Part (u ++ [80]) k p fr til { f with fr := fr, til := til } := by
  obtain ⟨co, ek, ep, s, t, h, c, a, r, sp, pt, rp⟩ := hp
  refine ⟨co, ek, ep, ?_, ?_, ?_, ?_, ?_, ?_, ?_, ?_, ?_⟩ <;> simp_all [hasB_snoc, fieldB, btw]
theorem Part.stepT (hp : Part u k p fr til f) (x : Int) (h0 : 0 ≤ x) (h1 : x ≤ 5) (hx : k = 4 → f.st ≠ x) : Part (u ++ [84]) k p fr til { f with seat := x } := by
  obtain ⟨co, ek, ep, s, t, h, c, a, r, sp, pt, rp⟩ := hp
  refine ⟨co, ek, ep, ?_, ?_, ?_, ?_, ?_, ?_, ?_, ?_, ?_⟩ <;> simp_all [hasB_snoc, fieldB, btw]
theorem Part.stepH (hp : Part u k p fr til f) (x : Int) (h0 : 1 ≤ x) (h1 : x ≤ 100) : Part (u ++ [72]) k p fr til { f with share := x } := by
  obtain ⟨co, ek, ep, s, t, h, c, a, r, sp, pt, rp⟩ := hp
  refine ⟨co, ek, ep, ?_, ?_, ?_, ?_, ?_, ?_, ?_, ?_, ?_⟩ <;> simp_all [hasB_snoc, fieldB, btw]
theorem Part.stepC (hp : Part u k p fr til f) (x : Int) (h0 : 1 ≤ x) (h1 : x ≤ 999) : Part (u ++ [67]) k p fr til { f with cur := x } := by
  obtain ⟨co, ek, ep, s, t, h, c, a, r, sp, pt, rp⟩ := hp
  refine ⟨co, ek, ep, ?_, ?_, ?_, ?_, ?_, ?_, ?_, ?_, ?_⟩ <;> simp_all [hasB_snoc, fieldB, btw]
theorem Part.stepA (hp : Part u k p fr til f) (x : Int) (h0 : 0 ≤ x) (h1 : x ≤ 1000000000) : Part (u ++ [65]) k p fr til { f with amt := x } := by
  obtain ⟨co, ek, ep, s, t, h, c, a, r, sp, pt, rp⟩ := hp
  refine ⟨co, ek, ep, ?_, ?_, ?_, ?_, ?_, ?_, ?_, ?_, ?_⟩ <;> simp_all [hasB_snoc, fieldB, btw]
theorem Part.stepR (hp : Part u k p fr til f) (x : Int) (h0 : 1 ≤ x) (h1 : x ≤ 99) (hx : x ≠ p) : Part (u ++ [82]) k p fr til { f with ref := x } := by
  obtain ⟨co, ek, ep, s, t, h, c, a, r, sp, pt, rp⟩ := hp
  refine ⟨co, ek, ep, ?_, ?_, ?_, ?_, ?_, ?_, ?_, ?_, ?_⟩ <;> simp_all [hasB_snoc, fieldB, btw]
theorem Part.valid (hp : Part (usesL k) k p fr til f) (hs : spanB fr til = true) (h1 : k = 11 ∨ k = 12 → til = fr + 1) : validB f = true := by
  obtain ⟨co, ek, ep, s, t, h, c, a, r, sp, pt, rp⟩ := hp
  unfold coreP0 at co
  obtain ⟨h80, hne⟩ := uses_P k (by omega) (by omega)
  obtain ⟨e1, e2⟩ := sp h80
  subst ek ep e1 e2
  have c1 : btw f.iss 0 5 = true := by simp only [btw, decide_eq_true_eq]; omega
  have c2 : btw f.num 1 999 = true := by simp only [btw, decide_eq_true_eq]; omega
  have c3 : btw f.ver 1 99 = true := by simp only [btw, decide_eq_true_eq]; omega
  have c4 : btw f.per 1 99 = true := by simp only [btw, decide_eq_true_eq]; omega
  have ht : validTail f = true := by
    unfold validTail
    by_cases k4 : f.kind = 4
    · have := pt k4 (uses_T _ k4)
      simp [k4, this]
    · by_cases k11 : f.kind = 11 ∨ f.kind = 12
      · have := h1 k11
        rw [if_neg k4, if_pos k11, this]
        simp
      · by_cases k10 : f.kind = 10 ∨ f.kind = 14
        · have := rp (uses_R _ k10)
          rw [if_neg k4, if_neg k11, if_pos k10]
          simpa using this
        · rw [if_neg k4, if_neg k11, if_neg k10]
  simp [validB, usesB, hne, c1, c2, c3, c4, s, t, hs, h, c, a, r, ht]
end

def MakePost (w : World) (e : Ending) (w' : World) : Prop := ∃ f : Fct, e = .returned (.agg (fcells f)) ∧ validB f = true ∧ Below w.heap.size w w'



theorem z_put14 {wr : World} {g : Nat} {t : TypeId} (h : BlkIs wr g t zeroF) (g0 g1 g2 : Int) (g3 : Bool) (g4 g5 g6 g7 g8 g9 g10 g11 g12 g13 : Int) :
    BlkIs (((((((((((((((wr.setCell ⟨g, 0, none⟩ (.int .i64 g0)).setCell ⟨g, 1, none⟩ (.int .i64 g1)).setCell ⟨g, 2, none⟩ (.int .i64 g2)).setCell ⟨g, 3, none⟩ (.bool g3)).setCell ⟨g, 4, none⟩ (.int .i64 g4)).setCell ⟨g, 5, none⟩ (.int .i64 g5)).setCell ⟨g, 6, none⟩ (.int .i64 g6)).setCell ⟨g, 7, none⟩ (.int .i64 g7)).setCell ⟨g, 8, none⟩ (.int .i64 g8)).setCell ⟨g, 9, none⟩ (.int .i64 g9)).setCell ⟨g, 10, none⟩ (.int .i64 g10)).setCell ⟨g, 11, none⟩ (.int .i64 g11)).setCell ⟨g, 12, none⟩ (.int .i64 g12)).setCell ⟨g, 13, none⟩ (.int .i64 g13))) g t (fcells ⟨g0, g1, g2, g3, g4, g5, g6, g7, g8, g9, g10, g11, g12, g13⟩) := by
  have e : ((((((((((((((zeroF.setIfInBounds 0 (.int .i64 g0)).setIfInBounds 1 (.int .i64 g1)).setIfInBounds 2 (.int .i64 g2)).setIfInBounds 3 (.bool g3)).setIfInBounds 4 (.int .i64 g4)).setIfInBounds 5 (.int .i64 g5)).setIfInBounds 6 (.int .i64 g6)).setIfInBounds 7 (.int .i64 g7)).setIfInBounds 8 (.int .i64 g8)).setIfInBounds 9 (.int .i64 g9)).setIfInBounds 10 (.int .i64 g10)).setIfInBounds 11 (.int .i64 g11)).setIfInBounds 12 (.int .i64 g12)).setIfInBounds 13 (.int .i64 g13)) = fcells ⟨g0, g1, g2, g3, g4, g5, g6, g7, g8, g9, g10, g11, g12, g13⟩ := by simp [zeroF, fcells]
  rw [← e]
  exact ((((((((((((((h.put 0 (.int .i64 g0)).put 1 (.int .i64 g1)).put 2 (.int .i64 g2)).put 3 (.bool g3)).put 4 (.int .i64 g4)).put 5 (.int .i64 g5)).put 6 (.int .i64 g6)).put 7 (.int .i64 g7)).put 8 (.int .i64 g8)).put 9 (.int .i64 g9)).put 10 (.int .i64 g10)).put 11 (.int .i64 g11)).put 12 (.int .i64 g12)).put 13 (.int .i64 g13))
theorem b_put14 {w wr : World} {g : Nat} (h : Below w.heap.size w wr) (hg : w.heap.size ≤ g) (g0 g1 g2 : Int) (g3 : Bool) (g4 g5 g6 g7 g8 g9 g10 g11 g12 g13 : Int) :
    Below w.heap.size w (((((((((((((((wr.setCell ⟨g, 0, none⟩ (.int .i64 g0)).setCell ⟨g, 1, none⟩ (.int .i64 g1)).setCell ⟨g, 2, none⟩ (.int .i64 g2)).setCell ⟨g, 3, none⟩ (.bool g3)).setCell ⟨g, 4, none⟩ (.int .i64 g4)).setCell ⟨g, 5, none⟩ (.int .i64 g5)).setCell ⟨g, 6, none⟩ (.int .i64 g6)).setCell ⟨g, 7, none⟩ (.int .i64 g7)).setCell ⟨g, 8, none⟩ (.int .i64 g8)).setCell ⟨g, 9, none⟩ (.int .i64 g9)).setCell ⟨g, 10, none⟩ (.int .i64 g10)).setCell ⟨g, 11, none⟩ (.int .i64 g11)).setCell ⟨g, 12, none⟩ (.int .i64 g12)).setCell ⟨g, 13, none⟩ (.int .i64 g13))) :=
  ((((((((((((((h.setCell hg _).setCell hg _).setCell hg _).setCell hg _).setCell hg _).setCell hg _).setCell hg _).setCell hg _).setCell hg _).setCell hg _).setCell hg _).setCell hg _).setCell hg _).setCell hg _)
theorem info_fact : (Try.prog.info? 76).map (·.size) = some 14 := by kernel_rfl

end Go.Proofs.Ytkkjiihdmpngbaa
