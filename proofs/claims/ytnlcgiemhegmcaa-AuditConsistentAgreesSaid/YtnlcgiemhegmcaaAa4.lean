/-
  The whole values of some items of an entry: the contract of values. No conditions.
-/
import Derived.Test.YtnlcgiemhegmcaaAa3
namespace Go.Proofs.Ytnlcgiemhegmcaa
open Go.RowKit
set_option linter.unusedVariables false

def allV (V : Int → Option (Int × Int)) : List Int → Option (List Int)
  | [] => some []
  | i :: r => match V i with
    | none => none
    | some p => (allV V r).map (p.1 :: ·)
theorem allV_snoc (V : Int → Option (Int × Int)) (l : List Int) (x : Int) : allV V (l ++ [x]) = match allV V l with | none => none | some m => (V x).map fun p => m ++ [p.1] := by
  induction l with
  | nil => simp only [List.nil_append, allV]; cases V x <;> rfl
  | cons y l ih =>
    simp only [List.cons_append, allV]
    cases V y with
    | none => rfl
    | some p =>
      simp only [ih]
      cases allV V l with
      | none => rfl
      | some m => cases V x <;> rfl
theorem allV_none (V : Int → Option (Int × Int)) (l m : List Int) (h : allV V l = none) : allV V (l ++ m) = none := by
  induction l with
  | nil => cases h
  | cons y l ih =>
    simp only [List.cons_append, allV] at h ⊢
    cases hv : V y with
    | none => rfl
    | some p =>
      rw [hv] at h
      simp only [Option.map_eq_none_iff] at h
      simp only [ih h]
      rfl
def intsV (l : List Int) : List Value := l.map (Value.int .i64)
theorem Try.infoI : (Try.prog.info? 3).map (fun i => (i.zero, i.size, i.bytes)) = some (some (.int .i64 0), 1, 8) := by kernel_rfl
theorem bdrew0 {B : Nat} {w wr : World} (h : Below B w wr) (o : Obj) (hB : B ≤ wr.heap.size) : Below B w (wr.alloc o) := h.alloc hB _
def ValPost (V : Int → Option (Int × Int)) (its : List Int) (w : World) (e : Ending) (w' : World) : Prop :=
  Below w.heap.size w w' ∧ ((∃ l v, allV V its = some l ∧ e = .returned (.tuple #[v, .bool true]) ∧ w'.ownsRow w.heap.size 3 1 v l.length (intsV l)) ∨ (allV V its = none ∧ e = .returned (.tuple #[.slice none 0 0, .bool false])))

set_option maxRecDepth 100000 in
set_option maxHeartbeats 1000000 in
theorem values_any (g m k p : Nat) (j : Int) (b : Bool) (V : Int → Option (Int × Int)) (its : List Int) (w : World) (hr : ∀ x ∈ its, -9223372036854775808 ≤ x ∧ x ≤ 9223372036854775807) (hl : its.length ≤ 100)
    (hg : BlkIs w g 53 (ecells j m b)) (hm : MapF w Try.prog 3 m k (iF V)) (hp : BlkIs w p 3 (intsV its).toArray) :
    Calls Try.prog 26 #[.pointer (some ⟨g, 0, none⟩), .slice (some ⟨p, 0, none⟩) its.length its.length] w (ValPost V its w) := by
  have HR := Lib.hid hr
  clear hr
  go_enter Try.func26, Try.ntmps26
  go_wp2
  go_loopw [6, 13] (fun v c wr => ∃ (i : Nat) (l : List Int), i ≤ its.length ∧ c = .int .i64 (i : Int) ∧ l.length = i ∧ Hid (allV V (its.take i) = some l) ∧ wr.ownsRow w.heap.size 3 1 v l.length (intsV l) ∧ Below w.heap.size w wr)
    (fun _ c _ => its.length - (intOf c).toNat)
  case atStart => exact ⟨0, [], Nat.zero_le _, rfl, rfl, rfl, World.ownsRow_nil _ _ _ _, Below.refl _ _⟩
  case round =>
    obtain ⟨i, l, hi, rfl, hli, ha, hown, hbel⟩ := hrel
    have HLI := Lib.hid hli
    have hli' : l.length ≤ 100 := by omega
    clear hli
    have hg1 := hg.below hbel hg.lt
    have hm1 := hm.keep (hbel.block _ hm.lt)
    have hp1 := hp.below hbel hp.lt
    obtain ⟨hc0, hc1, hc2, hf2⟩ := ecell hg1
    by_cases hlt : i < its.length
    · obtain ⟨x, hx⟩ : ∃ x, its[i]? = some x := ⟨_, List.getElem?_eq_getElem hlt⟩
      have hxm : x ∈ its := List.mem_of_getElem? hx
      obtain ⟨hx1, hx2⟩ := HR.out x hxm
      have hcx : wr.cell? ⟨p, i, none⟩ = some (.int .i64 x) := by rw [hp1.cell i]; simp [intsV, hx]
      have htk : its.take (i + 1) = its.take i ++ [x] := by rw [List.take_add_one, hx]; rfl
      have HTK := Lib.hid htk
      have hlk := look_items hm1 x hx1 hx2
      clear htk hx
      cases hv : V x with
      | none =>
        rw [hv] at hlk
        have HV := Lib.hid hv
        clear hv
        go_wp2
        go_ret2
        refine ⟨bdrew0 hbel _ (by have := hbel.size; omega), .inr ⟨?_, rfl⟩⟩
        have e := allV_snoc V (its.take i) x
        rw [ha.out, HV.out, ← HTK.out] at e
        have e2 := allV_none V _ (its.drop (i + 1)) e
        rw [List.take_append_drop] at e2
        exact e2
      | some q =>
        rw [hv] at hlk
        have HV := Lib.hid hv
        clear hv
        have hown2 := fun o => (show wr.ownsRow w.heap.size 3 1 _ (intsV l).length (intsV l) by rw [show (intsV l).length = l.length by simp [intsV]]; exact hown).alloc o
        go_wp2_with (at_builtin; go_loud (refine wpList_appV (by rfl) _ _ 27 3 (by rfl) Try.underlying27 (.int .i64 0) rfl 8 (by decide) Try.infoI w.heap.size _ (intsV l) _ (.int .i64 q.1) rfl (by rfl) (by exact hown2 _) _ (by rfl) (by simp) (by simp [intsV]; omega) (by have := hbel.size; simp; omega) ?_); intro v' w1 hown1 hb1 hg1)
        go_roundw
        case rel => exact ⟨i + 1, l ++ [q.1], by omega, by go_num, by simp [HLI.out], by have e := allV_snoc V (its.take i) x; rw [ha.out, HV.out, ← HTK.out] at e; exact e, by simpa [intsV] using hown1, (hbel.alloc (by have := hbel.size; omega) _).trans hb1⟩
        case measure => simp [intOf]; omega
    · go_wp2
      go_ret2
      have hii : i = its.length := by omega
      refine ⟨hbel, .inl ⟨l, _, ?_, rfl, hown⟩⟩
      have e := ha.out
      rw [hii, List.take_length] at e
      exact e
end Go.Proofs.Ytnlcgiemhegmcaa
