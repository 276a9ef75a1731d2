/-
  Append of long slices of bytes; the contract of bytes.Clone; documents as blocks.
-/
import Derived.Test.YtkkjiihdmpngbaaDf2
import Derived.Outline
namespace Go.Proofs.Ytkkjiihdmpngbaa
open Go.RowKit
set_option linter.unusedVariables false

set_option maxRecDepth 100000 in
/-- b = append(b, s...), b owned, s long. -/
theorem wpList_appBig {ops : Array Oper} {rest : List Oper} {o : Oper} {a : Act} {Q : Exit → Act → World → Prop} (hgd : o.guard = none) (s x : Operand)
    (ho : o.op = .call { callee := .builtin .append, args := #[s, x], argTypes := #[22, 22] })
    (base B : Nat) (v y : Value) (l m : List UInt8) (wr : World) (hs : a.eval s = v) (hown : wr.ownsRow base 5 1 v l.length (bytesV l)) (hx : a.eval x = y) (hy : Sl B wr y m) (hz : ∀ c, y = .slice none 0 c → c = 0)
    (hlen : l.length + m.length ≤ 140737488355328) (hbase : base ≤ wr.heap.size)
    (h : ∀ v' w', w'.ownsRow base 5 1 v' (l ++ m).length (bytesV (l ++ m)) → Below base wr w' → wr.grownBy w' v.ownBlock → wpList Try.prog ops Q rest (a.put o.dst v') w') :
    wpList Try.prog ops Q (o :: rest) a wr := by
  obtain ⟨i0, hi, hz0, hz1, hz2⟩ := info_parts Try.infoU8
  obtain ⟨ad, c, rfl, hc, hcell⟩ := hy
  have fin : ∀ v' w', w'.ownsRow base 5 1 v' (l ++ m).length (bytesV (l ++ m)) → wr.grownBy w' v.ownBlock → wpList Try.prog ops Q rest (a.put o.dst v') w' := by
    intro v' w' h1 hg
    refine h v' w' h1 ?_ hg
    refine ⟨hg.os, hg.tape, hg.output, hg.size, fun k hk => hg.block k (by omega) ?_⟩
    rcases hown.2 with ⟨rfl, _⟩ | ⟨g, cap, cur, rfl, hg, _⟩
    · simp [Value.ownBlock]
    · simp [Value.ownBlock]; omega
  rcases ad with _ | ad
  · have hm : m = [] := by
      rcases m with _ | ⟨b, m⟩
      · rfl
      · obtain ⟨b, o, hh, _⟩ := hcell (by simp)
        cases hh
    subst hm
    have hc0 : c = 0 := hz c rfl
    subst hc0
    refine wpList_append_own_none hgd s x 22 ho base 5 i0 1 Try.underlying22 hi v l.length (bytesV l) hs hown hx ?_
    exact fin _ _ (by rw [List.append_nil]; exact hown) ⟨rfl, rfl, rfl, Nat.le_refl _, fun _ _ _ => rfl⟩
  · refine wpList_append_own _ hgd s x 22 ho base 5 i0 (.int .u8 0) 1 1 Try.underlying22 hi hz0 hz1 hz2 rfl (by decide) v l.length (bytesV l) hs hown ad m.length c (bytesV m) hx (by rw [bytesV_length]; omega) ?_ (one_bytesV m) (by simp only [maxLen]; omega) (by omega) hbase ?_
    · intro j u hu
      have hj : j < m.length := by have := (List.getElem?_eq_some_iff.1 hu).1; rw [bytesV_length] at this; exact this
      obtain ⟨b, o, hh, _, hxx⟩ := hcell (by omega)
      injection hh with hh
      subst hh
      have hadd : (⟨b, o, none⟩ : Addr).add j = ⟨b, o + j, none⟩ := by unfold Addr.add; split <;> simp_all
      rw [hadd]
      simp only [bytesV, List.getElem?_map, Option.map_eq_some_iff] at hu
      obtain ⟨z, hz, rfl⟩ := hu
      exact hxx j z hz
    · intro v' w' hown' hg _
      refine fin v' w' ?_ hg
      rw [List.length_append, bytesV_append]
      exact hown'

/-- A copy of bytes. -/
def ClonePost (l : List UInt8) (w : World) (e : Ending) (w' : World) : Prop := ∃ v, e = .returned v ∧ w'.ownsRow w.heap.size 5 1 v l.length (bytesV l) ∧ Below w.heap.size w w'
set_option maxRecDepth 100000 in
set_option maxHeartbeats 1000000 in
theorem clone_any (ad : Addr) (n c : Nat) (l : List UInt8) (w : World) (hn : n = l.length) (hsl : Sl w.heap.size w (.slice (some ad) n c) l) (hl : l.length ≤ 140737488355328) :
    Calls Try.prog 62 #[.slice (some ad) n c] w (ClonePost l w) := by
  subst hn
  have HS := Lib.hid ((hsl.below ((Below.refl _ _).alloc (Nat.le_refl _) (.cells #[] 5))))
  have heq : ∀ w : World, (binOp .eql 22 (.slice (some ad) l.length c) (.slice none 0 0)).run Try.prog w = .ok (.bool false) w := fun w => Lib.run_eql_slice_nil w _ _ (some ad) l.length c 0 0 Try.underlying22
  go_enter Try.func62, Try.ntmps62
  go_wp2_with (at_builtin; refine wpList_appBig (by rfl) _ _ (by rfl) w.heap.size _ (.slice (some ⟨w.heap.size, 0, none⟩) 0 0) _ [] l _ (by rfl) (own_new w _ #[] [] rfl (Nat.le_refl _) (by simp)) (by rfl) HS.out (fun c h => by cases h) (by simp; omega) (by simp) ?_; intro v1 w1 hown1 hb1 hg1; rw [List.nil_append] at hown1)
  go_ret
  exact ⟨_, rfl, hown1, ((Below.refl _ _).alloc (Nat.le_refl _) _).trans hb1⟩

/-- What decoding gives. -/
def rS (l : List UInt8) : Int := if dOk l then dS l else 0
def rK (l : List UInt8) : Int := if dOk l then dK l else 0
def rN (l : List UInt8) : Int := if dOk l then dN l else 0
def rP (l : List UInt8) : Int := if dOk l then dP l else 0
def rE (l : List UInt8) : Int := if dOk l then 0 else 11
def rBody (l : List UInt8) : List UInt8 := if dOk l then dBody l else []
def DecPost (l : List UInt8) (w : World) (e : Ending) (w' : World) : Prop :=
  ∃ v, e = .returned (.tuple #[.agg (docV (rS l) (rN l) (rK l) (rP l) v), .int .i64 (rE l)]) ∧ Part1 w' v (rBody l) ∧ Below w.heap.size w w'
theorem dec_no {l : List UInt8} {w w' : World} (h : dOk l = false) (hb : Below w.heap.size w w') : DecPost l w (.returned (.tuple #[.agg #[.int .i64 0, .int .i64 0, .int .i64 0, .int .u32 0, .slice none 0 0], .int .i64 11])) w' := by
  refine ⟨.slice none 0 0, ?_, ⟨⟨none, 0, ?_, by simp [rBody, h], fun hl => ?_⟩, fun c hc => ?_⟩, hb⟩
  · simp [rS, rK, rN, rP, rE, h, docV]
  · simp [rBody, h]
  · simp [rBody, h] at hl
  · injection hc with _ _ h3; exact h3.symm
theorem dec_yes {l : List UInt8} {w w' : World} {v : Value} {s n k p : Int} (h : dOk l = true) (hs : s = dS l) (hn : n = dN l) (hk : k = dK l) (hp : p = dP l) (hv : Part1 w' v (dBody l)) (hb : Below w.heap.size w w') : DecPost l w (.returned (.tuple #[.agg #[.int .i64 s, .int .i64 n, .int .i64 k, .int .u32 p, v], .int .i64 0])) w' := by
  refine ⟨v, ?_, ?_, hb⟩
  · simp [rS, rK, rN, rP, rE, h, docV, hs, hn, hk, hp]
  · simpa [rBody, h] using hv
theorem doc_put {wr : World} {g : Nat} {t : TypeId} {z : Array Value} (hz : z.size = 5) (h : BlkIs wr g t z) (u0 u1 u2 u3 u4 : Value) : BlkIs (((((wr.setCell ⟨g, 0, none⟩ u0).setCell ⟨g, 1, none⟩ u1).setCell ⟨g, 2, none⟩ u2).setCell ⟨g, 3, none⟩ u3).setCell ⟨g, 4, none⟩ u4) g t #[u0, u1, u2, u3, u4] := by
  have e : (((((z.setIfInBounds 0 u0).setIfInBounds 1 u1).setIfInBounds 2 u2).setIfInBounds 3 u3).setIfInBounds 4 u4) = #[u0, u1, u2, u3, u4] := by
    obtain ⟨z⟩ := z
    match z, hz with
    | [_, _, _, _, _], _ => rfl
  rw [← e]
  exact (((((h.put 0 u0).put 1 u1).put 2 u2).put 3 u3).put 4 u4)
theorem doc_far {B : Nat} {w wr : World} {g : Nat} (h : Below B w wr) (hg : B ≤ g) (u0 u1 u2 u3 u4 : Value) : Below B w (((((wr.setCell ⟨g, 0, none⟩ u0).setCell ⟨g, 1, none⟩ u1).setCell ⟨g, 2, none⟩ u2).setCell ⟨g, 3, none⟩ u3).setCell ⟨g, 4, none⟩ u4) :=
  (((((h.setCell (p := ⟨g, 0, none⟩) hg u0).setCell (p := ⟨g, 1, none⟩) hg u1).setCell (p := ⟨g, 2, none⟩) hg u2).setCell (p := ⟨g, 3, none⟩) hg u3).setCell (p := ⟨g, 4, none⟩) hg u4)
theorem doc_keep {wr : World} {g b : Nat} {t : TypeId} {cs : Array Value} (h : BlkIs wr b t cs) (hg : b ≠ g) (u0 u1 u2 u3 u4 : Value) : BlkIs (((((wr.setCell ⟨g, 0, none⟩ u0).setCell ⟨g, 1, none⟩ u1).setCell ⟨g, 2, none⟩ u2).setCell ⟨g, 3, none⟩ u3).setCell ⟨g, 4, none⟩ u4) b t cs :=
  (((((h.far (p := ⟨g, 0, none⟩) hg u0).far (p := ⟨g, 1, none⟩) hg u1).far (p := ⟨g, 2, none⟩) hg u2).far (p := ⟨g, 3, none⟩) hg u3).far (p := ⟨g, 4, none⟩) hg u4)
theorem setCell_grown {w : World} {g o : Nat} (u : Value) : w.grownBy (w.setCell ⟨g, o, none⟩ u) (some g) := grown_set u
theorem doc_kept {w : World} {g : Nat} (u0 u1 u2 u3 u4 : Value) : w.grownBy (((((w.setCell ⟨g, 0, none⟩ u0).setCell ⟨g, 1, none⟩ u1).setCell ⟨g, 2, none⟩ u2).setCell ⟨g, 3, none⟩ u3).setCell ⟨g, 4, none⟩ u4) (some g) := by
  have key : ∀ {a b c : World}, a.grownBy b (some g) → b.grownBy c (some g) → a.grownBy c (some g) := fun h k => ⟨k.os.trans h.os, k.tape.trans h.tape, k.output.trans h.output, Nat.le_trans h.size k.size, fun i hi hn => (k.block i (Nat.lt_of_lt_of_le hi h.size) hn).trans (h.block i hi hn)⟩
  exact key (key (key (key (grown_set u0) (grown_set u1)) (grown_set u2)) (grown_set u3)) (grown_set u4)
theorem info_doc : (Try.prog.info? 34).map (·.size) = some 5 := by kernel_rfl
theorem DRdr.later {B g : Nat} {l : List UInt8} {w w' : World} (h : DRdr B g l w) (hb : Below w.heap.size w w') (hB : B ≤ w.heap.size) : DRdr B g l w' := by
  obtain ⟨⟨v, hblk, hs⟩, hg⟩ := h
  exact ⟨⟨v, hblk.below hb hblk.lt, hs.below (hb.mono hB)⟩, hg⟩
theorem DRdr.kept {S : List Nat} {B g : Nat} {l : List UInt8} {w w' : World} (h : DRdr B g l w) (hk : KeptBut S w w') (hn : g ∉ S) (hB : B ≤ w.heap.size) (hS : ∀ k ∈ S, B ≤ k) : DRdr B g l w' := by
  obtain ⟨⟨v, hblk, hs⟩, hg⟩ := h
  exact ⟨⟨v, hblk.kept hk hn, hs.below (hk.below hB hS)⟩, hg⟩
theorem Part1.kept {S : List Nat} {w w' : World} {v : Value} {l : List UInt8} (h : Part1 w v l) (hk : KeptBut S w w') (hn : ∀ a n c, v = .slice (some a) n c → a.block ∉ S) : Part1 w' v l := by
  obtain ⟨⟨a, c, hv, hc, hx⟩, hz⟩ := h
  refine ⟨⟨a, c, hv, hc, fun hl => ?_⟩, hz⟩
  obtain ⟨b, o, ha, hb, hcell⟩ := hx hl
  subst ha
  refine ⟨b, o, rfl, Nat.lt_of_lt_of_le hb hk.size, fun j u hu => ?_⟩
  exact (World.cell?_of_block (a := ⟨b, o + j, none⟩) (hk.block b hb (hn _ _ _ hv))).trans (hcell j u hu)
end Go.Proofs.Ytkkjiihdmpngbaa
