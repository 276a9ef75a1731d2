/-
  Slices of bytes that come in; append of such a slice to a row that is owned.
-/
import Derived.Test.YtkkjiihdmpngbaaStr
import Derived.Test.YtkkjiihdmpngbaaFrm
import Derived.Laws.AppendOwnNone
namespace Go.Proofs.Ytkkjiihdmpngbaa
open Go.ChangeShapes Go.WideShapes Go.ChangeAt Go.RowKit Go.Deep

theorem one_u8 : Try.prog.cellsOf 5 = 1 := by kernel_rfl

theorem u8_of_wf {x : Int} (h : (Lit.int .u8 x).wf = true) : 0 ≤ x ∧ x ≤ 255 := by
  simp [Lit.wf, IntKind.min, IntKind.max, IntKind.signed, IntKind.bits] at h
  omega

section
variable {H : Type} {enc : TypeId × Value → H} {w : World} {base : Nat} {spare : Nat → Bool} {held : Bool}

set_option maxRecDepth 100000 in
theorem open_bytes {r : Reach} {b0 : Nat} {v : Value} {d : DataW H} {p : List MemPlace} (hv : Value.okWide Try.prog w r b0 22 v) (h : DataW.Trod enc Try.prog w base spare held 22 v d p) :
    ∃ (a : Option Addr) (c : Nat) (l : List UInt8), v = .slice a l.length c ∧ (a = none → c = 0) ∧ Sl w.heap.size w (.slice a l.length c) l := by
  obtain ⟨a0, len, cap, rfl⟩ := okWide_slice Try.underlying22 hv
  obtain ⟨fuel, hf⟩ := h
  rcases open_ints Try.underlying22 Try.underlying5 one_u8 hf with ⟨hcs, hx⟩ | ⟨a, len', cap', zs, hcs, _, hle, hmax, hall, hx, hcell, hwf⟩
  · simp [Value.cells] at hcs
    obtain ⟨rfl, rfl, rfl⟩ := hcs
    exact ⟨none, 0, [], rfl, fun _ => rfl, none, 0, rfl, Nat.le_refl _, fun h => by simp at h⟩
  · simp [Value.cells] at hcs
    obtain ⟨rfl, rfl, rfl⟩ := hcs
    have hlen : len ≤ zs.length := by rw [hall]; split <;> omega
    obtain ⟨l, hl⟩ : ∃ l : List UInt8, l = (zs.take len).map fun z => UInt8.ofNat z.toNat := ⟨_, rfl⟩
    have hll : l.length = len := by rw [hl]; simp; omega
    refine ⟨some a, cap, l, by rw [hll], (fun h => by simp at h), some a, cap, rfl, by omega, fun hp => ?_⟩
    obtain ⟨b, off, rfl, hc⟩ := ints_at hcell (by omega)
    have hlt : b < w.heap.size := by
      have := hc 0 (by omega)
      simp only [World.cell?] at this
      rcases Nat.lt_or_ge b w.heap.size with h | h
      · exact h
      · rw [Array.getElem?_eq_none (by simpa using h)] at this
        simp at this
    refine ⟨b, off, rfl, hlt, fun j u hu => ?_⟩
    have hj : j < l.length := (List.getElem?_eq_some_iff.1 hu).1
    have hjz : j < zs.length := by omega
    rw [hc j hjz]
    have hz : zs.getD j 0 = zs[j] := by simp [List.getD, hjz]
    have hb := u8_of_wf (hwf zs[j] (List.getElem_mem hjz))
    rw [hl, List.getElem?_map, List.getElem?_take_of_lt (by omega), List.getElem?_eq_getElem hjz] at hu
    simp only [Option.map_some, Option.some.injEq] at hu
    rw [hz, ← hu]
    congr 2
    simp
    omega
end

set_option maxRecDepth 100000 in
/-- b = append(b, s...), b owned. -/
theorem wpList_appSl {ops : Array Oper} {rest : List Oper} {o : Oper} {a : Act} {Q : Exit → Act → World → Prop} (hgd : o.guard = none) (s x : Operand)
    (ho : o.op = .call { callee := .builtin .append, args := #[s, x], argTypes := #[22, 22] })
    (base B : Nat) (v y : Value) (l m : List UInt8) (wr : World) (hs : a.eval s = v) (hown : wr.ownsRow base 5 1 v l.length (bytesV l)) (hx : a.eval x = y) (hy : Sl B wr y m) (hz : ∀ c, y = .slice none 0 c → c = 0)
    (hlen : l.length + m.length ≤ 100000000) (hbase : base ≤ wr.heap.size)
    (h : ∀ v' w', w'.ownsRow base 5 1 v' (l ++ m).length (bytesV (l ++ m)) → Below base wr w' → Kp wr w' → wr.grownBy w' v.ownBlock → wpList Try.prog ops Q rest (a.put o.dst v') w') :
    wpList Try.prog ops Q (o :: rest) a wr := by
  obtain ⟨i0, hi, hz0, hz1, hz2⟩ := info_parts Try.infoU8
  obtain ⟨ad, c, rfl, hc, hcell⟩ := hy
  have fin : ∀ v' w', w'.ownsRow base 5 1 v' (l ++ m).length (bytesV (l ++ m)) → wr.grownBy w' v.ownBlock → wpList Try.prog ops Q rest (a.put o.dst v') w' := by
    intro v' w' h1 hg
    refine h v' w' h1 ?_ (Kp.of_grown hg hown) hg
    refine ⟨hg.os, hg.tape, hg.output, hg.size, fun k hk => hg.block k (by omega) ?_⟩
    rcases hown.2 with ⟨rfl, _⟩ | ⟨g, cap, cur, rfl, hg, _⟩
    · simp [Value.ownBlock]
    · simp [Value.ownBlock]; omega
  rcases ad with _ | ad
  · have hm : m = [] := by
      rcases m with _ | ⟨b, m⟩
      · rfl
      · obtain ⟨b, o, hh, _⟩ := hcell (by simp)
        cases hh
    subst hm
    have hc0 : c = 0 := hz c rfl
    subst hc0
    refine wpList_append_own_none hgd s x 22 ho base 5 i0 1 Try.underlying22 hi v l.length (bytesV l) hs hown hx ?_
    exact fin _ _ (by rw [List.append_nil]; exact hown) ⟨rfl, rfl, rfl, Nat.le_refl _, fun _ _ _ => rfl⟩
  · refine wpList_append_own _ hgd s x 22 ho base 5 i0 (.int .u8 0) 1 1 Try.underlying22 hi hz0 hz1 hz2 rfl (by decide) v l.length (bytesV l) hs hown ad m.length c (bytesV m) hx (by rw [bytesV_length]; omega) ?_ (one_bytesV m) (by simp only [maxLen]; omega) (by omega) hbase ?_
    · intro j u hu
      have hj : j < m.length := by have := (List.getElem?_eq_some_iff.1 hu).1; rw [bytesV_length] at this; exact this
      obtain ⟨b, o, hh, _, hxx⟩ := hcell (by omega)
      injection hh with hh
      subst hh
      have hadd : (⟨b, o, none⟩ : Addr).add j = ⟨b, o + j, none⟩ := by unfold Addr.add; split <;> simp_all
      rw [hadd]
      simp only [bytesV, List.getElem?_map, Option.map_eq_some_iff] at hu
      obtain ⟨z, hz, rfl⟩ := hu
      exact hxx j z hz
    · intro v' w' hown' hg _
      refine fin v' w' ?_ hg
      rw [List.length_append, bytesV_append]
      exact hown'
theorem own_nil (w : World) (base : Nat) : w.ownsRow base 5 1 (.slice none 0 0) ([] : List UInt8).length (bytesV []) := ⟨rfl, Or.inl ⟨rfl, rfl⟩⟩
theorem own_nilcap {w : World} {base n : Nat} {t : TypeId} {v : Value} {xs : List Value} (h : w.ownsRow base t 1 v n xs) : ∀ c, v = .slice none 0 c → c = 0 := by
  intro c hc
  rcases h.2 with ⟨rfl, _⟩ | ⟨g, cap, cur, rfl, _⟩
  · injection hc with _ _ h3; exact h3.symm
  · cases hc
theorem own_some {w : World} {base : Nat} {v : Value} {l : List UInt8} (h : w.ownsRow base 5 1 v l.length (bytesV l)) (hl : 0 < l.length) : ∃ g c, v = .slice (some ⟨g, 0, none⟩) l.length c ∧ base ≤ g ∧ l.length ≤ c ∧ g < w.heap.size := by
  rcases h.2 with ⟨rfl, h0⟩ | ⟨g, cap, cur, rfl, hb, hg, hc, _⟩
  · omega
  · exact ⟨g, cap, rfl, hb, hc, (Array.getElem?_eq_some_iff.1 hg).1⟩
theorem Sl.take {B : Nat} {w : World} {b o c n : Nat} {l : List UInt8} (h : Sl B w (.slice (some ⟨b, o, none⟩) l.length c) l) (hn : n ≤ l.length) : Sl B w (.slice (some ⟨b, o, none⟩) n c) (l.take n) := by
  obtain ⟨a, c', he, hc, h⟩ := h
  injection he with h1 h2 h3
  subst h1 h3
  refine ⟨_, _, by rw [List.length_take, Nat.min_eq_left hn], by simp; omega, fun hl => ?_⟩
  simp at hl
  obtain ⟨b', o', ha, hb, hcell⟩ := h (by omega)
  refine ⟨b', o', ha, hb, fun j u hu => ?_⟩
  have hj : j < n := by have := (List.getElem?_eq_some_iff.1 hu).1; simp at this; omega
  rw [List.getElem?_take_of_lt hj] at hu
  exact hcell j u hu
end Go.Proofs.Ytkkjiihdmpngbaa
