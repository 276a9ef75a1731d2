/-
  Slices of bytes that read as a list: from rows that are owned and from slices that came in; the conversion to a string.
-/
import Derived.Test.YtkkjiihdmpngbaaByt
import Derived.Test.YtkkjiihdmpngbaaMix
import Derived.Laws.BytesString
namespace Go.Proofs.Ytkkjiihdmpngbaa
open Go.RowKit

/-- The slice v reads as the bytes l, and lies below block B. -/
def Sl (B : Nat) (w : World) (v : Value) (l : List UInt8) : Prop :=
  ∃ (a : Option Addr) (c : Nat), v = .slice a l.length c ∧ l.length ≤ c ∧ (0 < l.length → ∃ b o, a = some ⟨b, o, none⟩ ∧ b < B ∧ ∀ j u, l[j]? = some u → w.cell? ⟨b, o + j, none⟩ = some (.int .u8 (u.toNat : Int)))

theorem Sl.below {B : Nat} {w w' : World} {v : Value} {l : List UInt8} (h : Sl B w v l) (hb : Below B w w') : Sl B w' v l := by
  obtain ⟨a, c, hv, hc, h⟩ := h
  refine ⟨a, c, hv, hc, fun hl => ?_⟩
  obtain ⟨b, o, ha, hB, hcell⟩ := h hl
  exact ⟨b, o, ha, hB, fun j u hu => (hb.cell (p := ⟨b, o + j, none⟩) hB).trans (hcell j u hu)⟩
theorem Sl.mono {B B' : Nat} {w : World} {v : Value} {l : List UInt8} (h : Sl B w v l) (hB : B ≤ B') : Sl B' w v l := by
  obtain ⟨a, c, hv, hc, h⟩ := h
  refine ⟨a, c, hv, hc, fun hl => ?_⟩
  obtain ⟨b, o, ha, hb, hcell⟩ := h hl
  exact ⟨b, o, ha, by omega, hcell⟩
theorem Sl.of_own {base : Nat} {w : World} {v : Value} {l : List UInt8} (h : w.ownsRow base 5 1 v l.length (bytesV l)) : Sl w.heap.size w v l := by
  rcases h.2 with ⟨rfl, h0⟩ | ⟨g, cap, cur, rfl, _, hh, hn, _, _, hx⟩
  · exact ⟨none, 0, by rw [h0], by omega, fun hl => by omega⟩
  · refine ⟨_, cap, rfl, hn, fun _ => ⟨g, 0, rfl, (Array.getElem?_eq_some_iff.1 hh).1, fun j u hu => ?_⟩⟩
    rw [Nat.zero_add, cell_of_row w g j cur _ _ hh]
    have hj : j < l.length := (List.getElem?_eq_some_iff.1 hu).1
    have h2 : (bytesV l)[j]? = some (.int .u8 (u.toNat : Int)) := by simp [bytesV, hu]
    rw [← hx, Nat.mul_one, List.getElem?_take_of_lt hj] at h2
    simpa using h2

theorem fold_push (l : List UInt8) : ∀ s : ByteArray, (l.map fun b => (b.toNat : Int)).foldl (fun r n => r.push (UInt8.ofNat n.toNat)) s = ⟨s.data ++ l.toArray⟩ := by
  induction l with
  | nil => intro s; simp
  | cons b l ih =>
    intro s
    rw [List.map_cons, List.foldl_cons, ih]
    have e : UInt8.ofNat ((b.toNat : Int)).toNat = b := by simp
    rw [e]
    simp [ByteArray.push]

theorem Sl.string {B : Nat} {w : World} {v : Value} {l : List UInt8} (h : Sl B w v l) : (convert 22 9 v).run Try.prog w = .ok (.string ⟨l.toArray⟩) w := by
  obtain ⟨a, c, rfl, hc, h⟩ := h
  rw [run_convert_bytes_string w 22 9 5 a _ c Try.underlying22 Try.underlying5 Try.underlying9]
  rcases l with _ | ⟨b0, l⟩
  · cases a with
    | none => simp [Conv.bytesToString]; rfl
    | some ad =>
      have h0 : (loadCells ad 0).run Try.prog w = .ok (([] : List Int).map (Value.int .u8)).toArray w := by simp [loadCells, loadCellsFrom]
      exact run_bytesToString w ad 0 c [] h0
  · obtain ⟨b, o, rfl, _, hcell⟩ := h (by simp)
    have hl : (loadCells ⟨b, o, none⟩ (b0 :: l).length).run Try.prog w = .ok (((b0 :: l).map fun b => (b.toNat : Int)).map (Value.int .u8)).toArray w := by
      have := run_loadCells_list (P := Try.prog) w ⟨b, o, none⟩ (bytesV (b0 :: l)) (fun j u hu => by
        have hadd : (⟨b, o, none⟩ : Addr).add j = ⟨b, o + j, none⟩ := by unfold Addr.add; split <;> simp_all
        rw [hadd]
        simp only [bytesV, List.getElem?_map, Option.map_eq_some_iff] at hu
        obtain ⟨x, hx, rfl⟩ := hu
        exact hcell j x hx)
      rw [bytesV_length] at this
      rw [this]
      simp [bytesV]
    rw [run_bytesToString w ⟨b, o, none⟩ _ c _ hl, fold_push]
    simp
theorem Sl.string_all {B : Nat} {w : World} {v : Value} {l : List UInt8} (h : Sl B w v l) (y : AfterB B w) : (convert 22 9 v).run Try.prog y.x = .ok (.string ⟨l.toArray⟩) y.x := (h.below y.h).string
end Go.Proofs.Ytkkjiihdmpngbaa
