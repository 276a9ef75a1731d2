/-
  Numbers as bytes, the most significant one first; rows of bytes that a call owns; the contract of the reference's big.
-/
import Derived.Test.YtkkjiihdmpngbaaAft
import Derived.Laws.OwnMore
import Derived.Deep.AppendLies
import Derived.Deep.Draws
namespace Go.Proofs.Ytkkjiihdmpngbaa
open Go.RowKit

/-- The lowest eight bits of a number. -/
def byteOf (x : Int) : UInt8 := (x % 256).toNat.toUInt8
/-- A number in k bytes. -/
def be : Nat → Int → List UInt8
  | 0, _ => []
  | k + 1, x => byteOf (x / 2 ^ (8 * k)) :: be k x
theorem be_length (k : Nat) (x : Int) : (be k x).length = k := by
  induction k with
  | zero => rfl
  | succ k ih => simp [be, ih]
/-- Bytes as cells. -/
def bytesV (l : List UInt8) : List Value := l.map fun b => .int .u8 (b.toNat : Int)
theorem bytesV_length (l : List UInt8) : (bytesV l).length = l.length := by simp [bytesV]
theorem bytesV_append (l m : List UInt8) : bytesV (l ++ m) = bytesV l ++ bytesV m := by simp [bytesV]
theorem byteOf_toNat (x : Int) : ((byteOf x).toNat : Int) = x % 256 := by
  have h0 : 0 ≤ x % 256 := Int.emod_nonneg _ (by decide)
  have h1 : x % 256 < 256 := Int.emod_lt_of_pos _ (by decide)
  simp [byteOf]
  omega
theorem one_bytesV (l : List UInt8) : ∀ u ∈ bytesV l, u.oneCell' = true := by
  intro u hu
  simp only [bytesV, List.mem_map] at hu
  obtain ⟨b, _, rfl⟩ := hu
  rfl

theorem Try.infoU8 : (Try.prog.info? 5).map (fun i => (i.zero, i.size, i.bytes)) = some (some (.int .u8 0), 1, 1) := by kernel_rfl

/-- Block g is just the cells cs of type t, and none is frozen. -/
def BlkIs (w : World) (g : Nat) (t : TypeId) (cs : Array Value) : Prop := w.heap[g]? = some (.cells cs t (0, 0))
theorem BlkIs.lt {w : World} {g : Nat} {t : TypeId} {cs : Array Value} (h : BlkIs w g t cs) : g < w.heap.size := by
  rcases Nat.lt_or_ge g w.heap.size with hl | hl
  · exact hl
  · unfold BlkIs at h; rw [Array.getElem?_eq_none hl] at h; cases h
theorem BlkIs.cell {w : World} {g : Nat} {t : TypeId} {cs : Array Value} (h : BlkIs w g t cs) (i : Nat) : w.cell? ⟨g, i, none⟩ = cs[i]? := cell_of_row w g i cs t (0, 0) h
theorem BlkIs.new (w : World) (t : TypeId) (cs : Array Value) : BlkIs (w.alloc (.cells cs t)) w.heap.size t cs := heap_alloc_new w _
theorem BlkIs.grown {w w' : World} {g : Nat} {t : TypeId} {cs : Array Value} {row : Option Nat} (h : BlkIs w g t cs) (hg : w.grownBy w' row) (hne : some g ≠ row) : BlkIs w' g t cs := (hg.block g h.lt hne).trans h
theorem BlkIs.below {w w' : World} {B g : Nat} {t : TypeId} {cs : Array Value} (h : BlkIs w g t cs) (hb : Below B w w') (hg : g < B) : BlkIs w' g t cs := (hb.block g hg).trans h
theorem BlkIs.alloc {w : World} {g : Nat} {t : TypeId} {cs : Array Value} (h : BlkIs w g t cs) (o : Obj) : BlkIs (w.alloc o) g t cs := (Below.heap_alloc w o g h.lt).trans h
theorem BlkIs.newAt (w : World) (g : Nat) (t : TypeId) (cs : Array Value) (h : g = w.heap.size) : BlkIs (w.alloc (.cells cs t)) g t cs := by subst h; exact BlkIs.new w t cs
theorem BlkIs.drew {w : World} {g : Nat} {t : TypeId} {cs : Array Value} (h : BlkIs w g t cs) : BlkIs w.drew g t cs := h
theorem BlkIs.drewN {w : World} {g n : Nat} {t : TypeId} {cs : Array Value} (h : BlkIs w g t cs) : BlkIs (w.drewN n) g t cs := h
theorem BlkIs.put {w : World} {g : Nat} {t : TypeId} {cs : Array Value} (h : BlkIs w g t cs) (i : Nat) (u : Value) : BlkIs (w.setCell ⟨g, i, none⟩ u) g t (cs.setIfInBounds i u) := by
  unfold BlkIs at h ⊢
  simp [World.setCell, Array.getElem?_modify, h]
theorem BlkIs.far {w : World} {g : Nat} {t : TypeId} {cs : Array Value} (h : BlkIs w g t cs) {p : Addr} (hp : g ≠ p.block) (u : Value) : BlkIs (w.setCell p u) g t cs := (Below.heap_setCell w p u g hp).trans h
theorem BlkIs.frozen {w : World} {g : Nat} {t : TypeId} {cs : Array Value} (h : BlkIs w g t cs) (i : Nat) : w.frozen? ⟨g, i, none⟩ = false := by
  unfold BlkIs at h
  simp [World.frozen?, h]
/-- A row that is owned lies in another block than one of another type. -/
theorem BlkIs.apart {w : World} {g base n size : Nat} {t e : TypeId} {cs : Array Value} {v : Value} {xs : List Value} (h : BlkIs w g t cs) (ho : w.ownsRow base e size v n xs) (hne : e ≠ t) : some g ≠ v.ownBlock := by
  rcases ho.2 with ⟨rfl, _⟩ | ⟨g', cap, cur, rfl, _, hg', _⟩
  · simp [Value.ownBlock]
  · intro hh
    have e1 : g = g' := by simpa [Value.ownBlock] using hh
    subst e1
    unfold BlkIs at h
    rw [h] at hg'
    injection hg' with h1
    injection h1 with _ h2
    exact hne h2.symm

/-- Every block that is no row of bytes is as it was. -/
def Kp (w w' : World) : Prop := w.heap.size ≤ w'.heap.size ∧ ∀ k, k < w.heap.size → (∀ cs fr, w.heap[k]? ≠ some (.cells cs 5 fr)) → w'.heap[k]? = w.heap[k]?
theorem Kp.refl (w : World) : Kp w w := ⟨Nat.le_refl _, fun _ _ _ => rfl⟩
theorem Kp.trans {a b c : World} (h : Kp a b) (h' : Kp b c) : Kp a c :=
  ⟨Nat.le_trans h.1 h'.1, fun k hk hn => (h'.2 k (Nat.lt_of_lt_of_le hk h.1) (by rw [h.2 k hk hn]; exact hn)).trans (h.2 k hk hn)⟩
theorem Kp.alloc {a b : World} (h : Kp a b) (o : Obj) : Kp a (b.alloc o) :=
  ⟨Nat.le_trans h.1 (by simp), fun k hk hn => (Below.heap_alloc b o k (Nat.lt_of_lt_of_le hk h.1)).trans (h.2 k hk hn)⟩
theorem Kp.of_below {a b : World} (h : Below a.heap.size a b) : Kp a b := ⟨h.size, fun k hk _ => h.block k hk⟩
theorem Kp.of_grown {w w' : World} {base n : Nat} {v : Value} {xs : List Value} (hg : w.grownBy w' v.ownBlock) (ho : w.ownsRow base 5 1 v n xs) : Kp w w' := by
  refine ⟨hg.size, fun k hk hn => hg.block k hk ?_⟩
  rcases ho.2 with ⟨rfl, _⟩ | ⟨g, cap, cur, rfl, _, hh, _⟩
  · simp [Value.ownBlock]
  · intro e
    have e1 : k = g := by simpa [Value.ownBlock] using e
    subst e1
    exact hn _ _ hh
theorem BlkIs.kp {w w' : World} {g : Nat} {t : TypeId} {cs : Array Value} (h : BlkIs w g t cs) (hk : Kp w w') (hne : t ≠ 5) : BlkIs w' g t cs :=
  (hk.2 g h.lt (by
    intro cs' fr e
    unfold BlkIs at h
    rw [h] at e
    injection e with e
    injection e with _ e2
    exact hne e2)).trans h
theorem iter_kp {w w' : World} {k : Nat} {s : ByteArray} {pos : Nat} (h : w.heap[k]? = some (.stringIter s pos)) (hk : Kp w w') : w'.heap[k]? = some (.stringIter s pos) :=
  (hk.2 k (Array.getElem?_eq_some_iff.1 h).1 (by intro cs fr e; rw [h] at e; cases e)).trans h

/-- b = append(b, one byte). -/
theorem wpList_app1 {ops : Array Oper} {rest : List Oper} {o : Oper} {a : Act} {Q : Exit → Act → World → Prop} (hgd : o.guard = none) (s x : Operand)
    (ho : o.op = .call { callee := .builtin .append, args := #[s, x], argTypes := #[22, 22] })
    (base : Nat) (v : Value) (l : List UInt8) (wr : World) (y : Int) (hs : a.eval s = v) (hown : wr.ownsRow base 5 1 v l.length (bytesV l)) (hx : a.eval x = .slice (some ⟨wr.heap.size, 0, none⟩) 1 1)
    (hlen : l.length ≤ 100000000) (hbase : base ≤ wr.heap.size)
    (h : ∀ v' w', w'.ownsRow base 5 1 v' (l ++ [byteOf y]).length (bytesV (l ++ [byteOf y])) → Below base wr w' → Kp wr w' → wpList Try.prog ops Q rest (a.put o.dst v') w') :
    wpList Try.prog ops Q (o :: rest) a (wr.alloc (.cells #[.int .u8 (y % 256)] 5)) := by
  obtain ⟨i0, hi, hz0, hz1, hz2⟩ := info_parts Try.infoU8
  refine wpList_append_own _ hgd s x 22 ho base 5 i0 (.int .u8 0) 1 1 Try.underlying22 hi hz0 hz1 hz2 rfl (by decide) v l.length (bytesV l) hs (hown.alloc _) ⟨wr.heap.size, 0, none⟩ 1 1 [.int .u8 (y % 256)] hx rfl
    (World.news_of_block (cs := #[.int .u8 (y % 256)]) (t := 5) (fr := (0, 0)) (heap_alloc_new wr _)) (by simp [Value.oneCell']) (by simp only [maxLen]; omega) (by omega) (by simp; omega) ?_
  intro v' w' hown' hg _
  have hg' : wr.grownBy w' v.ownBlock := ⟨hg.os, hg.tape, hg.output, Nat.le_trans (by simp) hg.size, fun k hk hne => (hg.block k (by simp; omega) hne).trans (Below.heap_alloc wr _ k hk)⟩
  refine h v' w' ?_ ?_ (Kp.of_grown hg' hown)
  · rw [List.length_append, bytesV_append]
    have e : bytesV [byteOf y] = [.int .u8 (y % 256)] := by simp [bytesV, byteOf_toNat]
    rw [e]
    exact hown'
  · refine ⟨hg'.os, hg'.tape, hg'.output, hg'.size, fun k hk => hg'.block k (by omega) ?_⟩
    rcases hown.2 with ⟨rfl, _⟩ | ⟨g, cap, cur, rfl, hg, _⟩
    · simp [Value.ownBlock]
    · simp [Value.ownBlock]; omega

def BigPost (base : Nat) (l : List UInt8) (w : World) (e : Ending) (w' : World) : Prop :=
  ∃ v, e = .returned v ∧ w'.ownsRow base 5 1 v l.length (bytesV l) ∧ Below base w w' ∧ Kp w w'

set_option maxHeartbeats 400000 in
theorem big_any (base : Nat) (v : Value) (bs : List UInt8) (x : Int) (size : Nat) (w : World) (hs : size ≤ 8) (hl : bs.length ≤ 1000000)
    (hown : w.ownsRow base 5 1 v bs.length (bytesV bs)) (hbase : base ≤ w.heap.size) :
    Calls Try.prog 81 #[v, .int .i64 x, .int .i64 size] w (BigPost base (bs ++ be size x) w) := by
  obtain ⟨i0, hi, hz0, hz1, hz2⟩ := info_parts Try.infoU8
  go_enter Try.func81, Try.ntmps81
  go_wp2
  go_loopw [0, 7] (fun v t wr => ∃ (k : Nat) (l : List UInt8), k ≤ size ∧ t = .int .i64 ((k : Int) - 1) ∧ wr.ownsRow base 5 1 v l.length (bytesV l) ∧ Below base w wr ∧ Kp w wr ∧ l.length + k = bs.length + size ∧ Hid (l ++ be k x = bs ++ be size x))
    (fun _ t _ => (intOf t + 1).toNat)
  case atStart => exact ⟨size, bs, Nat.le_refl _, rfl, hown, Below.refl _ _, Kp.refl _, rfl, rfl⟩
  case round =>
    obtain ⟨k, l, hk, rfl, hown', hbel, hkp, hlen, heq⟩ := hrel
    clear hown
    have hsz := hbel.size
    rcases k with _ | k
    · go_wp2
      go_ret
      have e : l = bs ++ be size x := by have := heq.out; simpa [be] using this
      exact ⟨_, rfl, by rw [← e]; exact hown', hbel, hkp⟩
    · have hk1 : (0 : Int) ≤ (((k + 1 : Nat) : Int) - 1) := by omega
      go_wp2_with (at_builtin; refine wpList_app1 (by rfl) _ _ (by rfl) base _ l wr (x / 2 ^ (8 * k)) (by rfl) (by exact hown') (by rfl) (by omega) (by omega) ?_; intro v' w1 hown1 hb1 hg1)
      go_roundw
      case rel => exact ⟨k, l ++ [byteOf (x / 2 ^ (8 * k))], by omega, by go_num, hown1, hbel.trans hb1, hkp.trans hg1, by simp; omega, by have := heq.out; simpa [be, Hid] using this⟩
      case measure => simp [intOf]

end Go.Proofs.Ytkkjiihdmpngbaa
