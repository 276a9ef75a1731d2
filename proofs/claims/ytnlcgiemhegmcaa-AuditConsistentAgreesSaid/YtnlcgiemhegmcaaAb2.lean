/-
  Where the unsound entries of an explanation begin: the contract of Unsound. Conditions: at most a million lines.
-/
import Derived.Test.YtnlcgiemhegmcaaAb1
namespace Go.Proofs.Ytnlcgiemhegmcaa
open Go.RowKit
set_option linter.unusedVariables false

def natsV (l : List Nat) : List Value := l.map fun j : Nat => Value.int .i64 (j : Int)
def UnsPost (L : List Ln) (w : World) (e : Ending) (w' : World) : Prop :=
  ∃ v', e = .returned v' ∧ w'.ownsRow w.heap.size 3 1 v' (unsL L).length (natsV (unsL L)) ∧ Below w.heap.size w w'
/-- What is known behind the reading of line i. -/
structure RdR (w : World) (L : List Ln) (i idx : Nat) (eb mb : Nat → Nat) (v : Value) (p1 p2 : Nat) (x : Ln) (W : World) : Prop where
  inv : UInv w L i idx eb mb v W
  line : BlkIs W p1 36 (lcells x.s x.b x.it x.n x.d)
  arr : BlkIs W p2 49 #[.int .i64 x.s, .int .i64 x.b]
theorem RdR.below {w : World} {L : List Ln} {i idx : Nat} {eb mb : Nat → Nat} {v : Value} {p1 p2 : Nat} {x : Ln} {W W' : World} (h : RdR w L i idx eb mb v p1 p2 x W) (hb : Below W.heap.size W W') : RdR w L i idx eb mb v p1 p2 x W' :=
  ⟨h.inv.below hb, h.line.below hb h.line.lt, h.arr.below hb h.arr.lt⟩
theorem iF_none : iF (fun _ => none) = fun _ => none := by funext x; unfold iF; split <;> rfl

theorem own_slice {W : World} {base : Nat} {e : TypeId} {v : Value} {xs : List Value} (h : W.ownsRow base e 1 v xs.length xs) :
    ∃ a cap, v = .slice a xs.length cap ∧ xs.length ≤ cap ∧ (0 < xs.length → ∃ gb, a = some ⟨gb, 0, none⟩ ∧ gb < W.heap.size ∧ ∀ i, i < xs.length → W.cell? ⟨gb, i, none⟩ = xs[i]?) := by
  rcases Nat.eq_zero_or_pos xs.length with h0 | h0
  · rcases h.2 with ⟨rfl, h1⟩ | ⟨g, cap, cur, rfl, _, _, h3, _⟩
    · exact ⟨none, 0, by rw [h1], by omega, fun h => by omega⟩
    · exact ⟨_, cap, rfl, h3, fun h => by omega⟩
  · obtain ⟨gb, cap, rfl, hc, _, hl, hcell⟩ := own_cells h h0
    exact ⟨_, cap, rfl, hc, fun _ => ⟨gb, rfl, hl, hcell⟩⟩
theorem own_base {W : World} {base base' n size : Nat} {e : TypeId} {v : Value} {xs : List Value} (h : W.ownsRow base e size v n xs) (hb : base' ≤ base) : W.ownsRow base' e size v n xs := by
  obtain ⟨h1, h2⟩ := h
  refine ⟨h1, ?_⟩
  rcases h2 with h2 | ⟨g, cap, cur, rfl, h3, rest⟩
  · exact .inl h2
  · exact .inr ⟨g, cap, cur, rfl, by omega, rest⟩
def badJ (L : List Ln) (j : Nat) : Bool := !(!wrongB (gAt L L.length j) && arithB (lastV (gAt L L.length j)))
theorem uns_bad (L : List Ln) : unsL L = (fs L L.length).filter (badJ L) := unsL_eq L
/-- .. and behind the making of a new entry. -/
structure NwR (w : World) (L : List Ln) (i idx : Nat) (eb mb : Nat → Nat) (v : Value) (p1 p2 g1 g2 : Nat) (x : Ln) (W2 W : World) : Prop where
  rd : RdR w L i idx eb mb v p1 p2 x W
  bel : Below W2.heap.size W2 W
  ent : BlkIs W g2 53 (ecells i g1 false)
  map : MapF W Try.prog 3 g1 0 (iF fun _ => none)
theorem NwR.mk' {w : World} {L : List Ln} {i idx : Nat} {eb mb : Nat → Nat} {v : Value} {p1 p2 : Nat} {x : Ln} {W2 : World} (h : RdR w L i idx eb mb v p1 p2 x W2) :
    NwR w L i idx eb mb v p1 p2 W2.heap.size (W2.heap.size + 1) x W2 ((W2.alloc (.map #[] 0)).alloc (.cells #[.int .i64 (i : Int), .map (some W2.heap.size), .bool false] 53)) :=
  have hb : Below W2.heap.size W2 ((W2.alloc (.map #[] 0)).alloc (.cells #[.int .i64 (i : Int), .map (some W2.heap.size), .bool false] 53)) := ((Below.refl _ _).alloc (Nat.le_refl _) _).alloc (by simp) _
  ⟨h.below hb, hb, BlkIs.newAt _ _ _ _ (by simp), by rw [iF_none]; exact (MapF.made W2 _ _).keep (Below.heap_alloc _ _ _ (by simp))⟩
theorem Try.infoP : (Try.prog.info? 50).map (fun i => (i.zero, i.size, i.bytes)) = some (some (.pointer none), 1, 8) := by kernel_rfl
theorem own_grown {w w' : World} {base n size : Nat} {e : TypeId} {v : Value} {xs : List Value} {b : Nat} (h : w.ownsRow base e size v n xs) (hg : w.grownBy w' (some b)) (hb : some b ≠ v.ownBlock) : w'.ownsRow base e size v n xs := by
  obtain ⟨h1, h2⟩ := h
  refine ⟨h1, ?_⟩
  rcases h2 with h2 | ⟨g, cap, cur, rfl, h3, hh, rest⟩
  · exact .inl h2
  · refine .inr ⟨g, cap, cur, rfl, h3, (hg.block g (Array.getElem?_eq_some_iff.1 hh).1 ?_).trans hh, rest⟩
    intro e; apply hb; rw [← e]; rfl

set_option maxRecDepth 100000 in
set_option maxHeartbeats 4000000 in
theorem unsound_any (L : List Ln) (v0 : Value) (w : World) (hL : Lns w.heap.size w v0 L) (hR : LnsR L) (hn : L.length ≤ 1000000) :
    Calls Try.prog 10 #[v0] w (UnsPost L w) := by
  obtain ⟨a, c, rfl, hc, hcell⟩ := hL
  have HC := Lib.hid hcell
  have HR := Lib.hid hR
  clear hcell hR
  have hmm := @run_makeMap Try.prog
  go_enter Try.func10, Try.ntmps10
  go_wp2
  go_loopw [3, 15] (fun v t wr => ∃ (i : Nat) (eb mb : Nat → Nat), i ≤ L.length ∧ t = .int .i64 (i : Int) ∧ UInv w L i w.heap.size eb mb v wr) (fun _ t _ => L.length - (intOf t).toNat)
  case atStart => exact ⟨0, id, id, Nat.zero_le _, rfl, UInv.start w L id id⟩
  case round =>
    obtain ⟨i, eb, mb, hi, rfl, hU⟩ := hrel
    by_cases hlt : i < L.length
    · obtain ⟨bk, o, rfl, hbk, hcl⟩ := HC.out (by omega)
      obtain ⟨q0, q1, q2, q3, q4⟩ := hcl i hlt
      have hbel := hU.bel
      have e : ∀ q, wr.cell? ⟨bk, q, none⟩ = w.cell? ⟨bk, q, none⟩ := fun q => hbel.cell (p := ⟨bk, q, none⟩) hbk
      rw [← e] at q0 q1 q2 q3 q4
      clear e hcl
      obtain ⟨⟨s1, s2⟩, ⟨b1, b2⟩, i1, i2⟩ := HR.out i hlt
      have hx : ∃ x, x = ln L i := ⟨_, rfl⟩
      obtain ⟨x, hx⟩ := hx
      rw [← hx] at q0 q1 q2 q3 q4 s1 s2 b1 b2 i1 i2
      have HX := Lib.hid hx
      clear hx
      go_upto_region 7 with (fail)
      refine world_gen (RdR w L i w.heap.size eb mb u3 wr.heap.size (wr.heap.size + 1) x) ?_ ?_
      · exact RdR.mk (hU.below (((Below.refl _ _).alloc (Nat.le_refl _) _).alloc (by simp) _)) ((BlkIs.new wr _ _).alloc _) (BlkIs.newAt _ _ _ _ (by simp))
      intro W2 hW
      clear q0 q1 q2 q3 q4 hU hbel
      generalize wr.heap.size = p1 at hW ⊢
      generalize p1 + 1 = p2 at hW ⊢
      obtain ⟨q0, q1, q2, q3, q4⟩ := lcell hW.line
      have r0 := hW.arr.cell 0
      have r1 := hW.arr.cell 1
      simp only [List.getElem?_toArray, List.getElem?_cons_zero, List.getElem?_cons_succ] at r0 r1
      have hlk := hW.inv.look x.s x.b s1 s2 b1 b2
      rcases find_fs (L := L) (i := i) (by omega) with ⟨hf, hno⟩ | ⟨hf, j, hj, hs⟩
      · have hk := kF_miss (eb := eb) hlt hf
        rw [← HX.out] at hk
        rw [hk] at hlk
        clear hk
        have HF := Lib.hid hf
        clear hf hno
        simp only [Option.getD_none] at hlk
        go_upto_region 10 with (fail)
        refine world_gen (NwR w L i w.heap.size eb mb u3 p1 p2 W2.heap.size (W2.heap.size + 1) x W2) (NwR.mk' hW) ?_
        intro W4 hN
        clear hlk q0 q1 q2 q3 q4 r0 r1
        have r0 := hN.rd.arr.cell 0
        have r1 := hN.rd.arr.cell 1
        simp only [List.getElem?_toArray, List.getElem?_cons_zero, List.getElem?_cons_succ] at r0 r1
        obtain ⟨w5, hr5, m5, g5⟩ := hN.rd.inv.put (by omega) x.s x.b s1 s2 b1 b2 (W2.heap.size + 1)
        have hrw := hN.rd.inv.rown
        have row5 := own_grown hN.rd.inv.row g5 hrw.2.2
        have idl : w.heap.size < w5.heap.size := Nat.lt_of_lt_of_le hN.rd.inv.ix.lt g5.size
        have hLine5 := hN.rd.line.grown g5 (by
          intro e
          have h1 := hN.rd.line
          obtain ⟨es, cl, h2⟩ := hN.rd.inv.ix.isMap
          injection e with e
          subst e
          unfold BlkIs at h1
          rw [h1] at h2
          cases h2)
        obtain ⟨q0, q1, q2, q3, q4⟩ := lcell hLine5
        have row5' : w5.ownsRow w.heap.size 50 1 u3 ((fs L i).map fun j => Value.pointer (some ⟨eb j, 0, none⟩)).length ((fs L i).map fun j => Value.pointer (some ⟨eb j, 0, none⟩)) := by simpa using row5
        clear row5
        have hfl : (fs L i).length ≤ i := by have := List.length_filter_le (isFst L) (List.range i); simpa [fs] using this
        go_upto_region 12 with (first | (at_builtin; go_loud (refine wpList_appV (by rfl) _ _ 47 50 (by rfl) Try.underlying47 (.pointer none) rfl 8 (by decide) Try.infoP w.heap.size _ _ _ _ rfl (by rfl) (by exact row5') _ (by rfl) (by simp) (by simp; omega) (by omega) ?_); intro v6 w6 row6 b6 g6))
        have hid : w.heap.size < W2.heap.size := hW.inv.ix.lt
        have ent5 := hN.ent.grown g5 (by intro e; injection e with e; omega)
        have map5 := hN.map.keep (g5.block _ hN.map.lt (by intro e; injection e with e; omega))
        have line6 := hLine5.grown g6 (hLine5.apart row5' (by decide))
        have ent6 := ent5.grown g6 (ent5.apart row5' (by decide))
        have map6 := map5.keep (g6.block _ map5.lt (own_not_map row5' map5.isMap))
        have m6 := m5.keep (g6.block _ m5.lt hrw.2.2)
        clear q0 q1 q2 q3 q4 r0 r1 hr5
        obtain ⟨q0, q1, q2, q3, q4⟩ := lcell line6
        go_wp2_with fail
        refine (add_any (W2.heap.size + 1) W2.heap.size 0 i false (fun _ => none) x.s x.b x.it x.n x.d _ i1 i2 ent6 map6 (by omega)).mono ?_
        rintro e w7 ⟨rfl, he, hm, hk⟩
        have h9 : UInv w L (i + 1) w.heap.size (upd eb i (W2.heap.size + 1)) (upd mb i W2.heap.size) v6 w7 := by
          refine hW.inv.fresh hlt HF.out (Nat.le_refl _) (Nat.le_succ _) ?_ ?_ ?_ ?_ (by rw [← HX.out]; exact he) (k := 1) (by omega) (by rw [← HX.out]; exact hm)
          · have h5 : Below w.heap.size W4 w5 := ⟨g5.os, g5.tape, g5.output, g5.size, fun k hk => g5.block k (by have := hN.rd.inv.bel.size; omega) (by intro e; injection e with e; omega)⟩
            exact ((hN.rd.inv.bel.trans h5).trans b6).trans (hk.below (by have := b6.size; omega) (by intro k hk; simp at hk; omega))
          · intro b hb hne hnv
            have z4 := hN.bel.size
            have z5 := g5.size
            have z6 := g6.size
            rw [hk.block b (by omega) (by simp; omega), g6.block b (by omega) hnv, g5.block b (by omega) (by simpa using hne), hN.bel.block b hb]
          · exact own_kept row6 hk (by
              intro k hk
              simp only [List.mem_cons, List.not_mem_nil, or_false] at hk
              rcases hk with rfl | rfl
              · exact ent6.apart row6 (by decide)
              · exact own_not_map row6 map6.isMap)
          · have hne : ∀ k, k ∈ [W2.heap.size + 1, W2.heap.size] → w.heap.size ≠ k := by intro k hk; simp at hk; omega
            rw [← HX.out]
            exact m6.keep (hk.block _ m6.lt (fun hm => hne _ hm rfl))
        clear he hm hk q0 q1 q2 q3 q4 hW hN ent6 map6 m6 line6 ent5 map5 hLine5 row5' row6 b6 g6 m5 g5 hrw
        go_wp2
        go_roundw
        case rel => exact ⟨i + 1, _, _, by omega, by go_num, h9⟩
        case measure => simp [intOf]; omega
      · have hk := kF_hit (eb := eb) hlt hj hs
        rw [← HX.out] at hk
        rw [hk] at hlk
        clear hk
        simp only [Option.getD_some] at hlk
        have HF := Lib.hid hf
        have HS := Lib.hid hs
        clear hf hs
        go_wp2_with fail
        have hent := hW.inv.ent j hj
        have hmap := hW.inv.map j hj
        refine (add_any (eb j) (mb j) i j _ _ x.s x.b x.it x.n x.d _ i1 i2 hent hmap (by omega)).mono ?_
        rintro e w1 ⟨rfl, he, hm, hk⟩
        have h9 := hW.inv.hit hlt HF.out hj HS.out (by rw [← HX.out]; exact he) (by rw [← HX.out]; exact hm) hk
        clear hlk hent hmap he hm hk q0 q1 q2 q3 q4 r0 r1 hW
        go_wp2
        go_roundw
        case rel => exact ⟨i + 1, eb, mb, by omega, by go_num, h9⟩
        case measure => simp [intOf]; omega
    · obtain rfl : i = L.length := by omega
      clear hlt hi
      obtain ⟨w1, rfl⟩ : ∃ w1, w1 = wr := ⟨_, rfl⟩
      have hrow := hU.row
      rw [show (fs L L.length).length = ((fs L L.length).map fun j => Value.pointer (some ⟨eb j, 0, none⟩)).length by simp] at hrow
      obtain ⟨a2, c2, rfl, hc2, hcl2⟩ := own_slice hrow
      have HC2 := Lib.hid hcl2
      clear hcl2 hrow HC
      have hJl : (fs L L.length).length ≤ L.length := by have := List.length_filter_le (isFst L) (List.range L.length); simpa [fs] using this
      simp only [List.length_map] at HC2 hc2 ⊢
      have HJ : Hid (∃ J, J = fs L L.length) := ⟨_, rfl⟩
      obtain ⟨J, hJ⟩ := HJ.out
      rw [← hJ] at HC2 hJl hc2 ⊢
      clear HJ
      have HJ := Lib.hid hJ
      clear hJ
      go_wp2
      go_loopw [9, 47] (fun v t w2 => ∃ (k : Nat) (l : List Nat), k ≤ J.length ∧ t = .int .i64 (k : Int) ∧ Hid (l = (J.take k).filter (badJ L)) ∧ l.length ≤ k ∧ w2.ownsRow w1.heap.size 3 1 v (natsV l).length (natsV l) ∧ Below w1.heap.size w1 w2) (fun _ t _ => J.length - (intOf t).toNat)
      case atStart => exact ⟨0, [], Nat.zero_le _, rfl, rfl, Nat.zero_le _, World.ownsRow_nil _ _ _ _, Below.refl _ _⟩
      case round =>
        obtain ⟨k, l, hk, rfl, hl, hlk, hown, hb2⟩ := hrel
        by_cases hlt : k < J.length
        · obtain ⟨gb, rfl, hgb, hcl⟩ := HC2.out (by omega)
          obtain ⟨j, hj⟩ : ∃ j, J[k]? = some j := ⟨_, List.getElem?_eq_getElem hlt⟩
          have hcj : wr.cell? ⟨gb, k, none⟩ = some (.pointer (some ⟨eb j, 0, none⟩)) := by
            rw [hb2.cell (p := ⟨gb, k, none⟩) hgb, hcl k hlt]
            simp [hj]
          have hjm : j ∈ fs L L.length := by rw [← HJ.out]; exact List.mem_of_getElem? hj
          have htk : J.take (k + 1) = J.take k ++ [j] := by rw [List.take_add_one, hj]; rfl
          have HTK := Lib.hid htk
          clear htk hj hcl
          have hent := (hU.ent j hjm).below hb2 (hU.ent j hjm).lt
          have hmap := (hU.map j hjm).keep (hb2.block _ (hU.map j hjm).lt)
          go_wp2_with fail
          refine (sound_any (eb j) (mb j) L.length j _ _ _ hent hmap ?_).mono ?_
          · intro hw x p hx
            unfold U1 at hx
            rw [Option.map_eq_some_iff] at hx
            obtain ⟨q, hq, rfl⟩ := hx
            exact last_bd hw hq
          rintro e w3 ⟨rfl, hb3⟩
          have hown3 := own_below hown hb3 (fun g hg => own_lt hown hg.symm)
          have hent3 := hent.below hb3 hent.lt
          have hb3' := hb2.trans (hb3.mono hb2.size)
          obtain ⟨k0, k1, k2, k3⟩ := ecell hent3
          have HB : Hid (badJ L j = !(!wrongB (gAt L L.length j) && arithB (lastV (gAt L L.length j)))) := rfl
          clear hcj hent hmap
          rcases hsd : (!wrongB (gAt L L.length j) && arithB (lastV (gAt L L.length j))) with _ | _
          · rw [hsd] at HB
            have hz3 := hb3'.size
            clear hsd
            go_wp2_with (at_builtin; go_loud (refine wpList_appV (by rfl) _ _ 27 3 (by rfl) Try.underlying27 (.int .i64 0) rfl 8 (by decide) Try.infoI w1.heap.size _ (natsV l) _ _ rfl (by rfl) (by exact hown3) _ (by rfl) (by simp) (by simp [natsV]; omega) (by omega) ?_); intro v' w4 hown4 hb4 hg4)
            go_roundw
            case rel => exact ⟨k + 1, l ++ [j], by omega, by go_num, by show _ = _; rw [HTK.out, List.filter_append, ← hl.out]; simp [HB.out], by simp; omega, by simpa [natsV] using hown4, hb3'.trans hb4⟩
            case measure => simp [intOf]; omega
          · rw [hsd] at HB
            clear hsd
            go_wp2
            go_roundw
            case rel => exact ⟨k + 1, l, by omega, by go_num, by show _ = _; rw [HTK.out, List.filter_append, ← hl.out]; simp [HB.out], by omega, hown3, hb3'⟩
            case measure => simp [intOf]; omega
        · obtain rfl : k = J.length := by omega
          go_wp2
          go_ret
          have e : l = unsL L := by
            have := hl.out
            rw [List.take_length, HJ.out] at this
            rw [this, uns_bad]
          refine ⟨_, rfl, ?_, hU.bel.trans (hb2.mono hU.bel.size)⟩
          rw [← e]
          have := own_base hown hU.bel.size
          simpa [natsV] using this
end Go.Proofs.Ytnlcgiemhegmcaa
