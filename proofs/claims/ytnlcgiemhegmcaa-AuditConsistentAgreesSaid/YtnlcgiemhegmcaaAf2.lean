/-
  Lines appended to lines; the contract of awake. No conditions.
-/
import Derived.Test.YtnlcgiemhegmcaaAf1
import Derived.Maps.AppendAt
namespace Go.Proofs.Ytnlcgiemhegmcaa
open Go.RowKit
set_option linter.unusedVariables false

theorem Try.infoL : (Try.prog.info? 36).map (fun i => (i.zero, i.size, i.bytes)) = some (some (.agg #[.int .i64 0, .int .i64 0, .int .i64 0, .int .i64 0, .int .i64 0]), 5, 40) := by kernel_rfl
theorem one_rowL (L : List Ln) : ∀ u ∈ rowL L, u.oneCell' = true := by
  intro u hu
  unfold rowL at hu
  rw [List.mem_flatMap] at hu
  obtain ⟨l, _, hu⟩ := hu
  simp only [lcells, List.mem_cons, List.not_mem_nil, or_false] at hu
  rcases hu with rfl | rfl | rfl | rfl | rfl <;> rfl
/-- s = append(s, t...) for slices of lines. -/
theorem wpList_appL {ops : Array Oper} {rest : List Oper} {o : Oper} {a : Act} {Q : Exit → Act → World → Prop} (hgd : o.guard = none) (s x : Operand)
    (ho : o.op = .call { callee := .builtin .append, args := #[s, x], argTypes := #[23, 23] })
    (base : Nat) (v : Value) (L M : List Ln) (wr : World) (hs : a.eval s = v) (hown : wr.ownsRow base 36 5 v L.length (rowL L)) (g k c : Nat) (hx : a.eval x = .slice (some ⟨g, k, none⟩) M.length c)
    (hcell : ∀ j, j < M.length * 5 → wr.cell? ⟨g, k + j, none⟩ = (rowL M)[j]?) (hlen : L.length + M.length ≤ 1000000) (hbase : base ≤ wr.heap.size)
    (h : ∀ v' w', w'.ownsRow base 36 5 v' (L ++ M).length (rowL (L ++ M)) → wr.grownBy w' v.ownBlock → (v'.ownBlock = v.ownBlock ∨ v'.ownBlock = some wr.heap.size) → wpList Try.prog ops Q rest (a.put o.dst v') w') :
    wpList Try.prog ops Q (o :: rest) a wr := by
  obtain ⟨i0, hi, hz0, hz1, hz2⟩ := info_parts Try.infoL
  refine wpList_append_own_at _ hgd s x 23 ho base 36 i0 _ 5 40 Try.underlying23 hi hz0 hz1 hz2 rfl (by decide) v L.length (rowL L) hs hown ⟨g, k, none⟩ M.length c (rowL M) hx (rowL_length M)
    ?_ (one_rowL M) (by simp only [maxLen]; omega) (by omega) hbase ?_
  · intro j u hu
    have hj : j < M.length * 5 := by
      have := (List.getElem?_eq_some_iff.1 hu).1
      rw [rowL_length] at this
      exact this
    have := hcell j hj
    rw [hu] at this
    have e : (⟨g, k, none⟩ : Addr).add j = ⟨g, k + j, none⟩ := by unfold Addr.add; by_cases h0 : j = 0 <;> simp [h0]
    rw [e]
    exact this
  · intro v' w' hown' hg _ hloc
    refine h v' w' ?_ hg hloc
    rw [List.length_append, rowL_append]
    exact hown'
theorem lns_cells {w : World} {base : Nat} {v : Value} {L : List Ln} (h : w.ownsRow base 36 5 v L.length (rowL L)) (hn : 0 < L.length) :
    ∃ g cap cur, v = .slice (some ⟨g, 0, none⟩) L.length cap ∧ L.length ≤ cap ∧ base ≤ g ∧ BlkIs w g 36 cur ∧ (∀ j, j < L.length * 5 → cur[j]? = (rowL L)[j]?) := by
  rcases h.2 with ⟨rfl, h0⟩ | ⟨g, cap, cur, rfl, h1, h2, h3, h4, h5, h6⟩
  · omega
  · refine ⟨g, cap, cur, rfl, h3, h1, h2, fun j hj => ?_⟩
    have h7 : (cur.toList.take (L.length * 5))[j]? = (rowL L)[j]? := by rw [h6]
    rw [List.getElem?_take, if_pos hj] at h7
    rw [← h7]
    simp
/-- The number of the last line is replaced. -/
theorem entL_set (a b c d n q m x : Int) (cur : Array Value) (h : ∀ j, j < 30 → cur[j]? = (rowL (entL a b c d n q m))[j]?) : ∀ j, j < 30 → (cur.setIfInBounds 28 (.int .i64 x))[j]? = (rowL (entL a b c d n q x))[j]? := by
  intro j hj
  have h28 := h 28 (by omega)
  have hsz : 28 < cur.size := by
    have e : (rowL (entL a b c d n q m))[28]? = some (.int .i64 m) := rfl
    rw [e] at h28
    exact (Array.getElem?_eq_some_iff.1 h28).1
  by_cases hj28 : j = 28
  · subst hj28
    simp [hsz]
    rfl
  · rw [Array.getElem?_setIfInBounds_ne (Ne.symm hj28), h j hj]
    rcases j with _ | _ | _ | _ | _ | _ | _ | _ | _ | _ | _ | _ | _ | _ | _ | _ | _ | _ | _ | _ | _ | _ | _ | _ | _ | _ | _ | _ | _ | _ | j
    all_goals first | rfl | (exfalso; omega)
theorem entL_seven (n q : Int) (hq : vfB n q = true) (h0 : 0 ≤ n) (h1 : n ≤ q) : unsL (entL 0 0 0 0 n q 7) = [0] := by
  have hf : fsts (entL 0 0 0 0 n q 7) = [0] := by simp [fsts, entL, isFst, List.range, List.range.loop]
  have hg : grpAt (entL 0 0 0 0 n q 7) 0 = entL 0 0 0 0 n q 7 := by simp [grpAt, grp, entL]
  have hs : soundB (entL 0 0 0 0 n q 7) = false := by simp [soundB, entL, arithB, firstV]
  unfold unsL
  rw [hf]
  simp [hg, hs]

/-- Two rows of six lines in the course of awake. -/
structure AwR (w : World) (g g2 : Nat) (n q m : Int) (W : World) : Prop where
  bel : Below w.heap.size w W
  one : BlkIs W g 36 (entC 0 0 0 0 n q m)
  two : ∃ cur, BlkIs W g2 36 cur ∧ ∀ j, j < 30 → cur[j]? = (rowL (entL 0 0 0 0 n q 7))[j]?
theorem AwR.below {w : World} {g g2 : Nat} {n q m : Int} {W W' : World} (h : AwR w g g2 n q m W) (hb : Below W.heap.size W W') : AwR w g g2 n q m W' := by
  obtain ⟨cur, h1, h2⟩ := h.two
  exact ⟨bnext h.bel hb, h.one.below hb h.one.lt, cur, h1.below hb h1.lt, h2⟩
theorem AwR.two' {w : World} {g g2 : Nat} {n q m : Int} {W : World} (h : AwR w g g2 n q m W) (cap : Nat) (hc : 6 ≤ cap) : Lns W.heap.size W (.slice (some ⟨g2, 0, none⟩) 6 cap) (entL 0 0 0 0 n q 7) := by
  obtain ⟨cur, h1, h2⟩ := h.two
  exact Lns.of_cells (L := entL 0 0 0 0 n q 7) h1.lt hc fun j hj => by rw [h1.cell j]; exact h2 j hj
theorem entL_R (a b c d n q m : Int) : LnsR (entL a b c d n q m) := by
  intro i hi
  have hi' : i < 6 := hi
  rcases i with _ | _ | _ | _ | _ | _ | i
  all_goals first | (exfalso; omega) | (refine ⟨⟨?_, ?_⟩, ⟨?_, ?_⟩, ?_, ?_⟩ <;> simp [entL, ln])
theorem poss_one (W : World) (x : Po) : Poss (W.alloc (.cells (pcells x) 40)).heap.size (W.alloc (.cells (pcells x) 40)) (.slice (some ⟨W.heap.size, 0, none⟩) 1 1) [x] := by
  refine ⟨_, 1, rfl, by simp, fun _ => ⟨W.heap.size, 0, rfl, by simp, fun i hi j hj => ?_⟩⟩
  obtain rfl : i = 0 := by simpa using hi
  rw [show 0 + 0 * 7 + j = j by omega, (BlkIs.new W _ _).cell j]
  rfl
theorem pobd_one (x : Po) (h1 : -4000000000000000 ≤ x.d ∧ x.d ≤ 4000000000000000) (h2 : -4000000000000000 ≤ x.p ∧ x.p ≤ 4000000000000000) (h3 : -4000000000000000 ≤ x.t ∧ x.t ≤ 4000000000000000) (h4 : -4000000000000000 ≤ x.r ∧ x.r ≤ 4000000000000000) : PoBd [x] := by
  intro i hi
  obtain rfl : i = 0 := by simpa using hi
  exact ⟨h1, h2, h3, h4⟩
set_option maxRecDepth 100000 in
set_option maxHeartbeats 4000000 in
theorem awake_any (w : World) : Calls Try.prog 7 #[] w fun e w' => e = .returned (.bool true) ∧ Below w.heap.size w w' := by
  go_enter Try.func7, Try.ntmps7
  go_wp2_with fail
  refine (entry_any 0 0 0 0 1 1 _ (by decide) (by decide) (by decide) (by decide)).mono ?_
  rintro e w1 ⟨a, b, c, d, n, q, m, g, hE, rfl, hblk, hgl, hb1⟩
  have ea := hE.za rfl
  have eb := hE.zb rfl
  subst ea
  subst eb
  have ec : c = 0 := by have := hE.c0; have := hE.c1; omega
  have ed : d = 0 := by have := hE.d0; have := hE.d1; omega
  subst ec
  subst ed
  have hcl : ∀ j, j < 6 * 5 → w1.cell? ⟨g, 0 + j, none⟩ = (rowL (entL 0 0 0 0 n q m))[j]? := by
    intro j hj
    rw [Nat.zero_add, hblk.cell j, entC_row]
    simp
  have HCL := Lib.hid hcl
  clear hcl
  have hz1 := hb1.size
  go_upto_region 3 with (at_builtin; go_loud (refine wpList_appL (by rfl) _ _ (by rfl) w.heap.size (.slice none 0 0) [] (entL 0 0 0 0 n q m) _ rfl (World.ownsRow_nil _ _ _ _) g 0 6 (by rfl) HCL.out (by simp [entL]) hz1 ?_); intro v2 w2 hown2 hg2 hloc; obtain ⟨g2, cap2, cur2, rfl, hc2, hgl2, hb2, hcur⟩ := lns_cells hown2 (by simp [entL]))
  have HCU : Hid (∀ j, j < 30 → cur2[j]? = (rowL (entL 0 0 0 0 n q m))[j]?) := hcur
  clear hcur HCL
  have hB2 : Below w1.heap.size w1 w2 := ⟨hg2.os, hg2.tape, hg2.output, hg2.size, fun k hk => hg2.block k hk (by simp [Value.ownBlock])⟩
  have hblk2 := hblk.below hB2 hblk.lt
  have hBW := bnext hb1 hB2
  have f28 := hb2.frozen 28
  have c28 : w2.cell? ⟨g2, 28, none⟩ = some (.int .i64 m) := by
    rw [hb2.cell 28, HCU.out 28 (by omega)]
    rfl
  have hgg : g ≠ g2 := by
    have hl := hblk.lt
    rcases hloc with h | h
    · simp [Value.ownBlock] at h
    · simp [Value.ownBlock] at h
      omega
  rw [show (entL 0 0 0 0 n q m).length = 6 from rfl]
  clear hown2 hg2 hloc
  go_upto_region 4 with (fail)
  refine world_gen (AwR w g g2 n q m) ⟨hBW.setCell hgl2 _, hblk2.far hgg _, ?_⟩ ?_
  · refine ⟨_, hb2.put 28 _, entL_set 0 0 0 0 n q m 7 cur2 HCU.out⟩
  intro W hW
  have hE1 := hE.n0
  have hE2 := hE.n1
  have hE3 := Lib.hid hE.vf
  have HOK := Lib.hid (entL_ok hE)
  have HSV := Lib.hid (entL_seven n q hE.vf hE.n0 hE.n1)
  have hc6 : 6 ≤ cap2 := hc2
  clear f28 c28 hblk2 hB2 hBW hb2 HCU hblk hb1 hz1 hgl hgl2 hE hc2
  go_wp2_with fail
  refine (unsound_any (entL 0 0 0 0 n q m) _ _ (by have := Lns.of_blk (L := entL 0 0 0 0 n q m) (by rw [← entC_row]; exact hW.one); exact this) (entL_R _ _ _ _ _ _ _) (by simp [entL])).mono ?_
  rintro e w3 ⟨v3, rfl, hown3, hb3⟩
  rw [HOK.out] at hown3
  obtain ⟨hl3, hv3⟩ := hown3
  obtain ⟨a3, c3, rfl⟩ : ∃ a c, v3 = .slice a 0 c := by
    rcases hv3 with ⟨rfl, _⟩ | ⟨g', cap, cur, rfl, _⟩
    · exact ⟨_, _, rfl⟩
    · exact ⟨_, _, rfl⟩
  replace hW := hW.below hb3
  clear hl3 hv3 hb3
  go_wp2_with fail
  refine (unsound_any (entL 0 0 0 0 n q 7) _ _ (hW.two' cap2 hc6) (entL_R _ _ _ _ _ _ _) (by simp [entL])).mono ?_
  rintro e w4 ⟨v4, rfl, hown4, hb4⟩
  rw [HSV.out] at hown4
  have hI := Ins.of_own hown4
  replace hW := hW.below hb4
  clear hown4 hb4
  go_wp2_with fail
  refine (ints_any (ofN [0]) [0] _ _ _ (hI.below ((Below.refl _ _).alloc (Nat.le_refl _) _)) ⟨_, 1, rfl, by simp, fun _ => ⟨w4.heap.size, 0, rfl, by simp, fun i hi => ?_⟩⟩ (by simp [ofN]) (by simp)).mono ?_
  · obtain rfl : i = 0 := by simpa using hi
    exact (BlkIs.new w4 _ _).cell 0
  rintro e w5 ⟨rfl, hb5⟩
  replace hW := (hW.below ((Below.refl _ _).alloc (Nat.le_refl _) _)).below hb5
  have e5 : (ofN [0] == [0]) = true := rfl
  rw [e5]
  clear e5 hb5 hI
  have hbw := hW.bel
  clear hW
  go_wp2_with fail
  refine (cons_any [⟨1, 1, 5, 3, 0, 0, 2⟩] _ _ (poss_one w5 _) (pobd_one _ (by decide) (by decide) (by decide) (by decide)) (by simp)).mono ?_
  rintro e w6 ⟨rfl, hb6⟩
  rw [show consB [⟨1, 1, 5, 3, 0, 0, 2⟩] = true from rfl]
  go_wp2_with fail
  refine (cons_any [⟨1, 1, 5, 3, 0, 0, 1⟩] _ _ (poss_one w6 _) (pobd_one _ (by decide) (by decide) (by decide) (by decide)) (by simp)).mono ?_
  rintro e w7 ⟨rfl, hb7⟩
  rw [show consB [⟨1, 1, 5, 3, 0, 0, 1⟩] = false from rfl]
  go_wp2
  go_ret
  exact ⟨rfl, bnext (bnext (bnext (bnext hbw ((Below.refl _ _).alloc (Nat.le_refl _) _)) hb6) ((Below.refl _ _).alloc (Nat.le_refl _) _)) hb7⟩
end Go.Proofs.Ytnlcgiemhegmcaa
