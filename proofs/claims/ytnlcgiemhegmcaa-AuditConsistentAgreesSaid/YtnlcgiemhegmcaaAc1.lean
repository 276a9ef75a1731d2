/-
  An item of an entry, as the reference looks it up: the contract of item. Conditions: at most a million lines.
-/
import Derived.Test.YtnlcgiemhegmcaaAb1
namespace Go.Proofs.Ytnlcgiemhegmcaa
open Go.RowKit
set_option linter.unusedVariables false

theorem results_cell3 {P : Program} {fn : Func} {p u x : Tmp} {ty : TypeId} (h : fn.results = #[.cell p ty, .tmp u, .tmp x]) (tmps : Array Value) (w : World) (g : Nat) (t : TypeId) (cs : Array Value) (fr : Nat × Nat) (d : TypeDesc) (v1 v2 : Value)
    (hp : tmps.getD p undef = .pointer (some ⟨g, 0, none⟩)) (h1 : tmps.getD u undef = v1) (h2 : tmps.getD x undef = v2) (hg : w.heap[g]? = some (.cells cs t fr))
    (hu : P.underlying ty = some d) (hd : (match d with | .struct _ | .array _ _ => true | _ => false) = true) (hi : (P.info? ty).map (·.size) = some cs.size) :
    (results fn tmps).run P w = .ok (.tuple #[.agg cs, v1, v2]) w := by
  have hp' : tmps[p]?.getD undef = .pointer (some ⟨g, 0, none⟩) := by simpa using hp
  have h1' : tmps[u]?.getD undef = v1 := by simpa using h1
  have h2' : tmps[x]?.getD undef = v2 := by simpa using h2
  simp [results, h, hp', h1', h2', asAddr, run_loadVar_row w g t ty cs fr d hg hu hd hi]
theorem info_frac : (Try.prog.info? 34).map (·.size) = some 2 := by kernel_rfl

/-- A line of a state, a benefit and an item. -/
def mB (s b x : Int) (l : Ln) : Bool := l.s == s && (l.b == b && l.it == x)
def mt (L : List Ln) (s b x : Int) : List Ln := L.filter (mB s b x)
theorem mt_snoc (L : List Ln) (l : Ln) (s b x : Int) : mt (L ++ [l]) s b x = if mB s b x l then mt L s b x ++ [l] else mt L s b x := by
  unfold mt
  rw [List.filter_append]
  by_cases h : mB s b x l <;> simp [h]
theorem mt_grp (L : List Ln) (s b x : Int) : mt L s b x = (grp L s b).filter fun l => l.it == x := by
  unfold mt grp mB
  rw [List.filter_filter]
  congr 1
  funext l
  cases l.s == s <;> cases l.b == b <;> cases l.it == x <;> rfl
def hdV (M : List Ln) : Int × Int := match M with | [] => (0, 0) | l :: _ => (l.n, l.d)
theorem hdV_snoc (M : List Ln) (l : Ln) : hdV (M ++ [l]) = if M.length = 0 then (l.n, l.d) else hdV M := by
  cases M <;> simp [hdV]
theorem first_mt (L : List Ln) (s b x : Int) : firstV (grp L s b) x = if (mt L s b x).length = 0 then none else some (hdV (mt L s b x)) := by
  rw [mt_grp]
  unfold firstV
  rw [← List.head?_filter]
  cases (grp L s b).filter (fun l => l.it == x) <;> rfl
def ItPost (L : List Ln) (s b x : Int) (w : World) (e : Ending) (w' : World) : Prop :=
  e = .returned (.tuple #[.agg #[.int .i64 (hdV (mt L s b x)).1, .int .i64 (hdV (mt L s b x)).2], .bool (decide (0 < (mt L s b x).length)), .bool (decide (1 < (mt L s b x).length))]) ∧ Below w.heap.size w w'
/-- What is known in the course of item. -/
structure ItR (w : World) (v : Int × Int) (W : World) : Prop where
  bel : Below w.heap.size w W
  res : BlkIs W w.heap.size 34 #[.int .i64 0, .int .i64 0]
  var : BlkIs W (w.heap.size + 1) 34 #[.int .i64 v.1, .int .i64 v.2]

set_option maxRecDepth 100000 in
set_option maxHeartbeats 4000000 in
theorem item_any (L : List Ln) (v0 : Value) (s b x : Int) (w : World) (hL : Lns w.heap.size w v0 L) (hn : L.length ≤ 1000000) :
    Calls Try.prog 27 #[v0, .int .i64 s, .int .i64 b, .int .i64 x] w (ItPost L s b x w) := by
  obtain ⟨a, c, rfl, hc, hcell⟩ := hL
  have HC := Lib.hid hcell
  clear hcell
  go_enter Try.func27, Try.ntmps27
  go_wp2
  go_loopw [12, 13] (fun n t wr => ∃ (i k : Nat) (v : Int × Int), i ≤ L.length ∧ k ≤ i ∧ t = .int .i64 (i : Int) ∧ n = .int .i64 (k : Int) ∧ Hid (k = (mt (L.take i) s b x).length) ∧ Hid (v = hdV (mt (L.take i) s b x)) ∧ ItR w v wr) (fun _ t _ => L.length - (intOf t).toNat)
  case atStart => exact ⟨0, 0, (0, 0), Nat.zero_le _, Nat.zero_le _, rfl, rfl, rfl, rfl, ⟨((Below.refl _ _).alloc (Nat.le_refl _) _).alloc (by simp) _, (BlkIs.new w _ _).alloc _, BlkIs.newAt _ _ _ _ (by simp)⟩⟩
  case round =>
    obtain ⟨i, k, v, hi, hki, rfl, rfl, hk, hv, hR⟩ := hrel
    by_cases hlt : i < L.length
    · obtain ⟨bk, o, rfl, hbk, hcl⟩ := HC.out (by omega)
      obtain ⟨q0, q1, q2, q3, q4⟩ := hcl i hlt
      have hbel := hR.bel
      have e : ∀ q, wr.cell? ⟨bk, q, none⟩ = w.cell? ⟨bk, q, none⟩ := fun q => hbel.cell (p := ⟨bk, q, none⟩) hbk
      rw [← e] at q0 q1 q2 q3 q4
      clear e hcl
      obtain ⟨y, hy⟩ : ∃ y, y = ln L i := ⟨_, rfl⟩
      have HT : Hid (mt (L.take (i + 1)) s b x = if mB s b x y then mt (L.take i) s b x ++ [y] else mt (L.take i) s b x) := by
        show _ = _
        rw [take_ln hlt, mt_snoc, ← hy]
      rw [← hy] at q0 q1 q2 q3 q4
      clear hy
      have vf0 := hR.var.frozen 0
      have vf1 := hR.var.frozen 1
      have vc0 := hR.var.cell 0
      have vc1 := hR.var.cell 1
      simp only [List.getElem?_toArray, List.getElem?_cons_zero, List.getElem?_cons_succ] at vc0 vc1
      by_cases hm : mB s b x y = true
      · have hmm := hm
        simp only [mB, Bool.and_eq_true] at hmm
        obtain ⟨h1, h2, h3⟩ := hmm
        have HM : Hid (mt (L.take (i + 1)) s b x = mt (L.take i) s b x ++ [y]) := by show _ = _; rw [HT.out, if_pos hm]
        clear HT hm
        by_cases hk0 : k = 0
        · have hk0' : ((k : Int) == 0) = true := by simp [hk0]
          have HK0 := Lib.hid hk0
          clear hk0
          go_wp2
          go_roundw
          case rel =>
            refine ⟨i + 1, k + 1, (y.n, y.d), by omega, by omega, by go_num, by go_num, ?_, ?_, ?_⟩
            · show _ = _; rw [HM.out]; simp [← hk.out]
            · show _ = _; rw [HM.out, hdV_snoc, ← hk.out, HK0.out]; simp
            · refine ⟨(hR.bel.setCell (by simp) _).setCell (by simp) _, (hR.res.far (by simp) _).far (by simp) _, ?_⟩
              exact (hR.var.put 0 _).put 1 _
          case measure => simp [intOf]; omega
        · have hk0' : ((k : Int) == 0) = false := by simp [hk0]
          have HK0 := Lib.hid hk0
          clear hk0
          go_wp2
          go_roundw
          case rel =>
            refine ⟨i + 1, k + 1, v, by omega, by omega, by go_num, by go_num, ?_, ?_, hR⟩
            · show _ = _; rw [HM.out]; simp [← hk.out]
            · show _ = _; rw [HM.out, hdV_snoc, ← hk.out, if_neg HK0.out]; exact hv.out
          case measure => simp [intOf]; omega
      · have HM : Hid (mt (L.take (i + 1)) s b x = mt (L.take i) s b x) := by show _ = _; rw [HT.out, if_neg hm]
        clear HT
        have hm' : mB s b x y = false := by simpa using hm
        clear hm
        unfold mB at hm'
        rcases h1 : (y.s == s) with _ | _
        · clear hm'
          go_wp2
          go_roundw
          case rel => exact ⟨i + 1, k, v, by omega, by omega, by go_num, rfl, by show _ = _; rw [HM.out]; exact hk.out, by show _ = _; rw [HM.out]; exact hv.out, hR⟩
          case measure => simp [intOf]; omega
        rcases h2 : (y.b == b) with _ | _
        · clear hm'
          go_wp2
          go_roundw
          case rel => exact ⟨i + 1, k, v, by omega, by omega, by go_num, rfl, by show _ = _; rw [HM.out]; exact hk.out, by show _ = _; rw [HM.out]; exact hv.out, hR⟩
          case measure => simp [intOf]; omega
        rw [h1, h2, Bool.true_and, Bool.true_and] at hm'
        go_wp2
        go_roundw
        case rel => exact ⟨i + 1, k, v, by omega, by omega, by go_num, rfl, by show _ = _; rw [HM.out]; exact hk.out, by show _ = _; rw [HM.out]; exact hv.out, hR⟩
        case measure => simp [intOf]; omega
    · obtain rfl : i = L.length := by omega
      clear hlt hi HC
      have vc0 := hR.var.cell 0
      have vc1 := hR.var.cell 1
      have rf0 := hR.res.frozen 0
      have rf1 := hR.res.frozen 1
      have rc0 := hR.res.cell 0
      have rc1 := hR.res.cell 1
      simp only [List.getElem?_toArray, List.getElem?_cons_zero, List.getElem?_cons_succ] at vc0 vc1 rc0 rc1
      go_wp2
      have hk' := hk.out
      have hv' := hv.out
      rw [List.take_length] at hk' hv'
      refine bodyPost_ret (v := .tuple #[.agg #[.int .i64 v.1, .int .i64 v.2], _, _]) (results_cell3 Try.results27 _ _ w.heap.size 34 _ (0, 0) _ _ _ rfl rfl rfl ((hR.res.put 0 _).put 1 _) Try.underlying34 rfl info_frac) rfl ?_
      refine ⟨?_, (hR.bel.setCell (by simp) _).setCell (by simp) _⟩
      rw [← hk', ← hv']
      simp
      omega
end Go.Proofs.Ytnlcgiemhegmcaa
