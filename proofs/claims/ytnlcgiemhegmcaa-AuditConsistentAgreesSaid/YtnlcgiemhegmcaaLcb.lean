/-
  AuditConsistentAgrees: Consistent agrees with the reference, for any positions and for consistent ones. No conditions.
-/
import Derived.Test.YtnlcgiemhegmcaaLca
namespace Go.Proofs.Ytnlcgiemhegmcaa
open Go.ChangeShapes Go.WideShapes Go.ChangeAt Go.RowKit
set_option linter.unusedVariables false

theorem poss_nil (w : World) (a : Option Addr) (c : Nat) : Poss w.heap.size w (.slice a 0 c) [] := ⟨a, c, rfl, Nat.zero_le _, fun h => by simp at h⟩
theorem pobd_nil : PoBd [] := fun i hi => by simp at hi
/-- append(nil, an empty slice...) is nil. -/
theorem wpList_emptyP {ops : Array Oper} {rest : List Oper} {o : Oper} {a : Act} {Q : Exit → Act → World → Prop} (hgd : o.guard = none) (s x : Operand)
    (ho : o.op = .call { callee := .builtin .append, args := #[s, x], argTypes := #[37, 37] })
    (w : World) (hs : a.eval s = .slice none 0 0) (ad : Addr) (c : Nat) (hx : a.eval x = .slice (some ad) 0 c)
    (h : ∀ w', Below w.heap.size w w' → wpList Try.prog ops Q rest (a.put o.dst (.slice none 0 0)) w') :
    wpList Try.prog ops Q (o :: rest) a w := by
  obtain ⟨i0, hi, hz0, hz1, hz2⟩ := info_parts Try.infoPo
  refine wpList_append_own _ hgd s x 37 ho w.heap.size 40 i0 _ 7 56 Try.underlying37 hi hz0 hz1 hz2 rfl (by decide) (.slice none 0 0) 0 [] hs (World.ownsRow_nil _ _ _ _) ad 0 c [] hx rfl
    (fun j u hu => by simp at hu) (fun u hu => by cases hu) (by simp) (by simp) (Nat.le_refl _) ?_
  intro v' w' hown' hg hnil
  rw [hnil.2 ⟨rfl, rfl⟩]
  exact h w' ⟨hg.os, hg.tape, hg.output, hg.size, fun k hk => hg.block k hk (by simp [Value.ownBlock])⟩
set_option maxRecDepth 100000 in
set_option maxHeartbeats 1000000 in
theorem lca_none (at_ : Int) (w : World) :
    Calls Try.prog 6 #[.slice none 0 0, .int .i64 at_] w fun e w' => e = .returned (.bool true) ∧ Below w.heap.size w w' := by
  obtain ⟨i0, hi, hz0, hz1, hz2⟩ := info_parts Try.infoPo
  have hB : Below w.heap.size w w := Below.refl _ _
  go_enter Try.func6, Try.ntmps6
  go_upto_region 4 with (at_builtin; go_loud (refine wpList_append_own_none (by rfl) _ _ 37 (by rfl) w.heap.size 40 i0 7 Try.underlying37 hi (.slice none 0 0) 0 [] (by rfl) (World.ownsRow_nil _ _ _ _) (by rfl) ?_))
  clear hi hz0 hz1 hz2
  go_wp2
  go_loopw [6] (fun t wr => t = .int .i64 0 ∧ Below w.heap.size w wr) (fun t _ => 0)
  case atStart => exact ⟨rfl, hB⟩
  case round =>
    obtain ⟨rfl, hB⟩ := hrel
    go_wp2_with fail
    refine (awake_any _).mono ?_
    rintro e w2 ⟨rfl, hb2⟩
    replace hB := bnext hB hb2
    clear hb2
    go_wp2_with fail
    refine (cons_any [] _ _ (poss_nil _ _ _) pobd_nil (by simp)).mono ?_
    rintro e w3 ⟨rfl, hb3⟩
    replace hB := bnext hB hb3
    clear hb3
    rw [show consB [] = true from rfl]
    go_wp2
    go_loopw [7] (fun t wr => t = .int .i64 0 ∧ Below w.heap.size w wr) (fun t _ => 0)
    case atStart => exact ⟨rfl, hB⟩
    case round =>
      obtain ⟨rfl, hB⟩ := hrel
      go_wp2_with fail
      refine (cons_any [] _ _ (poss_nil _ _ _) pobd_nil (by simp)).mono ?_
      rintro e w4 ⟨rfl, hb4⟩
      replace hB := bnext hB hb4
      clear hb4
      rw [show consB [] = true from rfl]
      go_wp2_with fail
      refine (rcons_any [] _ _ (poss_nil _ _ _) pobd_nil (by simp)).mono ?_
      rintro e w5 ⟨rfl, hb5⟩
      replace hB := bnext hB hb5
      clear hb5
      rw [show consB [] = true from rfl]
      go_wp2
      go_ret
      exact ⟨rfl, hB⟩
set_option maxRecDepth 100000 in
set_option maxHeartbeats 1000000 in
theorem lca_empty (ad : Addr) (c : Nat) (at_ : Int) (w : World) :
    Calls Try.prog 6 #[.slice (some ad) 0 c, .int .i64 at_] w fun e w' => e = .returned (.bool true) ∧ Below w.heap.size w w' := by
  have hB : Below w.heap.size w w := Below.refl _ _
  go_enter Try.func6, Try.ntmps6
  go_upto_region 4 with (at_builtin; go_loud (refine wpList_emptyP (by rfl) _ _ (by rfl) _ (by rfl) _ _ (by rfl) ?_); intro w1 hb1)
  replace hB := bnext hB hb1
  clear hb1
  go_wp2
  go_loopw [6] (fun t wr => t = .int .i64 0 ∧ Below w.heap.size w wr) (fun t _ => 0)
  case atStart => exact ⟨rfl, hB⟩
  case round =>
    obtain ⟨rfl, hB⟩ := hrel
    go_wp2_with fail
    refine (awake_any _).mono ?_
    rintro e w2 ⟨rfl, hb2⟩
    replace hB := bnext hB hb2
    clear hb2
    go_wp2_with fail
    refine (cons_any [] _ _ (poss_nil _ _ _) pobd_nil (by simp)).mono ?_
    rintro e w3 ⟨rfl, hb3⟩
    replace hB := bnext hB hb3
    clear hb3
    rw [show consB [] = true from rfl]
    go_wp2
    go_loopw [7] (fun t wr => t = .int .i64 0 ∧ Below w.heap.size w wr) (fun t _ => 0)
    case atStart => exact ⟨rfl, hB⟩
    case round =>
      obtain ⟨rfl, hB⟩ := hrel
      go_wp2_with fail
      refine (cons_any [] _ _ (poss_nil _ _ _) pobd_nil (by simp)).mono ?_
      rintro e w4 ⟨rfl, hb4⟩
      replace hB := bnext hB hb4
      clear hb4
      rw [show consB [] = true from rfl]
      go_wp2_with fail
      refine (rcons_any [] _ _ (poss_nil _ _ _) pobd_nil (by simp)).mono ?_
      rintro e w5 ⟨rfl, hb5⟩
      replace hB := bnext hB hb5
      clear hb5
      rw [show consB [] = true from rfl]
      go_wp2
      go_ret
      exact ⟨rfl, hB⟩
theorem lca_big (a : Option Addr) (n c : Nat) (hn : 20 < n) (hn2 : n ≤ 9223372036854775807) (at_ : Int) (w : World) :
    Calls Try.prog 6 #[.slice a n c, .int .i64 at_] w fun e w' => e = .returned (.bool true) ∧ Below w.heap.size w w' := by
  have hb' : (20 : Int) < (n : Int) := by omega
  go_enter Try.func6, Try.ntmps6
  go_wp2_with fail
  refine (awake_any _).mono ?_
  rintro e w1 ⟨rfl, hb1⟩
  go_wp2
  go_ret
  exact ⟨rfl, hb1⟩
theorem lca_walk (L : List Po) (a : Option Addr) (c : Nat) (at_ : Int) (w : World) (hnil : a = none → c = 0) (hc : L.length ≤ c) (hn2 : L.length ≤ 9223372036854775807) (hr : 0 < L.length → ∃ b o, a = some ⟨b, o, none⟩ ∧ b < w.heap.size ∧ ∀ i x, L[i]? = some x → ∀ j, j < 7 → w.cell? ⟨b, o + i * 7 + j, none⟩ = (pcells x)[j]?)
    (hok : ∀ i, i < L.length → (-9223372036854775808 ≤ (po L i).d ∧ (po L i).d ≤ 9223372036854775807) ∧ (-9223372036854775808 ≤ (po L i).p ∧ (po L i).p ≤ 9223372036854775807)) :
    Calls Try.prog 6 #[.slice a L.length c, .int .i64 at_] w fun e w' => e = .returned (.bool true) ∧ Below w.heap.size w w' := by
  by_cases h20 : 20 < L.length
  · exact lca_big a L.length c h20 hn2 at_ w
  · by_cases h0 : L.length = 0
    · have e : Value.slice a L.length c = .slice a 0 c := by rw [h0]
      rw [e]
      rcases a with _ | ad
      · rw [hnil rfl]
        exact lca_none at_ w
      · exact lca_empty ad c at_ w
    · obtain ⟨b, o, rfl, hb, hcell⟩ := hr (by omega)
      by_cases h6 : L.length ≤ 6
      · exact lca_a L b o c at_ w (by omega) (by omega) h6 hb (fun i hi j hj => hcell i _ (po_get hi) j hj) hc hok
      · exact lca_b L b o c at_ w (by omega) (by omega) (by omega) hb (fun i hi j hj => hcell i _ (po_get hi) j hj) hc hok
theorem po_all {Q : Po → Prop} {L : List Po} (h : ∀ x ∈ L, Q x) : ∀ i, i < L.length → Q (po L i) := by
  intro i hi
  apply h
  unfold po
  simp [List.getD, hi]
set_option maxRecDepth 100000 in
theorem lca_lifted (os : Os) (started : os.Started) (H : Type) (enc : TypeId × Value → H) :
    ReturnsInHanded {} Try.checked os 6 .any (Rows.auditConsistentAgreesSpec.pre6 enc Try.prog Try.f6 Rows.auditConsistentAgreesRow.domain false) (Rows.auditConsistentAgreesSpec.post enc Try.prog Try.f6 false true false false) := by
  refine returnsInHanded_of_change_sized (C := Try.checked) own_knob started (by kernel_rfl) Try.func6
    (ChangeSpec.witness6 (enc := enc) (C := Try.checked) false ⟨#[], #[.slice none 0 0, .int .i64 0], []⟩ 8 (by kernel_rfl) (by kernel_rfl) (by kernel_rfl) (by kernel_rfl)) ?_
  intro W base args ds gs before hval0 hW hcnd hsz0 _
  have hval : ∀ (j : Nat) t v, Try.f6.params[j]? = some t → args[j]? = some v → Value.okWide Try.prog W .any base t v := hval0
  have hsz : (DataW.weightsEach Try.prog (Try.f6.params.toList ++ Rows.auditConsistentAgreesSpec.plain.varTypes Try.prog) (ds ++ gs)).all (· ≤ reachBytes) = true := hsz0
  have hW' := hW
  obtain ⟨p, q, hA0, hV, rfl, hfz, hnd⟩ := hW
  have hA : DataW.TrodAll enc Try.prog W 0 (fun _ => true) true Try.f6.params.toList args.toList ds p := hA0
  rw [Try.params6] at hA hval hsz
  obtain ⟨v0, vs0, d0, ds0, p0, q0, hargs, rfl, rfl, h0, tl0⟩ := trodAll_cons hA
  obtain ⟨v1, vs1, d1, ds1, p1, q1, rfl, rfl, rfl, h1, tl1⟩ := trodAll_cons tl0
  obtain ⟨rfl, rfl, rfl⟩ := trodAll_nil tl1
  obtain rfl : args = #[v0, v1] := by cases args; simp_all
  obtain ⟨rfl, rfl⟩ := trodVars_none hV
  have k0 := h0
  have lt0 : ∀ x ∈ p0, x.block < W.heap.size := by obtain ⟨m, hm⟩ := k0; exact DataW.trod_lt m _ _ _ hm
  have k1 := h1
  have lt1 : ∀ x ∈ p1, x.block < W.heap.size := by obtain ⟨m, hm⟩ := k1; exact DataW.trod_lt m _ _ _ hm
  obtain ⟨a0, c0, L, rfl, hc0, hm0, hnil, hok, hr0⟩ := open_rows pcells _ 7 (by decide) Try.underlying37 (by kernel_rfl) pos_elem (fun _ => rfl) (hval 0 37 v0 rfl rfl) h0
  obtain ⟨at_, rfl, rfl, rfl, w1⟩ := open_int Try.underlying3 (hval 1 3 v1 rfl rfl) h1
  unfold maxLen at hm0
  clear hA0 hval0
  refine (lca_walk L a0 c0 at_ W hnil hc0 (by omega) hr0 (po_all hok)).mono fun e W' ⟨he, bel⟩ => ?_
  subst he
  exact ⟨_, rfl, _, _, _, [], _, [], hW', trodAll_mk1 (shut_bool Try.underlying4 _), (trodAll_cons_mk (Below.trod laid_out (by kernel_rfl) (of_decide_eq_true (by kernel_rfl)) k0 bel lt0) (trodAll_cons_mk (Below.trod laid_out (by kernel_rfl) (of_decide_eq_true (by kernel_rfl)) k1 bel lt1) trodAll_mk0)), rfl, bel.frame _, fun h => by cases h⟩

theorem lca_over : Rows.auditConsistentAgreesRow.holds Try.pinned (OpenSpec.ofChange Rows.auditConsistentAgreesSpec) :=
  OpenClaim.holds_of_wide 6 Try.f6 rfl rfl rfl rfl rfl rfl rfl ⟨rfl, rfl, rfl, rfl, rfl⟩ rfl rfl rfl rfl rfl (by kernel_rfl) Try.func6 (by kernel_rfl)
    (of_decide_eq_true (by kernel_rfl)) (by unfold Func.isWrapper; first | (rw [if_pos (by decide +kernel)]; kernel_rfl) | (rw [if_neg (by decide +kernel)]; exact ⟨rfl, rfl⟩))
    (fun os started H enc _ => lca_lifted os started H enc)

/-- The statement. -/
theorem lca_holds : Rows.AuditConsistentAgreesSaid := lca_over
#print axioms lca_holds
end Go.Proofs.Ytnlcgiemhegmcaa
