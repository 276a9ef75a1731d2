/-
  AuditUnsoundAgrees: Unsound agrees with the reference, for lines of few states and for any lines. No conditions.
-/
import Derived.Test.YtnlcgiemhegmcaaAg1
import Derived.Test.YtnlcgiemhegmcaaAh1
namespace Go.Proofs.Ytnlcgiemhegmcaa
open Go.ChangeShapes Go.WideShapes Go.ChangeAt Go.RowKit
set_option linter.unusedVariables false

theorem beq_self (l : List Int) : (l == l) = true := by simp
theorem unsL_len (L : List Ln) : (unsL L).length ≤ L.length := by
  rw [uns_badR]
  have := List.length_filter_le (badR L) (List.range L.length)
  simpa using this
set_option maxRecDepth 100000 in
set_option maxHeartbeats 1000000 in
theorem lua_walk (R L : List Ln) (v0 : Value) (a : Option Addr) (c : Nat) (w : World) (h0 : Lns w.heap.size w v0 R) (h1 : Lns w.heap.size w (.slice a L.length c) L) (hR : R.length ≤ 9223372036854775807) (hLR : LnsR L) (hLn : L.length ≤ 9223372036854775807) :
    Calls Try.prog 3 #[v0, .slice a L.length c] w fun e w' => e = .returned (.bool true) ∧ Below w.heap.size w w' := by
  have H0 := Lib.hid h0
  have H1 := Lib.hid h1
  have HLR := Lib.hid hLR
  clear h0 h1 hLR
  by_cases hbig : 40 < L.length
  · have hb' : (40 : Int) < (L.length : Int) := by omega
    go_enter Try.func3, Try.ntmps3
    go_wp2_with fail
    refine (awake_any _).mono ?_
    rintro e w1 ⟨rfl, hb1⟩
    go_wp2
    go_ret
    exact ⟨rfl, hb1⟩
  · have hb' : (L.length : Int) ≤ 40 := by omega
    have hL40 : L.length ≤ 40 := by omega
    clear hbig hLn
    go_enter Try.func3, Try.ntmps3
    go_wp2_with fail
    refine (lines_any R v0 _ H0.out hR).mono ?_
    rintro e w1 ⟨v1, K, rfl, hown1, hK20, hKR, hb1⟩
    have HK := Lib.hid (Lns.of_own hown1)
    have HKR := Lib.hid hKR
    clear hown1 hKR
    go_wp2_with fail
    refine (awake_any _).mono ?_
    rintro e w2 ⟨rfl, hb2⟩
    replace hb1 := bnext hb1 hb2
    have hk := hb2
    clear hb2
    go_wp2_with fail
    refine (unsound_any K _ _ ((HK.out.below hk).mono hk.size) HKR.out (by omega)).mono ?_
    rintro e w3 ⟨v3, rfl, hown3, hb3⟩
    replace hb1 := bnext hb1 hb3
    replace hk := bnext hk hb3
    have I3 := Lib.hid (Ins.of_own hown3)
    clear hb3 hown3
    go_wp2_with fail
    refine (runsound_any K _ _ ((HK.out.below hk).mono hk.size) (by omega)).mono ?_
    rintro e w4 ⟨v4, rfl, hown4, hb4⟩
    replace hb1 := bnext hb1 hb4
    have I4 := Lib.hid (Ins.of_own hown4)
    have I3' := Lib.hid (I3.out.below hb4)
    clear hb4 hown4 I3
    have hlu := unsL_len K
    go_wp2_with fail
    refine (ints_any _ _ _ _ _ I3'.out I4.out (by simp [ofN]; omega) (by simp [ofN]; omega)).mono ?_
    rintro e w5 ⟨rfl, hb5⟩
    rw [beq_self]
    replace hb1 := bnext hb1 hb5
    clear hb5 I3' I4 hlu hk
    go_wp2_with fail
    refine (unsound_any L _ _ ((H1.out.below hb1).mono hb1.size) HLR.out (by omega)).mono ?_
    rintro e w6 ⟨v6, rfl, hown6, hb6⟩
    replace hb1 := bnext hb1 hb6
    have I6 := Lib.hid (Ins.of_own hown6)
    clear hb6 hown6
    go_wp2_with fail
    refine (runsound_any L _ _ ((H1.out.below hb1).mono hb1.size) (by omega)).mono ?_
    rintro e w7 ⟨v7, rfl, hown7, hb7⟩
    replace hb1 := bnext hb1 hb7
    have I7 := Lib.hid (Ins.of_own hown7)
    have I6' := Lib.hid (I6.out.below hb7)
    clear hb7 hown7 I6
    have hlu := unsL_len L
    go_wp2_with fail
    refine (ints_any _ _ _ _ _ I6'.out I7.out (by simp [ofN]; omega) (by simp [ofN]; omega)).mono ?_
    rintro e w8 ⟨rfl, hb8⟩
    rw [beq_self]
    replace hb1 := bnext hb1 hb8
    go_wp2
    go_ret
    exact ⟨rfl, hb1⟩

set_option maxRecDepth 100000 in
theorem lua_lifted (os : Os) (started : os.Started) (H : Type) (enc : TypeId × Value → H) :
    ReturnsInHanded {} Try.checked os 3 .any (Rows.auditUnsoundAgreesSpec.pre6 enc Try.prog Try.f3 Rows.auditUnsoundAgreesRow.domain false) (Rows.auditUnsoundAgreesSpec.post enc Try.prog Try.f3 false true false false) := by
  refine returnsInHanded_of_change_sized (C := Try.checked) own_knob started (by kernel_rfl) Try.func3
    (ChangeSpec.witness6 (enc := enc) (C := Try.checked) false ⟨#[], #[.slice none 0 0, .slice none 0 0], []⟩ 8 (by kernel_rfl) (by kernel_rfl) (by kernel_rfl) (by kernel_rfl)) ?_
  intro W base args ds gs before hval0 hW hcnd hsz0 _
  have hval : ∀ (j : Nat) t v, Try.f3.params[j]? = some t → args[j]? = some v → Value.okWide Try.prog W .any base t v := hval0
  have hsz : (DataW.weightsEach Try.prog (Try.f3.params.toList ++ Rows.auditUnsoundAgreesSpec.plain.varTypes Try.prog) (ds ++ gs)).all (· ≤ reachBytes) = true := hsz0
  have hW' := hW
  obtain ⟨p, q, hA0, hV, rfl, hfz, hnd⟩ := hW
  have hA : DataW.TrodAll enc Try.prog W 0 (fun _ => true) true Try.f3.params.toList args.toList ds p := hA0
  rw [Try.params3] at hA hval hsz
  obtain ⟨v0, vs0, d0, ds0, p0, q0, hargs, rfl, rfl, h0, tl0⟩ := trodAll_cons hA
  obtain ⟨v1, vs1, d1, ds1, p1, q1, rfl, rfl, rfl, h1, tl1⟩ := trodAll_cons tl0
  obtain ⟨rfl, rfl, rfl⟩ := trodAll_nil tl1
  obtain rfl : args = #[v0, v1] := by cases args; simp_all
  obtain ⟨rfl, rfl⟩ := trodVars_none hV
  have k0 := h0
  have lt0 : ∀ x ∈ p0, x.block < W.heap.size := by obtain ⟨m, hm⟩ := k0; exact DataW.trod_lt m _ _ _ hm
  have k1 := h1
  have lt1 : ∀ x ∈ p1, x.block < W.heap.size := by obtain ⟨m, hm⟩ := k1; exact DataW.trod_lt m _ _ _ hm
  obtain ⟨a0, c0, R, rfl, hc0, hm0, _, _, hr0⟩ := open_rows (fun x : Ln => lcells x.s x.b x.it x.n x.d) (fun _ => True) 5 (by decide) Try.underlying22 (by kernel_rfl) raw_elem (fun _ => rfl) (hval 0 22 v0 rfl rfl) h0
  obtain ⟨a1, c1, L, rfl, hc1, hm1, _, hok1, hr1⟩ := open_rows (fun x : Ln => lcells x.s x.b x.it x.n x.d) _ 5 (by decide) Try.underlying23 (by kernel_rfl) lines_elem (fun _ => rfl) (hval 1 23 v1 rfl rfl) h1
  unfold maxLen at hm0 hm1
  clear hA0 hval0
  refine (lua_walk R L _ a1 c1 W (Lns.of_rows hc0 hr0) (Lns.of_rows hc1 hr1) (by omega) (LnsR.of_all hok1) (by omega)).mono fun e W' ⟨he, bel⟩ => ?_
  subst he
  exact ⟨_, rfl, _, _, _, [], _, [], hW', trodAll_mk1 (shut_bool Try.underlying4 _), (trodAll_cons_mk (Below.trod laid_out (by kernel_rfl) (of_decide_eq_true (by kernel_rfl)) k0 bel lt0) (trodAll_cons_mk (Below.trod laid_out (by kernel_rfl) (of_decide_eq_true (by kernel_rfl)) k1 bel lt1) trodAll_mk0)), rfl, bel.frame _, fun h => by cases h⟩

theorem lua_over : Rows.auditUnsoundAgreesRow.holds Try.pinned (OpenSpec.ofChange Rows.auditUnsoundAgreesSpec) :=
  OpenClaim.holds_of_wide 3 Try.f3 rfl rfl rfl rfl rfl rfl rfl ⟨rfl, rfl, rfl, rfl, rfl⟩ rfl rfl rfl rfl rfl (by kernel_rfl) Try.func3 (by kernel_rfl)
    (of_decide_eq_true (by kernel_rfl)) (by unfold Func.isWrapper; first | (rw [if_pos (by decide +kernel)]; kernel_rfl) | (rw [if_neg (by decide +kernel)]; exact ⟨rfl, rfl⟩))
    (fun os started H enc _ => lua_lifted os started H enc)

/-- The statement. -/
theorem lua_holds : Rows.AuditUnsoundAgreesSaid := lua_over
#print axioms lua_holds
end Go.Proofs.Ytnlcgiemhegmcaa
