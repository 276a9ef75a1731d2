/-
  DocumentEncodeRejects: Valid and Encode agree with the reference for documents of any content. No conditions.
-/
import Derived.Test.YtkkjiihdmpngbaaDh2
import Derived.Test.YtkkjiihdmpngbaaLfr
import Derived.SizedLaws
namespace Go.Proofs.Ytkkjiihdmpngbaa
open Go.ChangeShapes Go.WideShapes Go.ChangeAt Go.RowKit
set_option linter.unusedVariables false

set_option maxRecDepth 100000 in
set_option maxHeartbeats 2000000 in
theorem lrej_walk (s n k p : Int) (a : Option Addr) (c : Nat) (l : List UInt8) (w : World) (hp0 : 0 ≤ p) (hp1 : p < 4294967296) (hz : a = none → c = 0) (hsl : Sl w.heap.size w (.slice a l.length c) l) (hl : l.length ≤ 140737488351232) :
    Calls Try.prog 6 #[.agg #[.int .i64 s, .int .i64 n, .int .i64 k, .int .u32 p, .slice a l.length c]] w fun e w' => e = .returned (.bool true) ∧ Below w.heap.size w w' := by
  have hnil : ∀ c', (Value.slice a l.length c) = .slice none 0 c' → c' = 0 := by
    intro c' h
    injection h with h1 _ h3
    rw [← h3]
    exact hz h1
  have HNIL := Lib.hid hnil
  clear hnil
  have hbox := BlkIs.new w 34 #[.int .i64 s, .int .i64 n, .int .i64 k, .int .u32 p, .slice a l.length c]
  have hbel : Below w.heap.size w (w.alloc (.cells #[.int .i64 s, .int .i64 n, .int .i64 k, .int .u32 p, .slice a l.length c] 34)) := (Below.refl _ _).alloc (Nat.le_refl _) _
  have QS := Lib.hid ((hsl.below hbel).mono hbel.size)
  go_enter Try.func6, Try.ntmps6
  go_wp2_with fail
  refine (encode_any s n k p _ l _ QS.out HNIL.out (by omega) hp0 hp1).mono ?_
  rintro e w1 ⟨x, rfl, hownx, hb1⟩
  obtain ⟨ax, cx, hvx⟩ := own_len hownx
  subst hvx
  have QX := Lib.hid (Part1.of hownx)
  clear hownx
  replace hbox := hbox.below hb1 hbox.lt
  replace hbel := bnext hbel hb1
  have QS1 := Lib.hid ((QS.out.below hb1).mono hb1.size)
  clear QS hb1
  have hcb := hbox.cell
  go_wp2_with fail
  refine (rencode_any s n k p _ l _ QS1.out HNIL.out (by omega) hp0 hp1).mono ?_
  rintro e w2 ⟨y, rfl, howny, hb2⟩
  obtain ⟨ay, cy, hvy⟩ := own_len howny
  subst hvy
  have QY := Lib.hid (Part1.of howny)
  clear howny
  replace hbox := hbox.below hb2 hbox.lt
  replace hbel := bnext hbel hb2
  have QS2 := Lib.hid ((QS1.out.below hb2).mono hb2.size)
  have QX2 := Lib.hid (QX.out.next hb2)
  clear QS1 QX hb2 hcb
  generalize encO s n k p l = X at *
  generalize encE s n k p l = er at *
  generalize hxn : X.length = xn at *
  clear hxn
  go_wp2_with fail
  refine wp_region_ms [] [0, 3, 5, 16] [0, 1, 2, 4, 3, 5, 6, 7, 8, 9, 10, 11, 12, 13, 14, 15, 16, 17, 18] (by kernel_rfl) (by kernel_rfl) rfl (by decide) (by kernel_rfl) (fun _ _ _ _ _ h => h) ?_
  simp only [marked, List.getElem?_cons_zero, List.getElem?_cons_succ, List.contains_cons, List.contains_nil, Nat.reduceBEq, Bool.or_false, Bool.or_true, BEq.rfl]
  replace hbox := hbox.drew
  replace hbel := hbel.drew
  have QS3 : Hid (Sl w2.drew.heap.size w2.drew (.slice a l.length c) l) := QS2
  have QX3 : Hid (Part1 w2.drew (.slice ax xn cx) X) := QX2
  have QY3 : Hid (Part1 w2.drew (.slice ay xn cy) X) := QY
  clear QS2 QX2 QY
  generalize w2.drew = W at *
  refine ms_loud rfl ?_
  intro K hK
  go_simp
  go_at_call 17
  refine (awake_any _).mono ?_
  rintro e w3 ⟨rfl, hb3⟩
  refine hK _ _ (KeptBut.of_below hb3) ?_
  clear hK K
  replace hbox := hbox.below hb3 hbox.lt
  replace hbel := bnext hbel hb3
  have QS4 := Lib.hid ((QS3.out.below hb3).mono hb3.size)
  have QX4 := Lib.hid (QX3.out.next hb3)
  have QY4 := Lib.hid (QY3.out.next hb3)
  clear QS3 QX3 QY3 hb3
  have hcb := hbox.cell
  have hbl := hbox.lt
  iterate 3 (refine ms_quiet ?_; go_big_quiet_step (fail); refine wpQuiet_nil ?_)
  clear hcb hbl
  refine ms_loud rfl ?_
  intro K hK
  go_simp
  go_at_call 24
  refine (dvalid_any s n k p _ l _ QS4.out (by omega)).mono ?_
  rintro e w5 ⟨rfl, hb5⟩
  refine hK _ _ (KeptBut.of_below hb5) ?_
  clear hK K
  replace hbox := hbox.below hb5 hbox.lt
  replace hbel := bnext hbel hb5
  have QS5 := Lib.hid ((QS4.out.below hb5).mono hb5.size)
  have QX5 := Lib.hid (QX4.out.next hb5)
  have QY5 := Lib.hid (QY4.out.next hb5)
  clear QS4 QX4 QY4 hb5
  refine ms_loud rfl ?_
  intro K hK
  go_simp
  go_at_call 26
  refine (rvalidd_any s n k p _ l _ QS5.out (by omega)).mono ?_
  rintro e w6 ⟨rfl, hb6⟩
  refine hK _ _ (KeptBut.of_below hb6) ?_
  clear hK K
  replace hbox := hbox.below hb6 hbox.lt
  replace hbel := bnext hbel hb6
  have QX6 := Lib.hid (QX5.out.next hb6)
  have QY6 := Lib.hid (QY5.out.next hb6)
  clear QS5 QX5 QY5 hb6
  generalize docB s n k p l = db at *
  iterate 10 (refine ms_quiet ?_; go_big_quiet_step (fail); refine wpQuiet_nil ?_)
  have hXX : (X == X) = true := by simp
  refine ms_loud rfl ?_
  intro K hK
  go_simp
  go_at_call 25
  refine (pbytes_any _ _ X X _ _ QX6.out.1 QY6.out.1).mono ?_
  rintro e w7 ⟨rfl, rfl⟩
  rw [hXX]
  refine hK _ _ (KeptBut.refl _ _) ?_
  clear hK K
  iterate 2 (refine ms_quiet ?_; go_big_quiet_step (fail); refine wpQuiet_nil ?_)
  refine ms_nil ?_
  go_wp2
  go_ret
  exact ⟨rfl, hbel⟩

set_option maxRecDepth 100000 in
theorem lrej_lifted (os : Os) (started : os.Started) (H : Type) (enc : TypeId × Value → H) :
    ReturnsInHanded {} Try.checked os 6 .any (Rows.documentEncodeRejectsSpec.pre6 enc Try.prog Try.f6 Rows.documentEncodeRejectsRow.domain false) (Rows.documentEncodeRejectsSpec.post enc Try.prog Try.f6 false true false false) := by
  refine returnsInHanded_of_change_sized (C := Try.checked) own_knob started (by kernel_rfl) Try.func6
    (ChangeSpec.witness6 (enc := enc) (C := Try.checked) false ⟨#[], #[.agg #[.int .i64 0, .int .i64 0, .int .i64 0, .int .u32 0, .slice none 0 0]], []⟩ 8 (by kernel_rfl) (by kernel_rfl) (by kernel_rfl) (by kernel_rfl)) ?_
  intro W base args ds gs before hval0 hW hcnd hsz0 _
  have hval : ∀ (j : Nat) t v, Try.f6.params[j]? = some t → args[j]? = some v → Value.okWide Try.prog W .any base t v := hval0
  have hsz : (DataW.weightsEach Try.prog (Try.f6.params.toList ++ Rows.documentEncodeRejectsSpec.plain.varTypes Try.prog) (ds ++ gs)).all (· ≤ reachBytes) = true := hsz0
  have hW' := hW
  obtain ⟨p, q, hA0, hV, rfl, hfz, hnd⟩ := hW
  have hA : DataW.TrodAll enc Try.prog W 0 (fun _ => true) true Try.f6.params.toList args.toList ds p := hA0
  rw [Try.params6] at hA hval hsz
  obtain ⟨v0, vs0, d0, ds0, p0, q0, hargs, rfl, rfl, h0, tl0⟩ := trodAll_cons hA
  obtain ⟨rfl, rfl, rfl⟩ := trodAll_nil tl0
  obtain rfl : args = #[v0] := by cases args; simp_all
  obtain ⟨rfl, rfl⟩ := trodVars_none hV
  have k0 := h0
  have lt0 : ∀ x ∈ p0, x.block < W.heap.size := by obtain ⟨m, hm⟩ := k0; exact DataW.trod_lt m _ _ _ hm
  obtain ⟨s, n, k, q, a, c, l, rfl, hq, hz, hsl, hw⟩ := open_doc (hval 0 _ v0 rfl rfl) h0
  have hl := hw (each_all hsz (j := 0) rfl rfl)
  clear hA0 hval0
  refine (lrej_walk s n k q a c l W hq.1 hq.2 hz hsl hl).mono fun e W' ⟨he, bel⟩ => ?_
  subst he
  exact ⟨_, rfl, _, _, _, [], _, [], hW', trodAll_mk1 (shut_bool Try.underlying4 _), (trodAll_cons_mk (Below.trod laid_out (by kernel_rfl) (of_decide_eq_true (by kernel_rfl)) k0 bel lt0) trodAll_mk0), rfl, bel.frame _, fun h => by cases h⟩

theorem lrej_over : Rows.documentEncodeRejectsRow.holds Try.pinned (OpenSpec.ofChange Rows.documentEncodeRejectsSpec) :=
  OpenClaim.holds_of_wide 6 Try.f6 rfl rfl rfl rfl rfl rfl rfl ⟨rfl, rfl, rfl, rfl, rfl⟩ rfl rfl rfl rfl rfl (by kernel_rfl) Try.func6 (by kernel_rfl)
    (of_decide_eq_true (by kernel_rfl)) (by unfold Func.isWrapper; first | (rw [if_pos (by decide +kernel)]; kernel_rfl) | (rw [if_neg (by decide +kernel)]; exact ⟨rfl, rfl⟩))
    (fun os started H enc _ => lrej_lifted os started H enc)

/-- The statement. -/
theorem lrej_holds : Rows.DocumentEncodeRejectsSaid := lrej_over
#print axioms lrej_holds
end Go.Proofs.Ytkkjiihdmpngbaa
