/-
  DocumentDecodeAgrees: Decode agrees with the reference for bytes of any content and length. No conditions.
-/
import Derived.Test.YtkkjiihdmpngbaaDh2
import Derived.Test.YtkkjiihdmpngbaaLfr
import Derived.SizedLaws
namespace Go.Proofs.Ytkkjiihdmpngbaa
open Go.ChangeShapes Go.WideShapes Go.ChangeAt Go.RowKit
set_option linter.unusedVariables false

set_option maxRecDepth 100000 in
set_option maxHeartbeats 1000000 in
theorem ldec_walk (a : Option Addr) (c : Nat) (l : List UInt8) (w : World) (hsl : Sl w.heap.size w (.slice a l.length c) l) (hl : l.length ≤ 140737488351232) :
    Calls Try.prog 9 #[.slice a l.length c] w fun e w' => e = .returned (.bool true) ∧ Below w.heap.size w w' := by
  have HSL := Lib.hid hsl
  clear hsl
  go_enter Try.func9, Try.ntmps9
  go_wp2_with fail
  refine (decode_any _ l _ HSL.out hl).mono ?_
  rintro e w1 ⟨y, rfl, hy, hb1⟩
  obtain ⟨ay, ny, cy, hvy⟩ := hy.shape
  subst hvy
  simp only [docV]
  have hd := BlkIs.new w1 34 #[.int .i64 (rS l), .int .i64 (rN l), .int .i64 (rK l), .int .u32 (rP l), .slice ay ny cy]
  have hA : Below w1.heap.size w1 (w1.alloc (.cells #[.int .i64 (rS l), .int .i64 (rN l), .int .i64 (rK l), .int .u32 (rP l), .slice ay ny cy] 34)) := (Below.refl _ _).alloc (Nat.le_refl _) _
  have hbel := bnext hb1 hA
  have QY := Lib.hid (hy.next hA)
  clear hb1 hA hy
  go_wp2_with fail
  refine (rdecode_any _ l _ ((HSL.out.below hbel).mono hbel.size) hl).mono ?_
  rintro e w2 ⟨z, rfl, hz, hb2⟩
  obtain ⟨az, nz, cz, hvz⟩ := hz.shape
  subst hvz
  simp only [docV]
  replace hd := hd.below hb2 hd.lt
  replace hbel := bnext hbel hb2
  have QY2 := Lib.hid (QY.out.next hb2)
  clear QY hb2
  have hf := BlkIs.new w2 34 #[.int .i64 (rS l), .int .i64 (rN l), .int .i64 (rK l), .int .u32 (rP l), .slice az nz cz]
  have hA : Below w2.heap.size w2 (w2.alloc (.cells #[.int .i64 (rS l), .int .i64 (rN l), .int .i64 (rK l), .int .u32 (rP l), .slice az nz cz] 34)) := (Below.refl _ _).alloc (Nat.le_refl _) _
  replace hd := hd.below hA hd.lt
  replace hbel := bnext hbel hA
  have QY3 := Lib.hid (QY2.out.next hA)
  have QZ := Lib.hid (hz.next hA)
  clear QY2 hA hz
  go_wp2_with fail
  generalize w2.alloc (.cells #[.int .i64 (rS l), .int .i64 (rN l), .int .i64 (rK l), .int .u32 (rP l), .slice az nz cz] 34) = W3 at *
  refine (awake_any _).mono ?_
  rintro e w4 ⟨rfl, hb4⟩
  replace hd := hd.below hb4 hd.lt
  replace hf := hf.below hb4 hf.lt
  replace hbel := bnext hbel hb4
  have QY4 := Lib.hid (QY3.out.next hb4)
  have QZ4 := Lib.hid (QZ.out.next hb4)
  clear QY3 QZ hb4
  generalize rS l = s at *
  generalize rN l = n at *
  generalize rK l = k at *
  generalize rP l = p at *
  generalize rE l = er at *
  have hcd := hd.cell
  have hcf := hf.cell
  go_wp2_with fail
  refine (same_eq s n k p _ _ _ _ QY4.out.1 QZ4.out.1).mono ?_
  rintro e w5 ⟨rfl, hb5⟩
  go_wp2
  go_ret
  exact ⟨rfl, bnext hbel hb5⟩

set_option maxRecDepth 100000 in
theorem ldec_lifted (os : Os) (started : os.Started) (H : Type) (enc : TypeId × Value → H) :
    ReturnsInHanded {} Try.checked os 9 .any (Rows.documentDecodeAgreesSpec.pre6 enc Try.prog Try.f9 Rows.documentDecodeAgreesRow.domain false) (Rows.documentDecodeAgreesSpec.post enc Try.prog Try.f9 false true false false) := by
  refine returnsInHanded_of_change_sized (C := Try.checked) own_knob started (by kernel_rfl) Try.func9
    (ChangeSpec.witness6 (enc := enc) (C := Try.checked) false ⟨#[], #[.slice none 0 0], []⟩ 8 (by kernel_rfl) (by kernel_rfl) (by kernel_rfl) (by kernel_rfl)) ?_
  intro W base args ds gs before hval0 hW hcnd hsz0 _
  have hval : ∀ (j : Nat) t v, Try.f9.params[j]? = some t → args[j]? = some v → Value.okWide Try.prog W .any base t v := hval0
  have hsz : (DataW.weightsEach Try.prog (Try.f9.params.toList ++ Rows.documentDecodeAgreesSpec.plain.varTypes Try.prog) (ds ++ gs)).all (· ≤ reachBytes) = true := hsz0
  have hW' := hW
  obtain ⟨p, q, hA0, hV, rfl, hfz, hnd⟩ := hW
  have hA : DataW.TrodAll enc Try.prog W 0 (fun _ => true) true Try.f9.params.toList args.toList ds p := hA0
  rw [Try.params9] at hA hval hsz
  obtain ⟨v0, vs0, d0, ds0, p0, q0, hargs, rfl, rfl, h0, tl0⟩ := trodAll_cons hA
  obtain ⟨rfl, rfl, rfl⟩ := trodAll_nil tl0
  obtain rfl : args = #[v0] := by cases args; simp_all
  obtain ⟨rfl, rfl⟩ := trodVars_none hV
  have k0 := h0
  have lt0 : ∀ x ∈ p0, x.block < W.heap.size := by obtain ⟨m, hm⟩ := k0; exact DataW.trod_lt m _ _ _ hm
  obtain ⟨a, c, l, rfl, hz, hsl, hw⟩ := open_bytes2 (hval 0 _ v0 rfl rfl) h0
  have hl := hw (each_all hsz (j := 0) rfl rfl)
  clear hA0 hval0
  refine (ldec_walk a c l W hsl hl).mono fun e W' ⟨he, bel⟩ => ?_
  subst he
  exact ⟨_, rfl, _, _, _, [], _, [], hW', trodAll_mk1 (shut_bool Try.underlying4 _), (trodAll_cons_mk (Below.trod laid_out (by kernel_rfl) (of_decide_eq_true (by kernel_rfl)) k0 bel lt0) trodAll_mk0), rfl, bel.frame _, fun h => by cases h⟩

theorem ldec_over : Rows.documentDecodeAgreesRow.holds Try.pinned (OpenSpec.ofChange Rows.documentDecodeAgreesSpec) :=
  OpenClaim.holds_of_wide 9 Try.f9 rfl rfl rfl rfl rfl rfl rfl ⟨rfl, rfl, rfl, rfl, rfl⟩ rfl rfl rfl rfl rfl (by kernel_rfl) Try.func9 (by kernel_rfl)
    (of_decide_eq_true (by kernel_rfl)) (by unfold Func.isWrapper; first | (rw [if_pos (by decide +kernel)]; kernel_rfl) | (rw [if_neg (by decide +kernel)]; exact ⟨rfl, rfl⟩))
    (fun os started H enc _ => ldec_lifted os started H enc)

/-- The statement. -/
theorem ldec_holds : Rows.DocumentDecodeAgreesSaid := ldec_over
#print axioms ldec_holds
end Go.Proofs.Ytkkjiihdmpngbaa
