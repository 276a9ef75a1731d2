/-
  Facts on the program that every row's frame uses, and how a struct of plain numbers that came in is opened.
-/
import Derived.Test.YtkkjiihdmpngbaaAft
import Derived.ProofKit
import Derived.OpenShut
import Derived.ShutString
import Derived.ChangeOld
import Derived.Deep.Fields
namespace Go.Proofs.Ytkkjiihdmpngbaa
open Go.ChangeShapes Go.WideShapes Go.ChangeAt Go.RowKit Go.Deep

theorem own_knob : ownKnob Try.prog.godebug = none := by kernel_rfl
theorem laid_out : laidOutB Try.prog = true := by kernel_rfl
theorem one_int : Try.prog.cellsOf 3 = 1 := by kernel_rfl
theorem one_bool : Try.prog.cellsOf 4 = 1 := by kernel_rfl

section
variable {H : Type} {enc : TypeId × Value → H} {w : World} {base : Nat} {spare : Nat → Bool} {held : Bool}

/-- One integer field, by its place. -/
theorem fld_int {n : Nat} {t : TypeId} {cs : List Value} {off : Nat} {y : Option (DataW H × List MemPlace)} {ys : DataW H × List MemPlace} (ht : t = 3)
    (h : DataW.trod enc Try.prog w base spare held n t ((cs.drop off).take (Try.prog.cellsOf t)) = y) (hy : y = some ys) : ∃ x : Int, cs[off]? = some (.int .i64 x) ∧ (Lit.int .i64 x).wf = true := by
  subst ht hy
  obtain ⟨x, hx, _, hw⟩ := DataW.trod_int Try.underlying3 h
  rw [one_int] at hx
  refine ⟨x, ?_, hw⟩
  have : ((cs.drop off).take 1)[0]? = some (.int .i64 x) := by rw [hx]; rfl
  simpa using this
theorem fld_bool {n : Nat} {t : TypeId} {cs : List Value} {off : Nat} {y : Option (DataW H × List MemPlace)} {ys : DataW H × List MemPlace} (ht : t = 4)
    (h : DataW.trod enc Try.prog w base spare held n t ((cs.drop off).take (Try.prog.cellsOf t)) = y) (hy : y = some ys) : ∃ x : Bool, cs[off]? = some (.bool x) := by
  subst ht hy
  obtain ⟨x, hx, _⟩ := DataW.trod_bool Try.underlying4 h
  rw [one_bool] at hx
  refine ⟨x, ?_⟩
  have : ((cs.drop off).take 1)[0]? = some (.bool x) := by rw [hx]; rfl
  simpa using this
theorem i64_of_wf {x : Int} (h : (Lit.int .i64 x).wf = true) : -9223372036854775808 ≤ x ∧ x ≤ 9223372036854775807 := by
  simp [Lit.wf, IntKind.min, IntKind.max, IntKind.signed, IntKind.bits] at h
  omega
theorem some_of_lt {α : Type} {l : List α} {i : Nat} (h : i < l.length) : ∃ y, l[i]? = some y := ⟨_, List.getElem?_eq_getElem h⟩

theorem cells_Span : Try.prog.cellsOf 74 = 2 := by kernel_rfl

set_option maxRecDepth 100000 in
theorem open_hand {r : Reach} {b0 : Nat} {v : Value} {d : DataW H} {p : List MemPlace} (hv : Value.okWide Try.prog w r b0 30 v) (h : DataW.Trod enc Try.prog w base spare held 30 v d p) :
    ∃ (r0 : Int) (r1 : Int) (r2 : Int) (r3 : Bool) (r4 : Int) (r5 : Int) (r6 : Int) (r7 : Int) (r8 : Int) (r9 : Int) (r10 : Int) (r11 : Int) (r12 : Int), v = .agg #[.int .i64 r0, .int .i64 r1, .int .i64 r2, .bool r3, .int .i64 r4, .int .i64 r5, .int .i64 r6, .int .i64 r7, .int .i64 r8, .int .i64 r9, .int .i64 r10, .int .i64 r11, .int .i64 r12] ∧ (-9223372036854775808 ≤ r0 ∧ r0 ≤ 9223372036854775807) ∧ (-9223372036854775808 ≤ r1 ∧ r1 ≤ 9223372036854775807) ∧ (-9223372036854775808 ≤ r2 ∧ r2 ≤ 9223372036854775807) ∧ (-9223372036854775808 ≤ r4 ∧ r4 ≤ 9223372036854775807) ∧ (-9223372036854775808 ≤ r5 ∧ r5 ≤ 9223372036854775807) ∧ (-9223372036854775808 ≤ r6 ∧ r6 ≤ 9223372036854775807) ∧ (-9223372036854775808 ≤ r7 ∧ r7 ≤ 9223372036854775807) ∧ (-9223372036854775808 ≤ r8 ∧ r8 ≤ 9223372036854775807) ∧ (-9223372036854775808 ≤ r9 ∧ r9 ≤ 9223372036854775807) ∧ (-9223372036854775808 ≤ r10 ∧ r10 ≤ 9223372036854775807) ∧ (-9223372036854775808 ≤ r11 ∧ r11 ≤ 9223372036854775807) ∧ (-9223372036854775808 ≤ r12 ∧ r12 ≤ 9223372036854775807) := by
  obtain ⟨cs, rfl, hsz⟩ := okWide_struct Try.underlying30 hv
  obtain ⟨l⟩ := cs
  have hlen : l.length = 13 := hsz.trans (by kernel_rfl)
  obtain ⟨fuel, hf⟩ := h
  obtain ⟨xs, m, _, _, _, hxl, hg⟩ := DataW.trod_struct Try.underlying30 hf
  have hxm : xs.length = 13 := hxl
  obtain ⟨y0, hy0⟩ := some_of_lt (l := xs) (i := 0) (by omega)
  obtain ⟨r0, e0, w0⟩ := fld_int rfl (hg 0 _ rfl) hy0
  obtain ⟨y1, hy1⟩ := some_of_lt (l := xs) (i := 1) (by omega)
  obtain ⟨r1, e1, w1⟩ := fld_int rfl (hg 1 _ rfl) hy1
  obtain ⟨y2, hy2⟩ := some_of_lt (l := xs) (i := 2) (by omega)
  obtain ⟨r2, e2, w2⟩ := fld_int rfl (hg 2 _ rfl) hy2
  obtain ⟨y3, hy3⟩ := some_of_lt (l := xs) (i := 3) (by omega)
  obtain ⟨r3, e3⟩ := fld_bool rfl (hg 3 _ rfl) hy3
  obtain ⟨y4, hy4⟩ := some_of_lt (l := xs) (i := 4) (by omega)
  obtain ⟨r4, e4, w4⟩ := fld_int rfl (hg 4 _ rfl) hy4
  obtain ⟨y5, hy5⟩ := some_of_lt (l := xs) (i := 5) (by omega)
  obtain ⟨r5, e5, w5⟩ := fld_int rfl (hg 5 _ rfl) hy5
  obtain ⟨y6, hy6⟩ := some_of_lt (l := xs) (i := 6) (by omega)
  obtain ⟨r6, e6, w6⟩ := fld_int rfl (hg 6 _ rfl) hy6
  obtain ⟨y7, hy7⟩ := some_of_lt (l := xs) (i := 7) (by omega)
  obtain ⟨r7, e7, w7⟩ := fld_int rfl (hg 7 _ rfl) hy7
  obtain ⟨y8, hy8⟩ := some_of_lt (l := xs) (i := 8) (by omega)
  obtain ⟨r8, e8, w8⟩ := fld_int rfl (hg 8 _ rfl) hy8
  obtain ⟨y9, hy9⟩ := some_of_lt (l := xs) (i := 9) (by omega)
  obtain ⟨r9, e9, w9⟩ := fld_int rfl (hg 9 _ rfl) hy9
  obtain ⟨y10, hy10⟩ := some_of_lt (l := xs) (i := 10) (by omega)
  obtain ⟨r10, e10, w10⟩ := fld_int rfl (hg 10 _ rfl) hy10
  obtain ⟨y11, hy11⟩ := some_of_lt (l := xs) (i := 11) (by omega)
  obtain ⟨r11, e11, w11⟩ := fld_int rfl (hg 11 _ rfl) hy11
  obtain ⟨y12, hy12⟩ := some_of_lt (l := xs) (i := 12) (by omega)
  obtain ⟨r12, e12, w12⟩ := fld_int rfl (hg 12 _ rfl) hy12
  match l, hlen with
  | [c0, c1, c2, c3, c4, c5, c6, c7, c8, c9, c10, c11, c12], _ =>
    simp [Value.cells] at e0 e1 e2 e3 e4 e5 e6 e7 e8 e9 e10 e11 e12
    subst e0 e1 e2 e3 e4 e5 e6 e7 e8 e9 e10 e11 e12
    exact ⟨r0, r1, r2, r3, r4, r5, r6, r7, r8, r9, r10, r11, r12, rfl, i64_of_wf w0, i64_of_wf w1, i64_of_wf w2, i64_of_wf w4, i64_of_wf w5, i64_of_wf w6, i64_of_wf w7, i64_of_wf w8, i64_of_wf w9, i64_of_wf w10, i64_of_wf w11, i64_of_wf w12⟩

set_option maxRecDepth 100000 in
theorem open_fact {r : Reach} {b0 : Nat} {v : Value} {d : DataW H} {p : List MemPlace} (hv : Value.okWide Try.prog w r b0 76 v) (h : DataW.Trod enc Try.prog w base spare held 76 v d p) :
    ∃ (a0 : Int) (a1 : Int) (a2 : Int) (a3 : Bool) (a4 : Int) (a5 : Int) (a6 : Int) (a7 : Int) (a8 : Int) (a9 : Int) (a10 : Int) (a11 : Int) (a12 : Int) (a13 : Int), v = .agg #[.int .i64 a0, .int .i64 a1, .int .i64 a2, .bool a3, .int .i64 a4, .int .i64 a5, .int .i64 a6, .int .i64 a7, .int .i64 a8, .int .i64 a9, .int .i64 a10, .int .i64 a11, .int .i64 a12, .int .i64 a13] ∧ (-9223372036854775808 ≤ a0 ∧ a0 ≤ 9223372036854775807) ∧ (-9223372036854775808 ≤ a1 ∧ a1 ≤ 9223372036854775807) ∧ (-9223372036854775808 ≤ a2 ∧ a2 ≤ 9223372036854775807) ∧ (-9223372036854775808 ≤ a4 ∧ a4 ≤ 9223372036854775807) ∧ (-9223372036854775808 ≤ a5 ∧ a5 ≤ 9223372036854775807) ∧ (-9223372036854775808 ≤ a6 ∧ a6 ≤ 9223372036854775807) ∧ (-9223372036854775808 ≤ a7 ∧ a7 ≤ 9223372036854775807) ∧ (-9223372036854775808 ≤ a8 ∧ a8 ≤ 9223372036854775807) ∧ (-9223372036854775808 ≤ a9 ∧ a9 ≤ 9223372036854775807) ∧ (-9223372036854775808 ≤ a10 ∧ a10 ≤ 9223372036854775807) ∧ (-9223372036854775808 ≤ a11 ∧ a11 ≤ 9223372036854775807) ∧ (-9223372036854775808 ≤ a12 ∧ a12 ≤ 9223372036854775807) ∧ (-9223372036854775808 ≤ a13 ∧ a13 ≤ 9223372036854775807) := by
  obtain ⟨cs, rfl, hsz⟩ := okWide_struct Try.underlying76 hv
  obtain ⟨l⟩ := cs
  have hlen : l.length = 14 := hsz.trans (by kernel_rfl)
  obtain ⟨fuel, hf⟩ := h
  obtain ⟨xs, m, _, _, _, hxl, hg⟩ := DataW.trod_struct Try.underlying76 hf
  have hxm : xs.length = 13 := hxl
  obtain ⟨y0, hy0⟩ := some_of_lt (l := xs) (i := 0) (by omega)
  obtain ⟨a0, e0, w0⟩ := fld_int rfl (hg 0 _ rfl) hy0
  obtain ⟨y1, hy1⟩ := some_of_lt (l := xs) (i := 1) (by omega)
  obtain ⟨a1, e1, w1⟩ := fld_int rfl (hg 1 _ rfl) hy1
  obtain ⟨y2, hy2⟩ := some_of_lt (l := xs) (i := 2) (by omega)
  obtain ⟨a2, e2, w2⟩ := fld_int rfl (hg 2 _ rfl) hy2
  obtain ⟨y3, hy3⟩ := some_of_lt (l := xs) (i := 3) (by omega)
  obtain ⟨a3, e3⟩ := fld_bool rfl (hg 3 _ rfl) hy3
  obtain ⟨y4, hy4⟩ := some_of_lt (l := xs) (i := 4) (by omega)
  obtain ⟨a4, e4, w4⟩ := fld_int rfl (hg 4 _ rfl) hy4
  obtain ⟨y5, hy5⟩ := some_of_lt (l := xs) (i := 5) (by omega)
  obtain ⟨a5, e5, w5⟩ := fld_int rfl (hg 5 _ rfl) hy5
  obtain ⟨y6, hy6⟩ := some_of_lt (l := xs) (i := 6) (by omega)
  obtain ⟨a6, e6, w6⟩ := fld_int rfl (hg 6 _ rfl) hy6
  obtain ⟨y7, hy7⟩ := some_of_lt (l := xs) (i := 7) (by omega)
  have hq7 := (hg 7 _ rfl).trans hy7
  obtain ⟨xs7x, m7x, _, _, _, hxl7x, hg7x⟩ := DataW.trod_struct Try.underlying74 hq7
  have hxm7x : xs7x.length = 2 := hxl7x
  obtain ⟨y7x0, hy7x0⟩ := some_of_lt (l := xs7x) (i := 0) (by omega)
  obtain ⟨a7, e7, w7⟩ := fld_int rfl (hg7x 0 _ rfl) hy7x0
  obtain ⟨y7x1, hy7x1⟩ := some_of_lt (l := xs7x) (i := 1) (by omega)
  obtain ⟨a8, e8, w8⟩ := fld_int rfl (hg7x 1 _ rfl) hy7x1
  obtain ⟨y8, hy8⟩ := some_of_lt (l := xs) (i := 8) (by omega)
  obtain ⟨a9, e9, w9⟩ := fld_int rfl (hg 8 _ rfl) hy8
  obtain ⟨y9, hy9⟩ := some_of_lt (l := xs) (i := 9) (by omega)
  obtain ⟨a10, e10, w10⟩ := fld_int rfl (hg 9 _ rfl) hy9
  obtain ⟨y10, hy10⟩ := some_of_lt (l := xs) (i := 10) (by omega)
  obtain ⟨a11, e11, w11⟩ := fld_int rfl (hg 10 _ rfl) hy10
  obtain ⟨y11, hy11⟩ := some_of_lt (l := xs) (i := 11) (by omega)
  obtain ⟨a12, e12, w12⟩ := fld_int rfl (hg 11 _ rfl) hy11
  obtain ⟨y12, hy12⟩ := some_of_lt (l := xs) (i := 12) (by omega)
  obtain ⟨a13, e13, w13⟩ := fld_int rfl (hg 12 _ rfl) hy12
  match l, hlen with
  | [c0, c1, c2, c3, c4, c5, c6, c7, c8, c9, c10, c11, c12, c13], _ =>
    simp [Value.cells, cells_Span] at e0 e1 e2 e3 e4 e5 e6 e7 e8 e9 e10 e11 e12 e13
    subst e0 e1 e2 e3 e4 e5 e6 e7 e8 e9 e10 e11 e12 e13
    exact ⟨a0, a1, a2, a3, a4, a5, a6, a7, a8, a9, a10, a11, a12, a13, rfl, i64_of_wf w0, i64_of_wf w1, i64_of_wf w2, i64_of_wf w4, i64_of_wf w5, i64_of_wf w6, i64_of_wf w7, i64_of_wf w8, i64_of_wf w9, i64_of_wf w10, i64_of_wf w11, i64_of_wf w12, i64_of_wf w13⟩

end
end Go.Proofs.Ytkkjiihdmpngbaa
