/-
  How the arguments of the laws are opened.
-/
import Derived.Test.YtkkjiihdmpngbaaFrb
import Derived.SizedLaws
namespace Go.Proofs.Ytkkjiihdmpngbaa
open Go.ChangeShapes Go.WideShapes Go.ChangeAt Go.RowKit Go.Deep

section
variable {H : Type} {enc : TypeId × Value → H} {w : World} {base : Nat} {spare : Nat → Bool} {held : Bool}

theorem cells_Fact : Try.prog.cellsOf 30 = 13 := by kernel_rfl
theorem one_u32 : Try.prog.cellsOf 24 = 1 := by kernel_rfl
theorem one_sl : Try.prog.cellsOf 22 = 1 := by kernel_rfl
theorem byte_u8 : Try.prog.bytesOf 5 = 1 := by kernel_rfl

set_option maxRecDepth 100000 in
theorem open_claim {r : Reach} {b0 : Nat} {v : Value} {d : DataW H} {p : List MemPlace} (hv : Value.okWide Try.prog w r b0 62 v) (h : DataW.Trod enc Try.prog w base spare held 62 v d p) :
    ∃ (x0 : Int) (x1 : Int) (x2 : Int) (x3 : Int) (x4 : Int) (x5 : Int), v = .agg #[.int .i64 x0, .int .i64 x1, .int .i64 x2, .int .i64 x3, .int .i64 x4, .int .i64 x5] ∧ (-9223372036854775808 ≤ x0 ∧ x0 ≤ 9223372036854775807) ∧ (-9223372036854775808 ≤ x1 ∧ x1 ≤ 9223372036854775807) ∧ (-9223372036854775808 ≤ x2 ∧ x2 ≤ 9223372036854775807) ∧ (-9223372036854775808 ≤ x3 ∧ x3 ≤ 9223372036854775807) ∧ (-9223372036854775808 ≤ x4 ∧ x4 ≤ 9223372036854775807) ∧ (-9223372036854775808 ≤ x5 ∧ x5 ≤ 9223372036854775807) := by
  obtain ⟨cs, rfl, hsz⟩ := okWide_struct Try.underlying62 hv
  obtain ⟨l⟩ := cs
  have hlen : l.length = 6 := hsz.trans (by kernel_rfl)
  obtain ⟨fuel, hf⟩ := h
  obtain ⟨xs, m, _, _, _, hxl, hg⟩ := DataW.trod_struct Try.underlying62 hf
  have hxm : xs.length = 6 := hxl
  obtain ⟨y0, hy0⟩ := some_of_lt (l := xs) (i := 0) (by omega)
  obtain ⟨x0, e0, w0⟩ := fld_int rfl (hg 0 _ rfl) hy0
  obtain ⟨y1, hy1⟩ := some_of_lt (l := xs) (i := 1) (by omega)
  obtain ⟨x1, e1, w1⟩ := fld_int rfl (hg 1 _ rfl) hy1
  obtain ⟨y2, hy2⟩ := some_of_lt (l := xs) (i := 2) (by omega)
  obtain ⟨x2, e2, w2⟩ := fld_int rfl (hg 2 _ rfl) hy2
  obtain ⟨y3, hy3⟩ := some_of_lt (l := xs) (i := 3) (by omega)
  obtain ⟨x3, e3, w3⟩ := fld_int rfl (hg 3 _ rfl) hy3
  obtain ⟨y4, hy4⟩ := some_of_lt (l := xs) (i := 4) (by omega)
  obtain ⟨x4, e4, w4⟩ := fld_int rfl (hg 4 _ rfl) hy4
  obtain ⟨y5, hy5⟩ := some_of_lt (l := xs) (i := 5) (by omega)
  obtain ⟨x5, e5, w5⟩ := fld_int rfl (hg 5 _ rfl) hy5
  match l, hlen with
  | [c0, c1, c2, c3, c4, c5], _ =>
    simp [Value.cells] at e0 e1 e2 e3 e4 e5
    subst e0 e1 e2 e3 e4 e5
    exact ⟨x0, x1, x2, x3, x4, x5, rfl, i64_of_wf w0, i64_of_wf w1, i64_of_wf w2, i64_of_wf w3, i64_of_wf w4, i64_of_wf w5⟩

set_option maxRecDepth 100000 in
theorem open_request {r : Reach} {b0 : Nat} {v : Value} {d : DataW H} {p : List MemPlace} (hv : Value.okWide Try.prog w r b0 48 v) (h : DataW.Trod enc Try.prog w base spare held 48 v d p) :
    ∃ (x0 : Int) (x1 : Int) (x2 : Int), v = .agg #[.int .i64 x0, .int .i64 x1, .int .i64 x2] ∧ (-9223372036854775808 ≤ x0 ∧ x0 ≤ 9223372036854775807) ∧ (-9223372036854775808 ≤ x1 ∧ x1 ≤ 9223372036854775807) ∧ (-9223372036854775808 ≤ x2 ∧ x2 ≤ 9223372036854775807) := by
  obtain ⟨cs, rfl, hsz⟩ := okWide_struct Try.underlying48 hv
  obtain ⟨l⟩ := cs
  have hlen : l.length = 3 := hsz.trans (by kernel_rfl)
  obtain ⟨fuel, hf⟩ := h
  obtain ⟨xs, m, _, _, _, hxl, hg⟩ := DataW.trod_struct Try.underlying48 hf
  have hxm : xs.length = 3 := hxl
  obtain ⟨y0, hy0⟩ := some_of_lt (l := xs) (i := 0) (by omega)
  obtain ⟨x0, e0, w0⟩ := fld_int rfl (hg 0 _ rfl) hy0
  obtain ⟨y1, hy1⟩ := some_of_lt (l := xs) (i := 1) (by omega)
  obtain ⟨x1, e1, w1⟩ := fld_int rfl (hg 1 _ rfl) hy1
  obtain ⟨y2, hy2⟩ := some_of_lt (l := xs) (i := 2) (by omega)
  obtain ⟨x2, e2, w2⟩ := fld_int rfl (hg 2 _ rfl) hy2
  match l, hlen with
  | [c0, c1, c2], _ =>
    simp [Value.cells] at e0 e1 e2
    subst e0 e1 e2
    exact ⟨x0, x1, x2, rfl, i64_of_wf w0, i64_of_wf w1, i64_of_wf w2⟩

set_option maxRecDepth 100000 in
theorem open_remittance {r : Reach} {b0 : Nat} {v : Value} {d : DataW H} {p : List MemPlace} (hv : Value.okWide Try.prog w r b0 52 v) (h : DataW.Trod enc Try.prog w base spare held 52 v d p) :
    ∃ (x0 : Int) (x1 : Int) (x2 : Int) (x3 : Int) (x4 : Int) (x5 : Int), v = .agg #[.int .i64 x0, .int .i64 x1, .int .i64 x2, .int .i64 x3, .int .i64 x4, .int .i64 x5] ∧ (-9223372036854775808 ≤ x0 ∧ x0 ≤ 9223372036854775807) ∧ (-9223372036854775808 ≤ x1 ∧ x1 ≤ 9223372036854775807) ∧ (-9223372036854775808 ≤ x2 ∧ x2 ≤ 9223372036854775807) ∧ (-9223372036854775808 ≤ x3 ∧ x3 ≤ 9223372036854775807) ∧ (-9223372036854775808 ≤ x4 ∧ x4 ≤ 9223372036854775807) ∧ (-9223372036854775808 ≤ x5 ∧ x5 ≤ 9223372036854775807) := by
  obtain ⟨cs, rfl, hsz⟩ := okWide_struct Try.underlying52 hv
  obtain ⟨l⟩ := cs
  have hlen : l.length = 6 := hsz.trans (by kernel_rfl)
  obtain ⟨fuel, hf⟩ := h
  obtain ⟨xs, m, _, _, _, hxl, hg⟩ := DataW.trod_struct Try.underlying52 hf
  have hxm : xs.length = 6 := hxl
  obtain ⟨y0, hy0⟩ := some_of_lt (l := xs) (i := 0) (by omega)
  obtain ⟨x0, e0, w0⟩ := fld_int rfl (hg 0 _ rfl) hy0
  obtain ⟨y1, hy1⟩ := some_of_lt (l := xs) (i := 1) (by omega)
  obtain ⟨x1, e1, w1⟩ := fld_int rfl (hg 1 _ rfl) hy1
  obtain ⟨y2, hy2⟩ := some_of_lt (l := xs) (i := 2) (by omega)
  obtain ⟨x2, e2, w2⟩ := fld_int rfl (hg 2 _ rfl) hy2
  obtain ⟨y3, hy3⟩ := some_of_lt (l := xs) (i := 3) (by omega)
  obtain ⟨x3, e3, w3⟩ := fld_int rfl (hg 3 _ rfl) hy3
  obtain ⟨y4, hy4⟩ := some_of_lt (l := xs) (i := 4) (by omega)
  obtain ⟨x4, e4, w4⟩ := fld_int rfl (hg 4 _ rfl) hy4
  obtain ⟨y5, hy5⟩ := some_of_lt (l := xs) (i := 5) (by omega)
  obtain ⟨x5, e5, w5⟩ := fld_int rfl (hg 5 _ rfl) hy5
  match l, hlen with
  | [c0, c1, c2, c3, c4, c5], _ =>
    simp [Value.cells] at e0 e1 e2 e3 e4 e5
    subst e0 e1 e2 e3 e4 e5
    exact ⟨x0, x1, x2, x3, x4, x5, rfl, i64_of_wf w0, i64_of_wf w1, i64_of_wf w2, i64_of_wf w3, i64_of_wf w4, i64_of_wf w5⟩

set_option maxRecDepth 100000 in
theorem open_notice {r : Reach} {b0 : Nat} {v : Value} {d : DataW H} {p : List MemPlace} (hv : Value.okWide Try.prog w r b0 56 v) (h : DataW.Trod enc Try.prog w base spare held 56 v d p) :
    ∃ (x0 : Int) (x1 : Int) (x2 : Int) (x3 : Int), v = .agg #[.int .i64 x0, .int .i64 x1, .int .i64 x2, .int .i64 x3] ∧ (-9223372036854775808 ≤ x0 ∧ x0 ≤ 9223372036854775807) ∧ (-9223372036854775808 ≤ x1 ∧ x1 ≤ 9223372036854775807) ∧ (-9223372036854775808 ≤ x2 ∧ x2 ≤ 9223372036854775807) ∧ (-9223372036854775808 ≤ x3 ∧ x3 ≤ 9223372036854775807) := by
  obtain ⟨cs, rfl, hsz⟩ := okWide_struct Try.underlying56 hv
  obtain ⟨l⟩ := cs
  have hlen : l.length = 4 := hsz.trans (by kernel_rfl)
  obtain ⟨fuel, hf⟩ := h
  obtain ⟨xs, m, _, _, _, hxl, hg⟩ := DataW.trod_struct Try.underlying56 hf
  have hxm : xs.length = 4 := hxl
  obtain ⟨y0, hy0⟩ := some_of_lt (l := xs) (i := 0) (by omega)
  obtain ⟨x0, e0, w0⟩ := fld_int rfl (hg 0 _ rfl) hy0
  obtain ⟨y1, hy1⟩ := some_of_lt (l := xs) (i := 1) (by omega)
  obtain ⟨x1, e1, w1⟩ := fld_int rfl (hg 1 _ rfl) hy1
  obtain ⟨y2, hy2⟩ := some_of_lt (l := xs) (i := 2) (by omega)
  obtain ⟨x2, e2, w2⟩ := fld_int rfl (hg 2 _ rfl) hy2
  obtain ⟨y3, hy3⟩ := some_of_lt (l := xs) (i := 3) (by omega)
  obtain ⟨x3, e3, w3⟩ := fld_int rfl (hg 3 _ rfl) hy3
  match l, hlen with
  | [c0, c1, c2, c3], _ =>
    simp [Value.cells] at e0 e1 e2 e3
    subst e0 e1 e2 e3
    exact ⟨x0, x1, x2, x3, rfl, i64_of_wf w0, i64_of_wf w1, i64_of_wf w2, i64_of_wf w3⟩

set_option maxRecDepth 100000 in
theorem open_raw {r : Reach} {b0 : Nat} {v : Value} {d : DataW H} {p : List MemPlace} (hv : Value.okWide Try.prog w r b0 32 v) (h : DataW.Trod enc Try.prog w base spare held 32 v d p) :
    ∃ (z0 : Int) (z1 : Int) (z2 : Int) (z3 : Int) (z4 : Int) (z5 : Int) (z6 : Bool) (z7 : Int) (z8 : Int) (z9 : Int) (z10 : Int) (z11 : Int) (z12 : Int) (z13 : Int) (z14 : Int) (z15 : Int) (z16 : Int) (z17 : Int) (z18 : Int) (z19 : Int) (z20 : Int), v = .agg #[.int .i64 z0, .int .i64 z1, .int .i64 z2, .int .i64 z3, .int .i64 z4, .int .i64 z5, .bool z6, .int .i64 z7, .int .i64 z8, .int .i64 z9, .int .i64 z10, .int .i64 z11, .int .i64 z12, .int .i64 z13, .int .i64 z14, .int .i64 z15, .int .i64 z16, .int .i64 z17, .int .i64 z18, .int .i64 z19, .int .i64 z20] ∧ (-9223372036854775808 ≤ z0 ∧ z0 ≤ 9223372036854775807) ∧ (-9223372036854775808 ≤ z1 ∧ z1 ≤ 9223372036854775807) ∧ (-9223372036854775808 ≤ z2 ∧ z2 ≤ 9223372036854775807) ∧ (-9223372036854775808 ≤ z3 ∧ z3 ≤ 9223372036854775807) ∧ (-9223372036854775808 ≤ z4 ∧ z4 ≤ 9223372036854775807) ∧ (-9223372036854775808 ≤ z5 ∧ z5 ≤ 9223372036854775807) ∧ (-9223372036854775808 ≤ z7 ∧ z7 ≤ 9223372036854775807) ∧ (-9223372036854775808 ≤ z8 ∧ z8 ≤ 9223372036854775807) ∧ (-9223372036854775808 ≤ z9 ∧ z9 ≤ 9223372036854775807) ∧ (-9223372036854775808 ≤ z10 ∧ z10 ≤ 9223372036854775807) ∧ (-9223372036854775808 ≤ z11 ∧ z11 ≤ 9223372036854775807) ∧ (-9223372036854775808 ≤ z12 ∧ z12 ≤ 9223372036854775807) ∧ (-9223372036854775808 ≤ z13 ∧ z13 ≤ 9223372036854775807) ∧ (-9223372036854775808 ≤ z14 ∧ z14 ≤ 9223372036854775807) ∧ (-9223372036854775808 ≤ z15 ∧ z15 ≤ 9223372036854775807) ∧ (-9223372036854775808 ≤ z16 ∧ z16 ≤ 9223372036854775807) ∧ (-9223372036854775808 ≤ z17 ∧ z17 ≤ 9223372036854775807) ∧ (-9223372036854775808 ≤ z18 ∧ z18 ≤ 9223372036854775807) ∧ (-9223372036854775808 ≤ z19 ∧ z19 ≤ 9223372036854775807) ∧ (-9223372036854775808 ≤ z20 ∧ z20 ≤ 9223372036854775807) := by
  obtain ⟨cs, rfl, hsz⟩ := okWide_struct Try.underlying32 hv
  obtain ⟨l⟩ := cs
  have hlen : l.length = 21 := hsz.trans (by kernel_rfl)
  obtain ⟨fuel, hf⟩ := h
  obtain ⟨xs, m, _, _, _, hxl, hg⟩ := DataW.trod_struct Try.underlying32 hf
  have hxm : xs.length = 9 := hxl
  obtain ⟨y0, hy0⟩ := some_of_lt (l := xs) (i := 0) (by omega)
  obtain ⟨z0, e0, w0⟩ := fld_int rfl (hg 0 _ rfl) hy0
  obtain ⟨y1, hy1⟩ := some_of_lt (l := xs) (i := 1) (by omega)
  obtain ⟨z1, e1, w1⟩ := fld_int rfl (hg 1 _ rfl) hy1
  obtain ⟨y2, hy2⟩ := some_of_lt (l := xs) (i := 2) (by omega)
  obtain ⟨z2, e2, w2⟩ := fld_int rfl (hg 2 _ rfl) hy2
  obtain ⟨y3, hy3⟩ := some_of_lt (l := xs) (i := 3) (by omega)
  have hq3 := (hg 3 _ rfl).trans hy3
  obtain ⟨xs3x, m3x, _, _, _, hxl3x, hg3x⟩ := DataW.trod_struct Try.underlying30 hq3
  have hxm3x : xs3x.length = 13 := hxl3x
  obtain ⟨y3x0, hy3x0⟩ := some_of_lt (l := xs3x) (i := 0) (by omega)
  obtain ⟨z3, e3, w3⟩ := fld_int rfl (hg3x 0 _ rfl) hy3x0
  obtain ⟨y3x1, hy3x1⟩ := some_of_lt (l := xs3x) (i := 1) (by omega)
  obtain ⟨z4, e4, w4⟩ := fld_int rfl (hg3x 1 _ rfl) hy3x1
  obtain ⟨y3x2, hy3x2⟩ := some_of_lt (l := xs3x) (i := 2) (by omega)
  obtain ⟨z5, e5, w5⟩ := fld_int rfl (hg3x 2 _ rfl) hy3x2
  obtain ⟨y3x3, hy3x3⟩ := some_of_lt (l := xs3x) (i := 3) (by omega)
  obtain ⟨z6, e6⟩ := fld_bool rfl (hg3x 3 _ rfl) hy3x3
  obtain ⟨y3x4, hy3x4⟩ := some_of_lt (l := xs3x) (i := 4) (by omega)
  obtain ⟨z7, e7, w7⟩ := fld_int rfl (hg3x 4 _ rfl) hy3x4
  obtain ⟨y3x5, hy3x5⟩ := some_of_lt (l := xs3x) (i := 5) (by omega)
  obtain ⟨z8, e8, w8⟩ := fld_int rfl (hg3x 5 _ rfl) hy3x5
  obtain ⟨y3x6, hy3x6⟩ := some_of_lt (l := xs3x) (i := 6) (by omega)
  obtain ⟨z9, e9, w9⟩ := fld_int rfl (hg3x 6 _ rfl) hy3x6
  obtain ⟨y3x7, hy3x7⟩ := some_of_lt (l := xs3x) (i := 7) (by omega)
  obtain ⟨z10, e10, w10⟩ := fld_int rfl (hg3x 7 _ rfl) hy3x7
  obtain ⟨y3x8, hy3x8⟩ := some_of_lt (l := xs3x) (i := 8) (by omega)
  obtain ⟨z11, e11, w11⟩ := fld_int rfl (hg3x 8 _ rfl) hy3x8
  obtain ⟨y3x9, hy3x9⟩ := some_of_lt (l := xs3x) (i := 9) (by omega)
  obtain ⟨z12, e12, w12⟩ := fld_int rfl (hg3x 9 _ rfl) hy3x9
  obtain ⟨y3x10, hy3x10⟩ := some_of_lt (l := xs3x) (i := 10) (by omega)
  obtain ⟨z13, e13, w13⟩ := fld_int rfl (hg3x 10 _ rfl) hy3x10
  obtain ⟨y3x11, hy3x11⟩ := some_of_lt (l := xs3x) (i := 11) (by omega)
  obtain ⟨z14, e14, w14⟩ := fld_int rfl (hg3x 11 _ rfl) hy3x11
  obtain ⟨y3x12, hy3x12⟩ := some_of_lt (l := xs3x) (i := 12) (by omega)
  obtain ⟨z15, e15, w15⟩ := fld_int rfl (hg3x 12 _ rfl) hy3x12
  obtain ⟨y4, hy4⟩ := some_of_lt (l := xs) (i := 4) (by omega)
  obtain ⟨z16, e16, w16⟩ := fld_int rfl (hg 4 _ rfl) hy4
  obtain ⟨y5, hy5⟩ := some_of_lt (l := xs) (i := 5) (by omega)
  obtain ⟨z17, e17, w17⟩ := fld_int rfl (hg 5 _ rfl) hy5
  obtain ⟨y6, hy6⟩ := some_of_lt (l := xs) (i := 6) (by omega)
  obtain ⟨z18, e18, w18⟩ := fld_int rfl (hg 6 _ rfl) hy6
  obtain ⟨y7, hy7⟩ := some_of_lt (l := xs) (i := 7) (by omega)
  obtain ⟨z19, e19, w19⟩ := fld_int rfl (hg 7 _ rfl) hy7
  obtain ⟨y8, hy8⟩ := some_of_lt (l := xs) (i := 8) (by omega)
  obtain ⟨z20, e20, w20⟩ := fld_int rfl (hg 8 _ rfl) hy8
  match l, hlen with
  | [c0, c1, c2, c3, c4, c5, c6, c7, c8, c9, c10, c11, c12, c13, c14, c15, c16, c17, c18, c19, c20], _ =>
    simp [Value.cells, cells_Fact] at e0 e1 e2 e3 e4 e5 e6 e7 e8 e9 e10 e11 e12 e13 e14 e15 e16 e17 e18 e19 e20
    subst e0 e1 e2 e3 e4 e5 e6 e7 e8 e9 e10 e11 e12 e13 e14 e15 e16 e17 e18 e19 e20
    exact ⟨z0, z1, z2, z3, z4, z5, z6, z7, z8, z9, z10, z11, z12, z13, z14, z15, z16, z17, z18, z19, z20, rfl, i64_of_wf w0, i64_of_wf w1, i64_of_wf w2, i64_of_wf w3, i64_of_wf w4, i64_of_wf w5, i64_of_wf w7, i64_of_wf w8, i64_of_wf w9, i64_of_wf w10, i64_of_wf w11, i64_of_wf w12, i64_of_wf w13, i64_of_wf w14, i64_of_wf w15, i64_of_wf w16, i64_of_wf w17, i64_of_wf w18, i64_of_wf w19, i64_of_wf w20⟩

/-- The weights of one argument. -/
theorem each_all {ts : List TypeId} {ds : List (DataW H)} (h : (DataW.weightsEach Try.prog ts ds).all (· ≤ reachBytes) = true) {j : Nat} {t : TypeId} {d : DataW H} (ht : ts[j]? = some t) (hd : ds[j]? = some d) : (d.weights Try.prog t).all (· ≤ reachBytes) = true := by
  rw [List.all_eq_true]
  intro x hx
  exact List.all_eq_true.1 h x (DataW.weights_mem_each ht hd x hx)
/-- Bytes that came in, with the reach. -/
theorem cells_bytes {fuel : Nat} {v : Value} {x : DataW H × List MemPlace} (h : DataW.trod enc Try.prog w base spare held fuel 22 [v] = some x) :
    ∃ (a : Option Addr) (c : Nat) (l : List UInt8), v = .slice a l.length c ∧ (a = none → c = 0) ∧ Sl w.heap.size w (.slice a l.length c) l ∧ ((x.1.weights Try.prog 22).all (· ≤ reachBytes) = true → l.length ≤ 140737488351232) := by
  rcases open_ints Try.underlying22 Try.underlying5 one_u8 h with ⟨hcs, hx⟩ | ⟨a, len, cap, zs, hcs, _, hle, hmax, hall, hx, hcell, hwf⟩
  · simp at hcs
    subst hcs
    exact ⟨none, 0, [], rfl, fun _ => rfl, ⟨none, 0, rfl, Nat.le_refl _, fun h => by simp at h⟩, fun _ => by simp⟩
  · simp at hcs
    subst hcs
    have hlen : len ≤ zs.length := by rw [hall]; split <;> omega
    obtain ⟨l, hl⟩ : ∃ l : List UInt8, l = (zs.take len).map fun z => UInt8.ofNat z.toNat := ⟨_, rfl⟩
    have hll : l.length = len := by rw [hl]; simp; omega
    refine ⟨some a, cap, l, by rw [hll], (fun h => by simp at h), ⟨some a, cap, rfl, by omega, fun hp => ?_⟩, fun hz => ?_⟩
    · obtain ⟨b, off, rfl, hc⟩ := ints_at hcell (by omega)
      have hlt : b < w.heap.size := by
        have := hc 0 (by omega)
        simp only [World.cell?] at this
        rcases Nat.lt_or_ge b w.heap.size with h | h
        · exact h
        · rw [Array.getElem?_eq_none (by simpa using h)] at this
          simp at this
      refine ⟨b, off, rfl, hlt, fun j u hu => ?_⟩
      have hj : j < l.length := (List.getElem?_eq_some_iff.1 hu).1
      have hjz : j < zs.length := by omega
      rw [hc j hjz]
      have hz : zs.getD j 0 = zs[j] := by simp [List.getD, hjz]
      have hb := u8_of_wf (hwf zs[j] (List.getElem_mem hjz))
      rw [hl, List.getElem?_map, List.getElem?_take_of_lt (by omega), List.getElem?_eq_getElem hjz] at hu
      simp only [Option.map_some, Option.some.injEq] at hu
      rw [hz, ← hu]
      congr 2
      simp
      omega
    · rw [hx] at hz
      simp only [DataW.weights, Try.underlying22, List.all_cons, Bool.and_eq_true] at hz
      have h1 := of_decide_eq_true hz.1
      rw [byte_u8] at h1
      simp only [lits, List.length_map, List.length_take, List.length_drop, reachBytes] at h1
      omega
set_option maxRecDepth 100000 in
theorem open_bytes2 {r : Reach} {b0 : Nat} {v : Value} {d : DataW H} {p : List MemPlace} (hv : Value.okWide Try.prog w r b0 22 v) (h : DataW.Trod enc Try.prog w base spare held 22 v d p) :
    ∃ (a : Option Addr) (c : Nat) (l : List UInt8), v = .slice a l.length c ∧ (a = none → c = 0) ∧ Sl w.heap.size w (.slice a l.length c) l ∧ ((d.weights Try.prog 22).all (· ≤ reachBytes) = true → l.length ≤ 140737488351232) := by
  obtain ⟨a0, len, cap, rfl⟩ := okWide_slice Try.underlying22 hv
  obtain ⟨fuel, hf⟩ := h
  exact cells_bytes (x := (d, p)) (by simpa [Value.cells] using hf)
theorem u32_of_wf {x : Int} (h : (Lit.int .u32 x).wf = true) : 0 ≤ x ∧ x < 4294967296 := by
  simp [Lit.wf, IntKind.min, IntKind.max, IntKind.signed, IntKind.bits] at h
  omega
set_option maxRecDepth 100000 in
theorem open_doc {r : Reach} {b0 : Nat} {v : Value} {d : DataW H} {p : List MemPlace} (hv : Value.okWide Try.prog w r b0 34 v) (h : DataW.Trod enc Try.prog w base spare held 34 v d p) :
    ∃ (s n k q : Int) (a : Option Addr) (c : Nat) (l : List UInt8), v = .agg #[.int .i64 s, .int .i64 n, .int .i64 k, .int .u32 q, .slice a l.length c] ∧ (0 ≤ q ∧ q < 4294967296) ∧ (a = none → c = 0) ∧ Sl w.heap.size w (.slice a l.length c) l ∧ ((d.weights Try.prog 34).all (· ≤ reachBytes) = true → l.length ≤ 140737488351232) := by
  obtain ⟨cs, rfl, hsz⟩ := okWide_struct Try.underlying34 hv
  obtain ⟨l⟩ := cs
  have hlen : l.length = 5 := hsz.trans (by kernel_rfl)
  obtain ⟨fuel, hf⟩ := h
  obtain ⟨xs, m, _, hd, _, hxl, hg⟩ := DataW.trod_struct Try.underlying34 hf
  have hxm : xs.length = 5 := hxl
  obtain ⟨y0, hy0⟩ := some_of_lt (l := xs) (i := 0) (by omega)
  obtain ⟨s, e0, w0⟩ := fld_int rfl (hg 0 _ rfl) hy0
  obtain ⟨y1, hy1⟩ := some_of_lt (l := xs) (i := 1) (by omega)
  obtain ⟨n, e1, w1⟩ := fld_int rfl (hg 1 _ rfl) hy1
  obtain ⟨y2, hy2⟩ := some_of_lt (l := xs) (i := 2) (by omega)
  obtain ⟨k, e2, w2⟩ := fld_int rfl (hg 2 _ rfl) hy2
  obtain ⟨y3, hy3⟩ := some_of_lt (l := xs) (i := 3) (by omega)
  obtain ⟨q, hq, _, w3⟩ := DataW.trod_int Try.underlying24 ((hg 3 _ rfl).trans hy3)
  obtain ⟨y4, hy4⟩ := some_of_lt (l := xs) (i := 4) (by omega)
  have h4 := (hg 4 _ rfl).trans hy4
  match l, hlen with
  | [c0, c1, c2, c3, c4], _ =>
    simp [Value.cells] at e0 e1 e2
    subst e0 e1 e2
    have h3 : c3 = .int .u32 q := by
      have h5 : ([Value.int .i64 s, .int .i64 n, .int .i64 k, c3, c4].drop 3).take (Try.prog.cellsOf 24) = [.int .u32 q] := hq
      rw [one_u32] at h5
      simpa using h5
    subst h3
    have h6 : DataW.trod enc Try.prog w base spare held m 22 [c4] = some y4 := by
      have h5 : DataW.trod enc Try.prog w base spare held m 22 (([Value.int .i64 s, .int .i64 n, .int .i64 k, .int .u32 q, c4].drop 4).take (Try.prog.cellsOf 22)) = some y4 := h4
      rw [one_sl] at h5
      simpa using h5
    obtain ⟨a, c, l, rfl, hz, hsl, hw⟩ := cells_bytes h6
    refine ⟨s, n, k, q, a, c, l, rfl, u32_of_wf w3, hz, hsl, fun hall => hw ?_⟩
    injection hd with hd1 hd2
    rw [hd1] at hall
    match xs, hxm with
    | [z0, z1, z2, z3, z4], _ =>
      simp only [List.getElem?_cons_zero, List.getElem?_cons_succ, Option.some.injEq] at hy4
      subst hy4
      rw [DataW.weights] at hall
      simp only [Try.underlying34] at hall
      exact each_all (j := 4) hall rfl rfl
end
end Go.Proofs.Ytkkjiihdmpngbaa
