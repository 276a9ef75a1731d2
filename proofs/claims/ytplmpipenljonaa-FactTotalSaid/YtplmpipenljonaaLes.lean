/-
  The contracts of fact.Less and of the reference's ID and Less.
-/
import Derived.Test.YtplmpipenljonaaCmp
import Derived.Test.YtplmpipenljonaaFb3
import Derived.Test.YtplmpipenljonaaRel
namespace Go.Proofs.Ytplmpipenljonaa
open Go.RowKit

def LessPost (b : Bool) (w : World) (e : Ending) (w' : World) : Prop := e = .returned (.bool b) ∧ Below w.heap.size w w'


set_option maxRecDepth 100000 in
set_option maxHeartbeats 4000000 in
theorem less_any (f g : Fct) (w : World) : Calls Try.prog 20 #[.agg (fcells f), .agg (fcells g)] w (LessPost (lessB f g) w) := by
  have HL : Hid (lessB f g = (validB f && validB g && decide (Lib.compareBytes (factL f) (factL g) < 0))) := rfl
  generalize lessB f g = R at *
  obtain ⟨a0, a1, a2, a3, a4, a5, a6, a7, a8, a9, a10, a11, a12, a13⟩ := f
  obtain ⟨g0, g1, g2, g3, g4, g5, g6, g7, g8, g9, g10, g11, g12, g13⟩ := g
  simp only [fcells]
  have HV := Lib.hid (valid_any a0 a1 a2 a3 a4 a5 a6 a7 a8 a9 a10 a11 a12 a13)
  have HW := Lib.hid (valid_any g0 g1 g2 g3 g4 g5 g6 g7 g8 g9 g10 g11 g12 g13)
  rcases hv : validB ⟨a0, a1, a2, a3, a4, a5, a6, a7, a8, a9, a10, a11, a12, a13⟩ with _ | _
  · rw [hv] at HV HL
    go_enter Try.func20, Try.ntmps20
    go_wp2_with (go_at_call 15; refine (HV.out _).mono ?_; rintro e w1 ⟨rfl, hb1⟩)
    go_ret
    exact ⟨ret_bool (by rw [HL.out]; rfl), bnext (((Below.refl _ _).alloc (Nat.le_refl _) _).alloc (by simp) _) hb1⟩
  rcases hw : validB ⟨g0, g1, g2, g3, g4, g5, g6, g7, g8, g9, g10, g11, g12, g13⟩ with _ | _
  · rw [hv] at HV HL
    rw [hw] at HW HL
    go_enter Try.func20, Try.ntmps20
    go_wp2_with fail
    refine (HV.out _).mono ?_
    rintro e w1 ⟨rfl, hb1⟩
    have hbf : BlkIs w1 w.heap.size 31 #[.int .i64 a0, .int .i64 a1, .int .i64 a2, .bool a3, .int .i64 a4, .int .i64 a5, .int .i64 a6, .int .i64 a7, .int .i64 a8, .int .i64 a9, .int .i64 a10, .int .i64 a11, .int .i64 a12, .int .i64 a13] := ((BlkIs.new _ _ _).alloc _).below hb1 (by simp; omega)
    have hbg : BlkIs w1 (w.heap.size + 1) 31 #[.int .i64 g0, .int .i64 g1, .int .i64 g2, .bool g3, .int .i64 g4, .int .i64 g5, .int .i64 g6, .int .i64 g7, .int .i64 g8, .int .i64 g9, .int .i64 g10, .int .i64 g11, .int .i64 g12, .int .i64 g13] := (BlkIs.newAt _ _ _ _ (by simp)).below hb1 (by simp)
    have hbel : Below w.heap.size w w1 := bnext (((Below.refl _ _).alloc (Nat.le_refl _) _).alloc (by simp) _) hb1
    have hcf := hbf.cell
    have hcg := hbg.cell
    clear hb1
    go_wp2_with fail
    refine (HW.out _).mono ?_
    rintro e w2 ⟨rfl, hb2⟩
    go_wp2
    go_ret
    exact ⟨ret_bool (by rw [HL.out]; rfl), bnext hbel hb2⟩
  · rw [hv] at HV HL
    rw [hw] at HW HL
    have HO1 := Lib.hid (factO_valid hv)
    have HO2 := Lib.hid (factO_valid hw)
    clear hv hw
    go_enter Try.func20, Try.ntmps20
    go_wp2_with fail
    refine (HV.out _).mono ?_
    rintro e w1 ⟨rfl, hb1⟩
    have hbf : BlkIs w1 w.heap.size 31 #[.int .i64 a0, .int .i64 a1, .int .i64 a2, .bool a3, .int .i64 a4, .int .i64 a5, .int .i64 a6, .int .i64 a7, .int .i64 a8, .int .i64 a9, .int .i64 a10, .int .i64 a11, .int .i64 a12, .int .i64 a13] := ((BlkIs.new _ _ _).alloc _).below hb1 (by simp; omega)
    have hbg : BlkIs w1 (w.heap.size + 1) 31 #[.int .i64 g0, .int .i64 g1, .int .i64 g2, .bool g3, .int .i64 g4, .int .i64 g5, .int .i64 g6, .int .i64 g7, .int .i64 g8, .int .i64 g9, .int .i64 g10, .int .i64 g11, .int .i64 g12, .int .i64 g13] := (BlkIs.newAt _ _ _ _ (by simp)).below hb1 (by simp)
    have hbel : Below w.heap.size w w1 := bnext (((Below.refl _ _).alloc (Nat.le_refl _) _).alloc (by simp) _) hb1
    have hcf := hbf.cell
    have hcg := hbg.cell
    clear hb1
    go_wp2_with fail
    refine (HW.out _).mono ?_
    rintro e w2 ⟨rfl, hb2⟩
    replace hbf := hbf.below hb2 hbf.lt
    replace hbg := hbg.below hb2 hbg.lt
    replace hbel := bnext hbel hb2
    clear hcf hcg hb2
    go_wp2_with fail
    refine wp_region_ml [1, 3, 4] [0, 2, 1, 3, 4, 5, 6] w2.drew.heap.size (by kernel_rfl) (by kernel_rfl) rfl (by decide) (by kernel_rfl) (fun _ _ _ _ _ h => h) ?_
    simp only [marked, List.getElem?_cons_zero, List.getElem?_cons_succ, List.contains_cons, List.contains_nil, Nat.reduceBEq, Bool.or_false, Bool.or_true, BEq.rfl]
    replace hbf := hbf.drew
    replace hbg := hbg.drew
    replace hbel := hbel.drew
    generalize w2.drew = w3 at *
    have hcf := hbf.cell
    have hcg := hbg.cell
    have lf := hbf.lt
    have lg := hbg.lt
    repeat (refine ml_quiet ?_; go_big_quiet_step (fail); refine wpQuiet_nil ?_)
    refine ml_loud rfl ?_
    intro K hK
    go_simp
    go_at_call 18
    refine (bytes_any a0 a1 a2 a3 a4 a5 a6 a7 a8 a9 a10 a11 a12 a13 _).mono ?_
    rintro e w4 ⟨v4, rfl, hown4, hb4, hk4⟩
    refine hK _ _ w4.heap.size hb4.size hb4 ?_
    clear hK K
    rw [HO1.out] at hown4
    replace hbel := bnext hbel hb4
    clear hcf hcg hbf hbg lf lg hb4 hk4
    repeat (refine ml_quiet ?_; go_big_quiet_step (fail); refine wpQuiet_nil ?_)
    refine ml_loud rfl ?_
    intro K hK
    go_simp
    go_at_call 18
    refine (bytes_any g0 g1 g2 g3 g4 g5 g6 g7 g8 g9 g10 g11 g12 g13 _).mono ?_
    rintro e w5 ⟨v5, rfl, hown5, hb5, hk5⟩
    refine hK _ _ w5.heap.size hb5.size hb5 ?_
    clear hK K
    rw [HO2.out] at hown5
    replace hbel := bnext hbel hb5
    have hs4 := (Sl.of_own hown4).below hb5
    have hs5 := Sl.of_own hown5
    clear hown4 hown5 hb5 hk5
    repeat (refine ml_quiet ?_; go_big_quiet_step (fail); refine wpQuiet_nil ?_)
    refine ml_loud rfl ?_
    intro K hK
    go_simp
    go_at_call 34
    refine (bcompare_any _ hs4 hs5).mono ?_
    rintro e w6 ⟨rfl, rfl⟩
    refine hK _ _ w5.heap.size (Nat.le_refl _) (Below.refl _ _) ?_
    clear hK K
    repeat (refine ml_quiet ?_; go_big_quiet_step (fail); refine wpQuiet_nil ?_)
    refine ml_nil ?_
    go_wp2
    go_ret
    exact ⟨ret_bool (by rw [HL.out]; rfl), hbel⟩

/-- The reference's ID. -/
def idB (f g : Fct) : Int := if f.iss ≠ g.iss then f.iss - g.iss else f.num - g.num
set_option maxHeartbeats 1000000 in
theorem rid_any (f g : Fct) (w : World) (hf : FctBd f) (hg : FctBd g) : Calls Try.prog 35 #[.agg (fcells f), .agg (fcells g)] w fun e w' => e = .returned (.int .i64 (idB f g)) ∧ Below w.heap.size w w' := by
  have b1 := hf.iss
  have b2 := hg.iss
  have b3 := hf.num
  have b4 := hg.num
  have HI : Hid (idB f g = if f.iss ≠ g.iss then f.iss - g.iss else f.num - g.num) := rfl
  generalize idB f g = R at *
  obtain ⟨a0, a1, a2, a3, a4, a5, a6, a7, a8, a9, a10, a11, a12, a13⟩ := f
  obtain ⟨g0, g1, g2, g3, g4, g5, g6, g7, g8, g9, g10, g11, g12, g13⟩ := g
  simp only [fcells] at *
  by_cases hne : a0 = g0
  · subst hne
    go_enter Try.func35, Try.ntmps35
    go_wp2
    go_ret
    exact ⟨ret_int (by rw [HI.out]; simp), ((Below.refl _ _).alloc (Nat.le_refl _) _).alloc (by simp) _⟩
  · go_enter Try.func35, Try.ntmps35
    go_wp2
    go_ret
    exact ⟨ret_int (by rw [HI.out]; simp [hne]), ((Below.refl _ _).alloc (Nat.le_refl _) _).alloc (by simp) _⟩

set_option maxRecDepth 100000 in
set_option maxHeartbeats 8000000 in
theorem rless_any (f g : Fct) (w : World) : Calls Try.prog 21 #[.agg (fcells f), .agg (fcells g)] w (LessPost (rlessB f g) w) := by
  have HL : Hid (rlessB f g = (validB f && validB g && (if f.iss ≠ g.iss then decide (f.iss < g.iss) else if f.num ≠ g.num then decide (f.num < g.num) else if f.ver ≠ g.ver then decide (f.ver < g.ver) else Op.bytesLess (factL f) (factL g)))) := rfl
  have HI : Hid (idB f g = if f.iss ≠ g.iss then f.iss - g.iss else f.num - g.num) := rfl
  have HID : Hid (validB f = true → validB g = true → ∀ w, Calls Try.prog 35 #[.agg (fcells f), .agg (fcells g)] w fun e w' => e = .returned (.int .i64 (idB f g)) ∧ Below w.heap.size w w') := fun h1 h2 w => rid_any f g w (valid_bd h1) (valid_bd h2)
  generalize rlessB f g = R at *
  generalize idB f g = D at *
  obtain ⟨a0, a1, a2, a3, a4, a5, a6, a7, a8, a9, a10, a11, a12, a13⟩ := f
  obtain ⟨g0, g1, g2, g3, g4, g5, g6, g7, g8, g9, g10, g11, g12, g13⟩ := g
  simp only [fcells] at *
  have HV := Lib.hid (rvalid_any a0 a1 a2 a3 a4 a5 a6 a7 a8 a9 a10 a11 a12 a13)
  have HW := Lib.hid (rvalid_any g0 g1 g2 g3 g4 g5 g6 g7 g8 g9 g10 g11 g12 g13)
  rcases hv : validB ⟨a0, a1, a2, a3, a4, a5, a6, a7, a8, a9, a10, a11, a12, a13⟩ with _ | _
  · rw [hv] at HV HL
    go_enter Try.func21, Try.ntmps21
    go_wp2_with (go_at_call 16; refine (HV.out _).mono ?_; rintro e w1 ⟨rfl, hb1⟩)
    go_ret
    exact ⟨ret_bool (by rw [HL.out]; rfl), bnext (((Below.refl _ _).alloc (Nat.le_refl _) _).alloc (by simp) _) hb1⟩
  rcases hw : validB ⟨g0, g1, g2, g3, g4, g5, g6, g7, g8, g9, g10, g11, g12, g13⟩ with _ | _
  · rw [hv] at HV HL
    rw [hw] at HW HL
    go_enter Try.func21, Try.ntmps21
    go_wp2_with fail
    refine (HV.out _).mono ?_
    rintro e w1 ⟨rfl, hb1⟩
    have hbf : BlkIs w1 w.heap.size 31 #[.int .i64 a0, .int .i64 a1, .int .i64 a2, .bool a3, .int .i64 a4, .int .i64 a5, .int .i64 a6, .int .i64 a7, .int .i64 a8, .int .i64 a9, .int .i64 a10, .int .i64 a11, .int .i64 a12, .int .i64 a13] := ((BlkIs.new _ _ _).alloc _).below hb1 (by simp; omega)
    have hbg : BlkIs w1 (w.heap.size + 1) 31 #[.int .i64 g0, .int .i64 g1, .int .i64 g2, .bool g3, .int .i64 g4, .int .i64 g5, .int .i64 g6, .int .i64 g7, .int .i64 g8, .int .i64 g9, .int .i64 g10, .int .i64 g11, .int .i64 g12, .int .i64 g13] := (BlkIs.newAt _ _ _ _ (by simp)).below hb1 (by simp)
    have hbel : Below w.heap.size w w1 := bnext (((Below.refl _ _).alloc (Nat.le_refl _) _).alloc (by simp) _) hb1
    have hcf := hbf.cell
    have hcg := hbg.cell
    clear hb1
    go_wp2_with fail
    refine (HW.out _).mono ?_
    rintro e w2 ⟨rfl, hb2⟩
    go_wp2
    go_ret
    exact ⟨ret_bool (by rw [HL.out]; rfl), bnext hbel hb2⟩
  · replace HID := Lib.hid (HID.out hv hw)
    rw [hv] at HV HL
    rw [hw] at HW HL
    have HO1 := Lib.hid (factO_valid hv)
    have HO2 := Lib.hid (factO_valid hw)
    clear hv hw
    go_enter Try.func21, Try.ntmps21
    go_wp2_with fail
    refine (HV.out _).mono ?_
    rintro e w1 ⟨rfl, hb1⟩
    have hbf : BlkIs w1 w.heap.size 31 #[.int .i64 a0, .int .i64 a1, .int .i64 a2, .bool a3, .int .i64 a4, .int .i64 a5, .int .i64 a6, .int .i64 a7, .int .i64 a8, .int .i64 a9, .int .i64 a10, .int .i64 a11, .int .i64 a12, .int .i64 a13] := ((BlkIs.new _ _ _).alloc _).below hb1 (by simp; omega)
    have hbg : BlkIs w1 (w.heap.size + 1) 31 #[.int .i64 g0, .int .i64 g1, .int .i64 g2, .bool g3, .int .i64 g4, .int .i64 g5, .int .i64 g6, .int .i64 g7, .int .i64 g8, .int .i64 g9, .int .i64 g10, .int .i64 g11, .int .i64 g12, .int .i64 g13] := (BlkIs.newAt _ _ _ _ (by simp)).below hb1 (by simp)
    have hbel : Below w.heap.size w w1 := bnext (((Below.refl _ _).alloc (Nat.le_refl _) _).alloc (by simp) _) hb1
    have hcf := hbf.cell
    have hcg := hbg.cell
    clear hb1
    go_wp2_with fail
    refine (HW.out _).mono ?_
    rintro e w2 ⟨rfl, hb2⟩
    replace hbf := hbf.below hb2 hbf.lt
    replace hbg := hbg.below hb2 hbg.lt
    replace hbel := bnext hbel hb2
    clear hcf hcg hb2
    have hcf := hbf.cell
    have hcg := hbg.cell
    go_wp2_with fail
    refine (HID.out _).mono ?_
    rintro e w3 ⟨rfl, hb3⟩
    replace hbf := hbf.below hb3 hbf.lt
    replace hbg := hbg.below hb3 hbg.lt
    replace hbel := bnext hbel hb3
    clear hcf hcg hb3
    have hcf := hbf.cell
    have hcg := hbg.cell
    by_cases hd : D = 0
    · subst hd
      have h12 : a0 = g0 ∧ a1 = g1 := by
        have := HI.out
        split at this <;> omega
      obtain ⟨rfl, rfl⟩ := h12
      by_cases hver : a2 = g2
      · subst hver
        go_wp2_with fail
        refine wp_region_ml [1, 4] [0, 3, 1, 2, 4, 5, 6, 7] w3.drew.heap.size (by kernel_rfl) (by kernel_rfl) rfl (by decide) (by kernel_rfl) (fun _ _ _ _ _ h => h) ?_
        simp only [marked, List.getElem?_cons_zero, List.getElem?_cons_succ, List.contains_cons, List.contains_nil, Nat.reduceBEq, Bool.or_false, Bool.or_true, BEq.rfl]
        replace hbf := hbf.drew
        replace hbg := hbg.drew
        replace hbel := hbel.drew
        clear hcf hcg
        generalize w3.drew = w4 at *
        have hcf := hbf.cell
        have hcg := hbg.cell
        have lf := hbf.lt
        have lg := hbg.lt
        repeat (refine ml_quiet ?_; go_big_quiet_step (fail); refine wpQuiet_nil ?_)
        refine ml_loud rfl ?_
        intro K hK
        go_simp
        go_at_call 19
        refine (rbytes_any a0 a1 a2 a3 a4 a5 a6 a7 a8 a9 a10 a11 a12 a13 _).mono ?_
        rintro e w5 ⟨v5, rfl, hown5, hb5, hk5⟩
        refine hK _ _ w5.heap.size hb5.size hb5 ?_
        clear hK K
        rw [HO1.out] at hown5
        replace hbel := bnext hbel hb5
        have hcv := (Sl.of_own hown5).string_all
        clear hcf hcg hbf hbg lf lg hb5 hk5
        repeat (refine ml_quiet ?_; go_big_quiet_step (fail); refine wpQuiet_nil ?_)
        refine ml_loud rfl ?_
        intro K hK
        go_simp
        go_at_call 19
        refine (rbytes_any a0 a1 a2 g3 g4 g5 g6 g7 g8 g9 g10 g11 g12 g13 _).mono ?_
        rintro e w6 ⟨v6, rfl, hown6, hb6, hk6⟩
        refine hK _ _ w6.heap.size hb6.size hb6 ?_
        clear hK K
        rw [HO2.out] at hown6
        replace hbel := bnext hbel hb6
        clear hcv hb6 hk6
        have hcv := (Sl.of_own hown6).string_all
        repeat (refine ml_quiet ?_; go_big_quiet_step (fail); refine wpQuiet_nil ?_)
        refine ml_nil ?_
        go_wp2
        go_ret
        exact ⟨ret_bool (by rw [HL.out]; simp), hbel⟩
      · go_wp2
        go_ret
        exact ⟨ret_bool (by rw [HL.out]; simp [hver]), hbel⟩
    · go_wp2
      go_ret
      refine ⟨ret_bool ?_, hbel⟩
      rw [HL.out]
      have := HI.out
      by_cases h0 : a0 = g0
      · have h1 : a1 ≠ g1 := by
          intro h1
          rw [if_neg (by simpa using h0)] at this
          omega
        rw [if_neg (by simpa using h0)] at this
        simp [h0, h1]
        omega
      · rw [if_pos h0] at this
        simp [h0]
        omega
end Go.Proofs.Ytplmpipenljonaa
