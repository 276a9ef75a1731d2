/-
  FactBack: a made fact is read back by fact.Read from its bytes, whatever follows them, and from no proper beginning of them. No conditions.
-/
import Derived.Test.YtplmpipenljonaaFd2
import Derived.Test.YtplmpipenljonaaRd1
import Derived.Test.YtplmpipenljonaaFrb
namespace Go.Proofs.Ytplmpipenljonaa
open Go.ChangeShapes Go.WideShapes Go.ChangeAt Go.RowKit
set_option linter.unusedVariables false

theorem factO_valid {f : Fct} (h : validB f = true) : factO f = factL f := by simp [factO, h]
theorem factL_len (f : Fct) : 7 ≤ (factL f).length ∧ (factL f).length ≤ 43 := by
  unfold factL
  rw [List.length_append, headB_len]
  have := letters_len f (usesL f.kind)
  have h6 := usesL_le f.kind
  have e : (usesS f.kind).size = (usesL f.kind).length := by simp [usesS, ByteArray.size]
  omega
theorem own_some {w : World} {base : Nat} {v : Value} {l : List UInt8} (h : w.ownsRow base 5 1 v l.length (bytesV l)) (hl : 0 < l.length) : ∃ g c, v = .slice (some ⟨g, 0, none⟩) l.length c ∧ base ≤ g ∧ l.length ≤ c ∧ g < w.heap.size := by
  rcases h.2 with ⟨rfl, h0⟩ | ⟨g, cap, cur, rfl, hb, hg, hc, _⟩
  · omega
  · exact ⟨g, cap, rfl, hb, hc, (Array.getElem?_eq_some_iff.1 hg).1⟩
theorem Sl.take {B : Nat} {w : World} {b o c n : Nat} {l : List UInt8} (h : Sl B w (.slice (some ⟨b, o, none⟩) l.length c) l) (hn : n ≤ l.length) : Sl B w (.slice (some ⟨b, o, none⟩) n c) (l.take n) := by
  obtain ⟨a, c', he, hc, h⟩ := h
  injection he with h1 h2 h3
  subst h1 h3
  refine ⟨_, _, by rw [List.length_take, Nat.min_eq_left hn], by simp; omega, fun hl => ?_⟩
  simp at hl
  obtain ⟨b', o', ha, hb, hcell⟩ := h (by omega)
  refine ⟨b', o', ha, hb, fun j u hu => ?_⟩
  have hj : j < n := by have := (List.getElem?_eq_some_iff.1 hu).1; simp at this; omega
  rw [List.getElem?_take_of_lt hj] at hu
  exact hcell j u hu

set_option maxRecDepth 100000 in
set_option maxHeartbeats 4000000 in
theorem lback_walk (r0 r1 r2 : Int) (r3 : Bool) (r4 r5 r6 r7 r8 r9 r10 r11 r12 : Int) (a : Option Addr) (c : Nat) (rest : List UInt8) (cut : Int) (w : World) (z1 : -9223372036854775808 ≤ r9) (z2 : r9 ≤ 9223372036854775807)
    (hz : a = none → c = 0) (hsl : Sl w.heap.size w (.slice a rest.length c) rest) :
    Calls Try.prog 9 #[.agg #[.int .i64 r0, .int .i64 r1, .int .i64 r2, .bool r3, .int .i64 r4, .int .i64 r5, .int .i64 r6, .int .i64 r7, .int .i64 r8, .int .i64 r9, .int .i64 r10, .int .i64 r11, .int .i64 r12], .slice a rest.length c, .int .i64 cut] w fun e w' => e = .returned (.bool true) ∧ Below w.heap.size w w' := by
  have HSL := Lib.hid hsl
  clear hsl
  by_cases hlong : 100 < (rest.length : Int)
  · go_enter Try.func9, Try.ntmps9
    go_wp2
    go_ret
    exact ⟨rfl, (Below.refl _ _).alloc (Nat.le_refl _) _⟩
  go_enter Try.func9, Try.ntmps9
  go_wp2_with (go_at_call 17; refine (make_any r0 r1 r2 r3 r4 r5 r6 r7 r8 r9 r10 r11 r12 _ z1 z2).mono ?_; rintro e w1 ⟨⟨g0, g1, g2, g3, g4, g5, g6, g7, g8, g9, g10, g11, g12, g13⟩, rfl, hv, hb1⟩; simp only [fcells])
  obtain ⟨W, hW⟩ : ∃ W, W = w1.alloc (.cells #[.int .i64 g0, .int .i64 g1, .int .i64 g2, .bool g3, .int .i64 g4, .int .i64 g5, .int .i64 g6, .int .i64 g7, .int .i64 g8, .int .i64 g9, .int .i64 g10, .int .i64 g11, .int .i64 g12, .int .i64 g13] 31) := ⟨_, rfl⟩
  have hf : BlkIs W w1.heap.size 31 #[.int .i64 g0, .int .i64 g1, .int .i64 g2, .bool g3, .int .i64 g4, .int .i64 g5, .int .i64 g6, .int .i64 g7, .int .i64 g8, .int .i64 g9, .int .i64 g10, .int .i64 g11, .int .i64 g12, .int .i64 g13] := by rw [hW]; exact BlkIs.new _ _ _
  have hbel : Below w.heap.size w W := by
    rw [hW]
    have := hb1.size
    simp at this
    exact (((Below.refl _ _).alloc (Nat.le_refl _) _).trans (hb1.mono (by simp))).alloc (by omega) _
  rw [← hW]
  clear hW hb1
  refine (bytes_any g0 g1 g2 g3 g4 g5 g6 g7 g8 g9 g10 g11 g12 g13 _).mono ?_
  rintro e w2 ⟨v2, rfl, hown2, hb2, hk2⟩
  rw [factO_valid hv] at hown2
  obtain ⟨l1, l2⟩ := factL_len ⟨g0, g1, g2, g3, g4, g5, g6, g7, g8, g9, g10, g11, g12, g13⟩
  have HBK := Lib.hid (rd_back hv rest)
  have HCT := Lib.hid (rd_cut hv)
  generalize factL ⟨g0, g1, g2, g3, g4, g5, g6, g7, g8, g9, g10, g11, g12, g13⟩ = L at *
  replace hf := hf.below hb2 hf.lt
  replace hbel := Below.next hbel hb2
  clear hb2 hk2
  obtain ⟨gb, cb, rfl, hgb, hcb, hgl⟩ := own_some hown2 (by omega)
  have hs2 := Sl.of_own hown2
  clear hown2
  have hl0 : ((L.length : Int) == 0) = false := beq_eq_false_iff_ne.2 (by omega)
  go_wp2_with (first
    | (go_at_call 11; refine (awake_any _).mono ?_; rintro e w3 ⟨rfl, hb3⟩; replace hf := hf.below hb3 hf.lt; replace hbel := Below.next hbel hb3; replace hs2 := (hs2.below hb3).mono hb3.size; have hg3 : gb < w3.heap.size := Nat.lt_of_lt_of_le hgl hb3.size; clear hb3 hgl)
    | (at_builtin; refine wpList_appSl (by rfl) _ _ (by rfl) w3.heap.size w3.heap.size (.slice none 0 0) _ [] L w3 (by rfl) (own_nil _ _) (by rfl) hs2 (fun c h => by cases h) (by simp; omega) (Nat.le_refl _) ?_; intro v4 w4 hown4 hb4 hk4 hg4; rw [List.nil_append] at hown4; clear hk4 hg4)
    | (at_builtin; refine wpList_appSl (by rfl) _ _ (by rfl) w3.heap.size w.heap.size v4 _ L rest w4 (by rfl) hown4 (by rfl) (HSL.out.below (Below.next hbel hb4)) (fun c h => by injection h with h1 _ h3; rw [← h3]; exact hz h1) (by omega) hb4.size ?_; intro v5 w5 hown5 hb5 hk5 hg5; replace hb5 := hb4.trans hb5; clear hk5 hg5 hb4 hown4)
    | (go_at_call 22; refine (read_any v5 (L ++ rest) _ (Sl.of_own hown5) (by simp; omega)).mono ?_; rintro e w6 ⟨rfl, hb6⟩; obtain ⟨k1, k2, k3⟩ := HBK.out; rw [k1, k2, k3]; simp only [fcells]; replace hb6 := hb5.trans (hb6.mono hb5.size); clear k1 k2 k3 hb5 hown5; replace hf := hf.below hb6 hf.lt; replace hbel := Below.next hbel hb6; replace hs2 := (hs2.below hb6).mono hb6.size; have hg6 : gb < w6.heap.size := Nat.lt_of_lt_of_le hg3 hb6.size; clear hb6 hg3))
  obtain ⟨V, hV⟩ : ∃ V, V = w6.alloc (.cells #[.int .i64 g0, .int .i64 g1, .int .i64 g2, .bool g3, .int .i64 g4, .int .i64 g5, .int .i64 g6, .int .i64 g7, .int .i64 g8, .int .i64 g9, .int .i64 g10, .int .i64 g11, .int .i64 g12, .int .i64 g13] 31) := ⟨_, rfl⟩
  have hg : BlkIs V w6.heap.size 31 #[.int .i64 g0, .int .i64 g1, .int .i64 g2, .bool g3, .int .i64 g4, .int .i64 g5, .int .i64 g6, .int .i64 g7, .int .i64 g8, .int .i64 g9, .int .i64 g10, .int .i64 g11, .int .i64 g12, .int .i64 g13] := by rw [hV]; exact BlkIs.new _ _ _
  replace hf : BlkIs V w1.heap.size 31 #[.int .i64 g0, .int .i64 g1, .int .i64 g2, .bool g3, .int .i64 g4, .int .i64 g5, .int .i64 g6, .int .i64 g7, .int .i64 g8, .int .i64 g9, .int .i64 g10, .int .i64 g11, .int .i64 g12, .int .i64 g13] := by rw [hV]; exact hf.alloc _
  replace hbel : Below w.heap.size w V := by rw [hV]; exact hbel.alloc hbel.size _
  replace hs2 : Sl V.heap.size V (.slice (some ⟨gb, 0, none⟩) L.length cb) L := by rw [hV]; exact (hs2.below ((Below.refl _ _).alloc (Nat.le_refl _) _)).mono (by simp)
  rw [← hV]
  clear hV hg6
  refine (pick_any _ _ _ (by omega) (by omega)).mono ?_
  rintro e w' ⟨rfl, rfl⟩
  obtain ⟨p1, p2⟩ := emod_bd cut (L.length : Int) (by omega)
  obtain ⟨j, hj⟩ := Int.eq_ofNat_of_zero_le p1
  rw [hj] at p1 p2 ⊢
  clear hj
  have hjl : j < L.length := by omega
  have HS := Lib.hid (hs2.take (n := j) (by omega))
  clear hs2
  go_wp2_with (go_at_call 22; refine (read_any _ (L.take j) _ HS.out (by simp; omega)).mono ?_; rintro e w7 ⟨rfl, hb7⟩; have k1 := HCT.out j hjl; rw [rdFact, rdLen, k1]; simp only [fcells, zeroFct, if_false, Bool.false_eq_true]; clear k1; replace hf := hf.below hb7 hf.lt; replace hg := hg.below hb7 hg.lt; replace hbel := Below.next hbel hb7; clear hb7; have hcf := hf.cell; have hcg := hg.cell; have hlf := hf.lt; have hlg := hg.lt)
  go_ret
  exact ⟨rfl, hbel.alloc hbel.size _⟩

set_option maxRecDepth 100000 in
theorem lback_lifted (os : Os) (started : os.Started) (H : Type) (enc : TypeId × Value → H) :
    ReturnsInHanded {} Try.checked os 9 .any (Rows.factBackSpec.pre6 enc Try.prog Try.f9 Rows.factBackRow.domain false) (Rows.factBackSpec.post enc Try.prog Try.f9 false true false false) := by
  refine returnsInHanded_of_change (C := Try.checked) own_knob started (by kernel_rfl) Try.func9
    (ChangeSpec.witness6 (enc := enc) (C := Try.checked) false ⟨#[], #[.agg #[.int .i64 0, .int .i64 0, .int .i64 0, .bool false, .int .i64 0, .int .i64 0, .int .i64 0, .int .i64 0, .int .i64 0, .int .i64 0, .int .i64 0, .int .i64 0, .int .i64 0], .slice none 0 0, .int .i64 0], []⟩ 8 (by kernel_rfl) (by kernel_rfl) (by kernel_rfl) (by kernel_rfl)) ?_
  intro W base args ds gs before hval0 hW hcnd _
  have hval : ∀ (j : Nat) t v, Try.f9.params[j]? = some t → args[j]? = some v → Value.okWide Try.prog W .any base t v := hval0
  have hW' := hW
  obtain ⟨p, q, hA0, hV, rfl, hfz, hnd⟩ := hW
  have hA : DataW.TrodAll enc Try.prog W 0 (fun _ => true) true Try.f9.params.toList args.toList ds p := hA0
  rw [Try.params9] at hA hval
  obtain ⟨v0, vs0, d0, ds0, p0, q0, hargs, rfl, rfl, h0, tl0⟩ := trodAll_cons hA
  obtain ⟨v1, vs1, d1, ds1, p1, q1, rfl, rfl, rfl, h1, tl1⟩ := trodAll_cons tl0
  obtain ⟨v2, vs2, d2, ds2, p2, q2, rfl, rfl, rfl, h2, tl2⟩ := trodAll_cons tl1
  obtain ⟨rfl, rfl, rfl⟩ := trodAll_nil tl2
  obtain rfl : args = #[v0, v1, v2] := by cases args; simp_all
  obtain ⟨rfl, rfl⟩ := trodVars_none hV
  have k0 := h0
  have lt0 : ∀ x ∈ p0, x.block < W.heap.size := by obtain ⟨m, hm⟩ := k0; exact DataW.trod_lt m _ _ _ hm
  have k1 := h1
  have lt1 : ∀ x ∈ p1, x.block < W.heap.size := by obtain ⟨m, hm⟩ := k1; exact DataW.trod_lt m _ _ _ hm
  have k2 := h2
  have lt2 : ∀ x ∈ p2, x.block < W.heap.size := by obtain ⟨m, hm⟩ := k2; exact DataW.trod_lt m _ _ _ hm
  obtain ⟨r0, r1, r2, r3, r4, r5, r6, r7, r8, r9, r10, r11, r12, rfl, _, _, _, _, _, _, _, _, z9, _⟩ := open_hand (hval 0 _ v0 rfl rfl) h0
  obtain ⟨a, c, l, rfl, hz, hsl⟩ := open_bytes (hval 1 _ v1 rfl rfl) h1
  obtain ⟨b, rfl, rfl, rfl, w2⟩ := open_int Try.underlying3 (hval 2 3 v2 rfl rfl) h2
  clear hA0 hval0
  refine (lback_walk r0 r1 r2 r3 r4 r5 r6 r7 r8 r9 r10 r11 r12 a c l b W z9.1 z9.2 hz hsl).mono fun e W' ⟨he, bel⟩ => ?_
  subst he
  exact ⟨_, rfl, _, _, _, [], _, [], hW', trodAll_mk1 (shut_bool Try.underlying4 _), (trodAll_cons_mk (Below.trod laid_out (by kernel_rfl) (of_decide_eq_true (by kernel_rfl)) k0 bel lt0) (trodAll_cons_mk (Below.trod laid_out (by kernel_rfl) (of_decide_eq_true (by kernel_rfl)) k1 bel lt1) (trodAll_cons_mk (Below.trod laid_out (by kernel_rfl) (of_decide_eq_true (by kernel_rfl)) k2 bel lt2) trodAll_mk0))), rfl, bel.frame _, fun h => by cases h⟩

theorem lback_over : Rows.factBackRow.holds Try.pinned (OpenSpec.ofChange Rows.factBackSpec) :=
  OpenClaim.holds_of_wide 9 Try.f9 rfl rfl rfl rfl rfl rfl rfl ⟨rfl, rfl, rfl, rfl, rfl⟩ rfl rfl rfl rfl rfl (by kernel_rfl) Try.func9 (by kernel_rfl)
    (of_decide_eq_true (by kernel_rfl)) (by unfold Func.isWrapper; first | (rw [if_pos (by decide +kernel)]; kernel_rfl) | (rw [if_neg (by decide +kernel)]; exact ⟨rfl, rfl⟩))
    (fun os started H enc _ => lback_lifted os started H enc)

/-- The statement. -/
theorem lback_holds : Rows.FactBackSaid := lback_over
#print axioms lback_holds
end Go.Proofs.Ytplmpipenljonaa
