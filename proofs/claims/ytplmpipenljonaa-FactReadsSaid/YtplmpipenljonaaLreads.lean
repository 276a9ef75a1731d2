/-
  FactReads: fact.Read and the reference's Read return the same for any bytes and for the changed or cut bytes of a made fact. No conditions.
-/
import Derived.Test.YtplmpipenljonaaFd2
import Derived.Test.YtplmpipenljonaaRf2
import Derived.Test.YtplmpipenljonaaFrb
import Derived.Deep.DeepCutAuto
namespace Go.Proofs.Ytplmpipenljonaa
open Go.ChangeShapes Go.WideShapes Go.ChangeAt Go.RowKit
set_option linter.unusedVariables false

theorem own_take {w : World} {base g c n : Nat} {l : List UInt8} (h : w.ownsRow base 5 1 (.slice (some ⟨g, 0, none⟩) l.length c) l.length (bytesV l)) (hn : n ≤ l.length) :
    w.ownsRow base 5 1 (.slice (some ⟨g, 0, none⟩) n c) (l.take n).length (bytesV (l.take n)) := by
  have e : (l.take n).length = n := by simp; omega
  rcases h.2 with ⟨h', _⟩ | ⟨g', cap', cur, h', hb, hg, hnc, hcm, hcs, htake⟩
  · simp at h'
  · simp only [Value.slice.injEq, Option.some.injEq, Addr.mk.injEq, and_true, true_and] at h'
    obtain ⟨rfl, rfl⟩ := h'
    refine ⟨by rw [bytesV_length]; omega, .inr ⟨g, c, cur, by rw [e], hb, hg, by omega, hcm, hcs, ?_⟩⟩
    have : bytesV (l.take n) = (bytesV l).take n := by simp [bytesV, List.map_take]
    rw [this, ← htake, List.take_take, e]
    congr 1
    omega
theorem own_set {w : World} {base g c j : Nat} {l : List UInt8} (h : w.ownsRow base 5 1 (.slice (some ⟨g, 0, none⟩) l.length c) l.length (bytesV l)) (u : UInt8) :
    (w.setCell ⟨g, j, none⟩ (.int .u8 (u.toNat : Int))).ownsRow base 5 1 (.slice (some ⟨g, 0, none⟩) (l.set j u).length c) (l.set j u).length (bytesV (l.set j u)) := by
  have h1 := (h.stored j (.int .u8 (u.toNat : Int))).1
  have e : (l.set j u).length = l.length := by simp
  have e2 : bytesV (l.set j u) = (bytesV l).set j (.int .u8 (u.toNat : Int)) := by simp [bytesV, List.map_set]
  rw [e, e2]
  exact h1
theorem xor_byte (x : UInt8) (c : Int) (h0 : 0 ≤ c) (h1 : c ≤ 255) : ∃ u : UInt8, bits .xor .u8 (x.toNat : Int) c = (u.toNat : Int) := by
  have hx := x.toNat_lt
  have := u8_xor (x.toNat : Int) c (by omega) (by omega) h0 (by omega)
  rw [this]
  have hlt : (x.toNat : Int).toNat ^^^ c.toNat < 256 := by
    have := Nat.xor_lt_two_pow (n := 8) (x := (x.toNat : Int).toNat) (y := c.toNat) (by omega) (by omega)
    simpa using this
  refine ⟨UInt8.ofNat ((x.toNat : Int).toNat ^^^ c.toNat), ?_⟩
  rw [UInt8.toNat_ofNat', Nat.mod_eq_of_lt (by simpa using hlt)]

theorem pickn_any (x mm : Int) (m : Nat) (w : World) (hm : mm = m) (h0 : 1 ≤ m) (h1 : m ≤ 1000000000) :
    Calls Try.prog 10 #[.int .i64 x, .int .i64 mm] w fun e w' => ∃ j : Nat, j < m ∧ e = .returned (.int .i64 (j : Int)) ∧ w = w' := by
  subst hm
  refine (pick_any x m w (by omega) (by omega)).mono ?_
  rintro e w' ⟨rfl, rfl⟩
  obtain ⟨p1, p2⟩ := emod_bd x (m : Int) (by omega)
  obtain ⟨j, hj⟩ := Int.eq_ofNat_of_zero_le p1
  exact ⟨j, by omega, by rw [hj], rfl⟩


set_option maxRecDepth 100000 in
set_option maxHeartbeats 6000000 in
theorem lreads_walk (r0 r1 r2 : Int) (r3 : Bool) (r4 r5 r6 r7 r8 r9 r10 r11 r12 : Int) (a : Option Addr) (c : Nat) (l : List UInt8) (at0 x : Int) (raw : Bool) (w : World) (z1 : -9223372036854775808 ≤ r9) (z2 : r9 ≤ 9223372036854775807)
    (hz : a = none → c = 0) (hsl : Sl w.heap.size w (.slice a l.length c) l) (x0 : 0 ≤ x) (x1 : x ≤ 255) :
    Calls Try.prog 8 #[.agg #[.int .i64 r0, .int .i64 r1, .int .i64 r2, .bool r3, .int .i64 r4, .int .i64 r5, .int .i64 r6, .int .i64 r7, .int .i64 r8, .int .i64 r9, .int .i64 r10, .int .i64 r11, .int .i64 r12], .slice a l.length c, .int .i64 at0, .int .u8 x, .bool raw] w fun e w' => e = .returned (.bool true) ∧ Below w.heap.size w w' := by
  by_cases hlong : 300 < (l.length : Int)
  · clear hsl
    go_enter Try.func8, Try.ntmps8
    go_wp2
    go_ret
    exact ⟨rfl, (Below.refl _ _).alloc (Nat.le_refl _) _⟩
  cases raw
  · have HSL := Lib.hid hsl
    clear hsl
    go_enter Try.func8, Try.ntmps8
    go_upto_if 29 with (first
      | (go_at_call 17; refine (make_any r0 r1 r2 r3 r4 r5 r6 r7 r8 r9 r10 r11 r12 _ z1 z2).mono ?_; rintro e w1 ⟨⟨g0, g1, g2, g3, g4, g5, g6, g7, g8, g9, g10, g11, g12, g13⟩, rfl, hv, hb1⟩; simp only [fcells])
      | (go_at_call 19; refine (rbytes_any g0 g1 g2 g3 g4 g5 g6 g7 g8 g9 g10 g11 g12 g13 _).mono ?_; rintro e w2 ⟨v2, rfl, hown2, hb2, hk2⟩; rw [factO_valid hv] at hown2; obtain ⟨l1, l2⟩ := factL_len ⟨g0, g1, g2, g3, g4, g5, g6, g7, g8, g9, g10, g11, g12, g13⟩; generalize factL ⟨g0, g1, g2, g3, g4, g5, g6, g7, g8, g9, g10, g11, g12, g13⟩ = L at *)
      | (at_builtin; refine wpList_appSl (by rfl) _ _ (by rfl) w2.heap.size w2.heap.size (.slice none 0 0) v2 [] L w2 (by rfl) (own_nil _ _) (by rfl) (Sl.of_own hown2) (own_nilcap hown2) (by simp; omega) (Nat.le_refl _) ?_; intro v3 w3 hown3 hb3 hk3 hg3; rw [List.nil_append] at hown3; clear hk3 hg3 hown2 hk2 hv))
    obtain ⟨base, hbase⟩ : ∃ base, base = w2.heap.size := ⟨_, rfl⟩
    have hbel : Below w.heap.size w w3 := bnext (bnext (bnext ((Below.refl _ _).alloc (Nat.le_refl _) _) hb1) hb2) hb3
    have hbb : w.heap.size ≤ base := by rw [hbase]; exact (bnext (bnext ((Below.refl _ _).alloc (Nat.le_refl _) _) hb1) hb2).size
    have hb9 : base ≤ w3.heap.size := by rw [hbase]; exact hb3.size
    rw [← hbase] at hown3
    clear hbase hb1 hb2 hb3
    obtain ⟨g, cg, rfl, hg, hcg, hgl⟩ := own_some hown3 (by omega)
    obtain ⟨n, hn⟩ : ∃ n, n = L.length := ⟨_, rfl⟩
    rw [← hn] at l1 l2 hcg ⊢
    have HN := Lib.hid hn
    clear hn
    go_cut [] (fun wx => ∃ L' : List UInt8, L'.length = n ∧ wx.ownsRow base 5 1 (.slice (some ⟨g, 0, none⟩) L'.length cg) L'.length (bytesV L') ∧ Below w.heap.size w wx ∧ base ≤ wx.heap.size)
    case first =>
      have hcell : ∀ j, j < n → ∃ u : UInt8, w3.cell? ⟨g, j, none⟩ = some (.int .u8 (u.toNat : Int)) := by
        intro j h
        have h' : j < L.length := by rw [← HN.out]; exact h
        refine ⟨L[j], ?_⟩
        rw [hown3.cellAt j (by omega)]
        simp [bytesV, h']
      have hfrz := hown3.frozenAt
      have HO := Lib.hid hown3
      clear hown3
      go_wp2_with (go_at_call 10; refine (pickn_any _ _ n _ rfl (by omega) (by omega)).mono ?_; rintro e w' ⟨j, hj, rfl, rfl⟩; obtain ⟨y, hcj⟩ := hcell j hj; obtain ⟨u, hu⟩ := xor_byte y x x0 x1; clear hcell)
      · go_meet
        refine ⟨L.set j u, by rw [List.length_set, HN.out], own_set HO.out u, hbel.setCell (p := ⟨g, j, none⟩) (by simp; omega) _, by simp [World.setCell]; exact hb9⟩
      · go_meet
        exact ⟨L, HN.out.symm, HO.out, hbel, hb9⟩
    case rest =>
      clear hown3 hbel hb9 HN
      obtain ⟨L', hL', hown, hbel, hb9⟩ := hcut
      have HO := Lib.hid hown
      clear hown
      go_upto_if 43 with fail
      go_cut [11] (fun s11 wx => ∃ L2 : List UInt8, L2.length ≤ 43 ∧ wx.ownsRow base 5 1 s11 L2.length (bytesV L2) ∧ Below w.heap.size w wx ∧ base ≤ wx.heap.size)
      case first =>
        go_wp2_with (go_at_call 10; refine (pickn_any _ _ (n + 1) _ rfl (by omega) (by omega)).mono ?_; rintro e w' ⟨j, hj, rfl, rfl⟩)
        · go_meet
          have h9 := own_take HO.out (n := j) (by omega)
          exact ⟨L'.take j, by simp; omega, h9, hbel, hb9⟩
        · go_meet
          have h9 := HO.out
          rw [hL'] at h9
          exact ⟨L', by omega, by rw [hL']; exact h9, hbel, hb9⟩
      case rest =>
        clear HO hbel hb9
        obtain ⟨L2, hL2, hown, hbel, hb9⟩ := hcut
        have hlen9 : (L2 ++ l).length ≤ 400 := by simp; omega
        go_wp2_with (at_builtin; refine wpList_appSl (by rfl) _ _ (by rfl) base w.heap.size _ _ L2 l _ (by rfl) hown (by rfl) (HSL.out.below hbel) (fun c h => by injection h with h1 _ h3; rw [← h3]; exact hz h1) (by omega) hb9 ?_; intro v5 w5 hown5 hb5 hk5 hg5; have hbel5 := hbel.trans (hb5.mono hbb); clear hk5 hg5 hown hb5 hbel hb9)
        have hsl5 := Sl.of_own hown5
        clear hown5
        generalize L2 ++ l = L3 at hsl5 hlen9
        obtain ⟨F, hF⟩ : ∃ F, F = rdFact L3 := ⟨_, rfl⟩
        obtain ⟨m, hm⟩ : ∃ m, m = rdLen L3 := ⟨_, rfl⟩
        obtain ⟨k, hk⟩ : ∃ k, k = rdOk L3 := ⟨_, rfl⟩
        obtain ⟨g0, g1, g2, g3, g4, g5, g6, g7, g8, g9, g10, g11, g12, g13⟩ := F
        have HR := Lib.hid (And.intro hF (And.intro hm hk))
        clear hF hm hk
        go_wp2_with (first
          | (go_at_call 22; refine (read_any _ L3 _ hsl5 (by omega)).mono ?_; rintro e w1 ⟨rfl, hb1⟩; obtain ⟨q1, q2, q3⟩ := HR.out; rw [← q1, ← q2, ← q3]; clear q1 q2 q3; simp only [fcells]; have hsl1 := (hsl5.below hb1).mono hb1.size; have hbel1 := bnext hbel5 hb1; clear hb1)
          | (go_at_call 23; refine (rread_any _ L3 _ ((hsl1.below ((Below.refl _ _).alloc (Nat.le_refl _) _)).mono (by simp)) (by omega)).mono ?_; rintro e w2 ⟨rfl, hb2⟩; obtain ⟨q1, q2, q3⟩ := HR.out; rw [← q1, ← q2, ← q3]; clear q1 q2 q3; simp only [fcells]; have hf2 : BlkIs w2 w1.heap.size 31 #[.int .i64 g0, .int .i64 g1, .int .i64 g2, .bool g3, .int .i64 g4, .int .i64 g5, .int .i64 g6, .int .i64 g7, .int .i64 g8, .int .i64 g9, .int .i64 g10, .int .i64 g11, .int .i64 g12, .int .i64 g13] := (BlkIs.new _ _ _).below hb2 (by simp); have hbel2 := (hbel1.alloc hbel1.size _).trans (hb2.mono (Nat.le_trans hbel1.size (by simp))); clear hb2)
          | (go_at_call 11; refine (awake_any _).mono ?_; rintro e w3 ⟨rfl, hb3⟩; have hf3 := (hf2.alloc _).below hb3 (Nat.lt_of_lt_of_le hf2.lt (by simp)); have hg3 : BlkIs w3 w2.heap.size 31 #[.int .i64 g0, .int .i64 g1, .int .i64 g2, .bool g3, .int .i64 g4, .int .i64 g5, .int .i64 g6, .int .i64 g7, .int .i64 g8, .int .i64 g9, .int .i64 g10, .int .i64 g11, .int .i64 g12, .int .i64 g13] := (BlkIs.new _ _ _).below hb3 (by simp); have hbel3 := (hbel2.alloc hbel2.size _).trans (hb3.mono (Nat.le_trans hbel2.size (by simp))); clear hb3; have hcf := hf3.cell; have hcg := hg3.cell))
        go_ret
        exact ⟨rfl, hbel3⟩
  · obtain ⟨W, hW⟩ : ∃ W, W = w.alloc (.cells #[.int .i64 r0, .int .i64 r1, .int .i64 r2, .bool r3, .int .i64 r4, .int .i64 r5, .int .i64 r6, .int .i64 r7, .int .i64 r8, .int .i64 r9, .int .i64 r10, .int .i64 r11, .int .i64 r12] 27) := ⟨_, rfl⟩
    have hbel : Below w.heap.size w W := by rw [hW]; exact (Below.refl _ _).alloc (Nat.le_refl _) _
    have hsl0 := (hsl.below hbel).mono hbel.size
    clear hsl
    go_enter Try.func8, Try.ntmps8
    go_wp2_with fail
    rw [← hW]
    clear hW
    obtain ⟨F, hF⟩ : ∃ F, F = rdFact l := ⟨_, rfl⟩
    obtain ⟨m, hm⟩ : ∃ m, m = rdLen l := ⟨_, rfl⟩
    obtain ⟨k, hk⟩ : ∃ k, k = rdOk l := ⟨_, rfl⟩
    obtain ⟨g0, g1, g2, g3, g4, g5, g6, g7, g8, g9, g10, g11, g12, g13⟩ := F
    have HR := Lib.hid (And.intro hF (And.intro hm hk))
    clear hF hm hk
    go_wp2_with (first
      | (go_at_call 22; refine (read_any _ l _ hsl0 (by omega)).mono ?_; rintro e w1 ⟨rfl, hb1⟩; obtain ⟨q1, q2, q3⟩ := HR.out; rw [← q1, ← q2, ← q3]; clear q1 q2 q3; simp only [fcells]; have hsl1 := (hsl0.below hb1).mono hb1.size; have hbel1 := bnext hbel hb1; clear hb1)
      | (go_at_call 23; refine (rread_any _ l _ ((hsl1.below ((Below.refl _ _).alloc (Nat.le_refl _) _)).mono (by simp)) (by omega)).mono ?_; rintro e w2 ⟨rfl, hb2⟩; obtain ⟨q1, q2, q3⟩ := HR.out; rw [← q1, ← q2, ← q3]; clear q1 q2 q3; simp only [fcells]; have hf2 : BlkIs w2 w1.heap.size 31 #[.int .i64 g0, .int .i64 g1, .int .i64 g2, .bool g3, .int .i64 g4, .int .i64 g5, .int .i64 g6, .int .i64 g7, .int .i64 g8, .int .i64 g9, .int .i64 g10, .int .i64 g11, .int .i64 g12, .int .i64 g13] := (BlkIs.new _ _ _).below hb2 (by simp); have hbel2 := (hbel1.alloc hbel1.size _).trans (hb2.mono (Nat.le_trans hbel1.size (by simp))); clear hb2)
      | (go_at_call 11; refine (awake_any _).mono ?_; rintro e w3 ⟨rfl, hb3⟩; have hf3 := (hf2.alloc _).below hb3 (Nat.lt_of_lt_of_le hf2.lt (by simp)); have hg3 : BlkIs w3 w2.heap.size 31 #[.int .i64 g0, .int .i64 g1, .int .i64 g2, .bool g3, .int .i64 g4, .int .i64 g5, .int .i64 g6, .int .i64 g7, .int .i64 g8, .int .i64 g9, .int .i64 g10, .int .i64 g11, .int .i64 g12, .int .i64 g13] := (BlkIs.new _ _ _).below hb3 (by simp); have hbel3 := (hbel2.alloc hbel2.size _).trans (hb3.mono (Nat.le_trans hbel2.size (by simp))); clear hb3; have hcf := hf3.cell; have hcg := hg3.cell))
    go_ret
    exact ⟨rfl, hbel3⟩

set_option maxRecDepth 100000 in
theorem lreads_lifted (os : Os) (started : os.Started) (H : Type) (enc : TypeId × Value → H) :
    ReturnsInHanded {} Try.checked os 8 .any (Rows.factReadsSpec.pre6 enc Try.prog Try.f8 Rows.factReadsRow.domain false) (Rows.factReadsSpec.post enc Try.prog Try.f8 false true false false) := by
  refine returnsInHanded_of_change (C := Try.checked) own_knob started (by kernel_rfl) Try.func8
    (ChangeSpec.witness6 (enc := enc) (C := Try.checked) false ⟨#[], #[.agg #[.int .i64 0, .int .i64 0, .int .i64 0, .bool false, .int .i64 0, .int .i64 0, .int .i64 0, .int .i64 0, .int .i64 0, .int .i64 0, .int .i64 0, .int .i64 0, .int .i64 0], .slice none 0 0, .int .i64 0, .int .u8 0, .bool false], []⟩ 8 (by kernel_rfl) (by kernel_rfl) (by kernel_rfl) (by kernel_rfl)) ?_
  intro W base args ds gs before hval0 hW hcnd _
  have hval : ∀ (j : Nat) t v, Try.f8.params[j]? = some t → args[j]? = some v → Value.okWide Try.prog W .any base t v := hval0
  have hW' := hW
  obtain ⟨p, q, hA0, hV, rfl, hfz, hnd⟩ := hW
  have hA : DataW.TrodAll enc Try.prog W 0 (fun _ => true) true Try.f8.params.toList args.toList ds p := hA0
  rw [Try.params8] at hA hval
  obtain ⟨v0, vs0, d0, ds0, p0, q0, hargs, rfl, rfl, h0, tl0⟩ := trodAll_cons hA
  obtain ⟨v1, vs1, d1, ds1, p1, q1, rfl, rfl, rfl, h1, tl1⟩ := trodAll_cons tl0
  obtain ⟨v2, vs2, d2, ds2, p2, q2, rfl, rfl, rfl, h2, tl2⟩ := trodAll_cons tl1
  obtain ⟨v3, vs3, d3, ds3, p3, q3, rfl, rfl, rfl, h3, tl3⟩ := trodAll_cons tl2
  obtain ⟨v4, vs4, d4, ds4, p4, q4, rfl, rfl, rfl, h4, tl4⟩ := trodAll_cons tl3
  obtain ⟨rfl, rfl, rfl⟩ := trodAll_nil tl4
  obtain rfl : args = #[v0, v1, v2, v3, v4] := by cases args; simp_all
  obtain ⟨rfl, rfl⟩ := trodVars_none hV
  have k0 := h0
  have lt0 : ∀ x ∈ p0, x.block < W.heap.size := by obtain ⟨m, hm⟩ := k0; exact DataW.trod_lt m _ _ _ hm
  have k1 := h1
  have lt1 : ∀ x ∈ p1, x.block < W.heap.size := by obtain ⟨m, hm⟩ := k1; exact DataW.trod_lt m _ _ _ hm
  have k2 := h2
  have lt2 : ∀ x ∈ p2, x.block < W.heap.size := by obtain ⟨m, hm⟩ := k2; exact DataW.trod_lt m _ _ _ hm
  have k3 := h3
  have lt3 : ∀ x ∈ p3, x.block < W.heap.size := by obtain ⟨m, hm⟩ := k3; exact DataW.trod_lt m _ _ _ hm
  have k4 := h4
  have lt4 : ∀ x ∈ p4, x.block < W.heap.size := by obtain ⟨m, hm⟩ := k4; exact DataW.trod_lt m _ _ _ hm
  obtain ⟨r0, r1, r2, r3, r4, r5, r6, r7, r8, r9, r10, r11, r12, rfl, _, _, _, _, _, _, _, _, z9, _⟩ := open_hand (hval 0 _ v0 rfl rfl) h0
  obtain ⟨a, c, l, rfl, hz, hsl⟩ := open_bytes (hval 1 _ v1 rfl rfl) h1
  obtain ⟨n, rfl, rfl, rfl, w2⟩ := open_int Try.underlying3 (hval 2 3 v2 rfl rfl) h2
  obtain ⟨x, rfl, rfl, rfl, w3⟩ := open_int Try.underlying5 (hval 3 5 v3 rfl rfl) h3
  obtain ⟨raw, rfl, rfl, rfl⟩ := open_bool Try.underlying4 (hval 4 4 v4 rfl rfl) h4
  clear hA0 hval0
  refine (lreads_walk r0 r1 r2 r3 r4 r5 r6 r7 r8 r9 r10 r11 r12 a c l n x raw W z9.1 z9.2 hz hsl (u8_of_wf w3).1 (u8_of_wf w3).2).mono fun e W' ⟨he, bel⟩ => ?_
  subst he
  exact ⟨_, rfl, _, _, _, [], _, [], hW', trodAll_mk1 (shut_bool Try.underlying4 _), (trodAll_cons_mk (Below.trod laid_out (by kernel_rfl) (of_decide_eq_true (by kernel_rfl)) k0 bel lt0) (trodAll_cons_mk (Below.trod laid_out (by kernel_rfl) (of_decide_eq_true (by kernel_rfl)) k1 bel lt1) (trodAll_cons_mk (Below.trod laid_out (by kernel_rfl) (of_decide_eq_true (by kernel_rfl)) k2 bel lt2) (trodAll_cons_mk (Below.trod laid_out (by kernel_rfl) (of_decide_eq_true (by kernel_rfl)) k3 bel lt3) (trodAll_cons_mk (Below.trod laid_out (by kernel_rfl) (of_decide_eq_true (by kernel_rfl)) k4 bel lt4) trodAll_mk0))))), rfl, bel.frame _, fun h => by cases h⟩

theorem lreads_over : Rows.factReadsRow.holds Try.pinned (OpenSpec.ofChange Rows.factReadsSpec) :=
  OpenClaim.holds_of_wide 8 Try.f8 rfl rfl rfl rfl rfl rfl rfl ⟨rfl, rfl, rfl, rfl, rfl⟩ rfl rfl rfl rfl rfl (by kernel_rfl) Try.func8 (by kernel_rfl)
    (of_decide_eq_true (by kernel_rfl)) (by unfold Func.isWrapper; first | (rw [if_pos (by decide +kernel)]; kernel_rfl) | (rw [if_neg (by decide +kernel)]; exact ⟨rfl, rfl⟩))
    (fun os started H enc _ => lreads_lifted os started H enc)

/-- The statement. -/
theorem lreads_holds : Rows.FactReadsSaid := lreads_over
#print axioms lreads_holds
end Go.Proofs.Ytplmpipenljonaa
