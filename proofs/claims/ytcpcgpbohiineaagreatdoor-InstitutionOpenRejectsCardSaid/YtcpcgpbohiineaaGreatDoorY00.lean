/- Tactics and notions of the proof of InstitutionOpenRejects (file Y28). -/
import Derived.BigGuardPart
import Derived.Deep.AppendLies
import Derived.Deep.CutBlock
import Derived.Deep.DeepCutAuto
import Derived.Deep.DeepHandedRow
import Derived.Deep.Fields
import Derived.Deep.RegionHeld3
import Derived.Great.BuildSlice
import Derived.Handy
import Derived.Laws.AppendOwnNone
import Derived.Laws.CopyOwn
import Derived.Lay
import Derived.Lib.AppendIntMem
import Derived.Lib.BytesEntry
import Derived.RangeFuncNested
import Derived.SevenTiedAt
import Derived.Shelf.Bytes.SlClone
import Derived.Shelf.Bytes.SlEqualAll
import Derived.Shelf.GgSortFunc.Tiny
import Derived.Shelf.GgSortFunc.Whole
import Derived.Shelf.SlIterI.Sorted
import Derived.Shelf.SlMaps.Clone
import Derived.Shelf.SlSortFuncK.WholeK
import Derived.Shelf.Slices.In.SortNone
import Derived.Shelf.Small.Wraps
import Derived.Shelf.Sort.Plain
import Derived.Shelf.Strconv.Itoa3
import Derived.Shelf.Strings.Cut
import Derived.ShutString
import Derived.StillTailTactics
import Derived.Stop.LaidErr
import Derived.Test.YtcpcgpbohiineaaGreatDoorProg
import Derived.WalkLawsBesides
import Derived.WalkSpells
import Derived.WideKeyEntry
namespace Go.Proofs.YtcpcgpbohiineaaGreatDoor
open Go.RowKit Go.Proofs.Tryz
set_option linter.all false
set_option maxRecDepth 100000
set_option maxHeartbeats 4000000
abbrev AN:=@Below.refl
abbrev AU:=@if_neg
abbrev Ab:=@if_pos
abbrev Aj:=@List.mem_cons
abbrev Ap:=@Nat.le_trans
abbrev At:=@Bool.and_eq_true
abbrev Aw:=@beq_eq_false_iff_ne
abbrev Az:=@Nat.zero_le
abbrev A8:=@List.getElem?_cons_zero
abbrev A':=@List.not_mem_nil
abbrev A_:=@or_false
abbrev BE:=@bodyPost_ret
abbrev BL:=@List.getElem?_eq_getElem
abbrev Bh:=@Nat.le_refl
abbrev Bt:=@List.getElem?_cons_succ
abbrev Bu:=@List.mem_of_getElem?
abbrev CA:=@decide_eq_true
abbrev CB:=@List.length_cons
abbrev CJ:=@decide_eq_true_eq
abbrev CI:=@if_true
abbrev CH:=@List.getElem?_toArray
abbrev CW:=@Option.some.injEq
abbrev Cd:=@List.getElem?_eq_some_iff
abbrev Cj:=@wpQuiet_nil
abbrev Ci:=@Nat.add_zero
abbrev Cp:=@List.length_append
abbrev Co:=@Nat.lt_of_lt_of_le
abbrev Cn:=@Array.getElem?_eq_getElem
abbrev C7:=@beq_iff_eq
abbrev DC:=@List.cons_append
abbrev DI:=@decide_eq_false
abbrev DP:=@Nat.zero_add
abbrev DS:=@List.all_eq_true
abbrev DW:=@Bool.false_eq_true
abbrev DV:=@if_false
abbrev Dg:=@List.nil_append
abbrev Dq:=@List.mem_cons_of_mem
abbrev D0:=@List.mem_cons_self
abbrev EE:=@List.length_nil
abbrev EM:=@List.length_drop
abbrev El:=@List.append_nil
abbrev E1:=@List.mem_append
abbrev E9:=@List.append_assoc
abbrev E8:=@bne_iff_ne
abbrev E7:=@Array.getElem?_eq_some_iff
abbrev Fh:=@List.foldl_cons
abbrev Fg:=@Nat.lt_or_ge
abbrev F6:=@List.take_length
abbrev GI:=@Below.heap_alloc
abbrev Gr:=@List.mem_map
abbrev Gq:=@List.getElem_mem
abbrev HE:=@List.length_take
abbrev HB:=@List.take_of_length_le
abbrev HA:=@List.map_cons
abbrev Hg:=@Prod.mk.injEq
abbrev Hf:=@heap_alloc_new
abbrev Ic:=@of_decide_eq_true
abbrev Ia:=@World.ownsRow_nil
abbrev JB:=@Nat.pow_succ
abbrev JA:=@List.getElem?_map
abbrev I':=@Array.getElem?_setIfInBounds
abbrev I_:=@Nat.pow_le_pow_right
abbrev I9:=@wpOp_mono
abbrev I8:=@wpList_append_own
abbrev I7:=@mem_ready
abbrev I6:=@Option.map_eq_some_iff
abbrev I5:=@List.drop_drop
abbrev I4:=@List.flatMap_cons
abbrev I3:=@Nat.le_of_lt
abbrev Jy:=@Nat.mul_assoc
abbrev Jx:=@and_true
abbrev Jw:=@List.eq_nil_of_length_eq_zero
abbrev Jv:=@List.mem_singleton
abbrev Ju:=@List.all_cons
abbrev Jt:=@Nat.le_of_ble_eq_true
abbrev Kp:=@Int.natCast_nonneg
abbrev Km:=@Value.slice.injEq
abbrev Kl:=@Array.getElem?_eq_none
abbrev Kk:=@List.drop_eq_getElem_cons
abbrev Kj:=@Nat.add_mul
abbrev Ki:=@Bool.or_eq_true
abbrev Lj:=@List.length_map
abbrev Li:=@List.map_append
abbrev Lh:=@bodyPost_end
abbrev Lg:=@Below.heap_setCell
abbrev Lf:=@Sem.run_bind
abbrev Le:=@yieldsIn_of_qOp
abbrev Ld:=@Option.some.inj
abbrev Lc:=@List.getElem?_take
abbrev Lb:=@List.flatten_cons
abbrev Ml:=@List.all_append
abbrev Mk:=@List.take_add_one
abbrev Mj:=@List.take_succ_eq_append_getElem
abbrev Mi:=@Nat.mod_lt
abbrev Mh:=@List.cons.injEq
abbrev Mg:=@List.drop_eq_nil_of_le
abbrev Mf:=@Nat.eq_zero_or_pos
abbrev Me:=@Region.noSelect_spec
abbrev Md:=@List.take_append_drop
abbrev Nq:=@Nat.mul_comm
abbrev Np:=@Bool.or_false
abbrev No:=@Bool.false_or
abbrev Nn:=@getD_set_ne
abbrev Nm:=@Bool.true_and
abbrev Nl:=@List.any_eq_true
abbrev Nk:=@Array.getElem?_setIfInBounds_ne
abbrev Nj:=@Nat.add_assoc
abbrev Ni:=@Bool.not_eq_true'
abbrev Nh:=@List.drop_zero
abbrev Ng:=@Array.getElem?_toList
abbrev Nf:=@Nat.one_mul
abbrev Nd:=@callsIn_wide
abbrev PQ:=@decide_eq_false_iff_not
abbrev PP:=@List.contains_nil
abbrev PO:=@List.set_cons_succ
abbrev PN:=@List.set_cons_zero
abbrev PD:=@List.length_eq_zero_iff
abbrev PC:=@Oper.wp_mono
abbrev PB:=@List.mem_filterMap
abbrev PA:=@Bool.not_eq_true
abbrev O':=@Int.eq_ofNat_of_zero_le
abbrev O_:=@Region.free_spec
abbrev O9:=@List.flatten_append
abbrev O8:=@Nat.xor_assoc
abbrev O7:=@List.pairwise_cons
abbrev O6:=@Nat.zero_mul
abbrev O5:=@Nat.dvd_of_mod_eq_zero
abbrev RF:=@Nat.gcd_dvd_right
abbrev RE:=@List.setIfInBounds_toArray
abbrev RD:=@List.foldl_append
abbrev RC:=@IntWalk.i64_in
abbrev RB:=@List.mem_range
abbrev RA:=@Int.emod_nonneg
abbrev Q':=@Int.emod_lt_of_pos
abbrev Q_:=@Sem.run_pure
abbrev Q9:=@Nat.mul_one
abbrev Q8:=@wp_region_any
abbrev Q7:=@List.mem_of_mem_take
abbrev Q0:=@List.map_nil
abbrev Qz:=@List.drop_succ_cons
abbrev Qy:=@List.any_cons
abbrev Qx:=@List.takeWhile_cons
abbrev Qw:=@Bool.and_self
abbrev Qv:=@Nat.mul_le_mul_right
abbrev Qu:=@Addr.mk.injEq
abbrev Qt:=@List.getElem?_append_right
abbrev Qs:=@run_underlying
abbrev Qr:=@MapKept.run_getObj_map
abbrev Qq:=@List.take_succ_cons
abbrev Tq:=@Nat.gcd_dvd_left
abbrev Tp:=@List.contains_cons
abbrev Tn:=@ByteArray.data_append
abbrev Tm:=@Nat.mul_le_mul_left
abbrev Tl:=@Bool.eq_false_iff
abbrev Tk:=@List.getElem?_take_of_lt
abbrev Tj:=@Bool.not_true
abbrev Ti:=@Nat.mod_two_eq_zero_or_one
abbrev Th:=@World.cell?_of_block
abbrev Tg:=@List.dropWhile_cons
abbrev Tf:=@Nat.le_of_dvd
abbrev Te:=@List.getElem?_append_left
abbrev Td:=@Option.map_some
abbrev Tc:=@List.eq_nil_or_concat
abbrev Wl:=@Array.toList_append
abbrev Wk:=@IntWalk.wrap64_in
abbrev Wj:=@List.nodup_append
abbrev Wi:=@World.cell?_setCell_other
abbrev Wh:=@List.getElem?_drop
abbrev Wg:=@List.take_append_of_le_length
abbrev Wf:=@Nat.xor_lt_two_pow
abbrev We:=@List.Pairwise.sublist
abbrev Wd:=@Bool.not_eq_false'
abbrev Wc:=@List.any_eq_false
abbrev Wb:=@ByteArray.data_extract
abbrev Wa:=@Option.isSome_iff_exists
abbrev WZ:=@MapKept.run_setObj_map
abbrev WY:=@Nat.mul_div_cancel
abbrev cN:=@Array.setIfInBounds_comm
abbrev cM:=@List.takeWhile_append_dropWhile
abbrev cL:=@Array.all_eq_true_iff_forall_mem
abbrev cK:=@List.drop_append_of_le_length
abbrev cJ:=@Nat.gcd_pos_of_pos_left
abbrev cI:=@Nat.le_mul_of_pos_right
abbrev cH:=@Option.bind_eq_some_iff
abbrev cG:=@Array.getElem?_setIfInBounds_self_of_lt
section
variable{p:Prop}
def O(h:p):Hid p:=h
abbrev AE:=List UInt8
abbrev BH:=Option Addr
abbrev Ay:=List Int
abbrev AA:=World
abbrev AB:=Value
def AI:Fin 2:=0
instance:CoeFun (Fin 2) λ_=>Nat->Array Value->World->(Ending->World->Prop)->Prop:=⟨λ_=>Calls prog⟩
def _root_.Go.RowKit.Hid.o(h:Hid p):p:=h
instance:Coe Int Value:=⟨.int .i64⟩
instance:Coe Nat Value:=⟨λn=>.int .i64 (n:Int)⟩
instance:Coe Unit Value:=⟨λ_=>.int .i64 0⟩
instance:Coe Bool Value:=⟨.bool⟩
instance:Coe Nat (Option Addr):=⟨λg=>some ⟨g,0,none⟩⟩
instance:Coe World Nat:=⟨λw=>w.heap.size⟩
def QB{w:World}{g o m:Nat}{x0 x1:Value}{l:List Value}(h:∀j,j<m->w.cell? ⟨g,o+j,none⟩=(x0::x1::l)[j]?)(h2:1<m:=by decide):w.cell? ⟨g,o,none⟩=some x0/\w.cell? ⟨g,o+1,none⟩=some x1:=⟨h 0 (by omega),h 1 (by omega)⟩
def Z3{w:World}{g o m:Nat}{x0 x1 x2:Value}{l:List Value}(h:∀j,j<m->w.cell? ⟨g,o+j,none⟩=(x0::x1::x2::l)[j]?)(h2:2<m:=by decide):w.cell? ⟨g,o,none⟩=some x0/\w.cell? ⟨g,o+1,none⟩=some x1/\w.cell? ⟨g,o+2,none⟩=some x2:=⟨h 0 (by omega),h 1 (by omega),h 2 (by omega)⟩
def LD{w:World}{g o m:Nat}{x0 x1 x2 x3:Value}{l:List Value}(h:∀j,j<m->w.cell? ⟨g,o+j,none⟩=(x0::x1::x2::x3::l)[j]?)(h2:3<m:=by decide):w.cell? ⟨g,o,none⟩=some x0/\w.cell? ⟨g,o+1,none⟩=some x1/\w.cell? ⟨g,o+2,none⟩=some x2/\w.cell? ⟨g,o+3,none⟩=some x3:=⟨h 0 (by omega),h 1 (by omega),h 2 (by omega),h 3 (by omega)⟩
def xe{w:World}{g o m:Nat}{x0 x1 x2 x3 Bk:Value}{l:List Value}(h:∀j,j<m->w.cell? ⟨g,o+j,none⟩=(x0::x1::x2::x3::Bk::l)[j]?)(h2:4<m:=by decide):w.cell? ⟨g,o,none⟩=some x0/\w.cell? ⟨g,o+1,none⟩=some x1/\w.cell? ⟨g,o+2,none⟩=some x2/\w.cell? ⟨g,o+3,none⟩=some x3/\w.cell? ⟨g,o+4,none⟩=some Bk:=⟨h 0 (by omega),h 1 (by omega),h 2 (by omega),h 3 (by omega),h 4 (by omega)⟩
def ANt{w:World}{g o m:Nat}{x0 x1 x2 x3 Bk ES:Value}{l:List Value}(h:∀j,j<m->w.cell? ⟨g,o+j,none⟩=(x0::x1::x2::x3::Bk::ES::l)[j]?)(h2:5<m:=by decide):w.cell? ⟨g,o,none⟩=some x0/\w.cell? ⟨g,o+1,none⟩=some x1/\w.cell? ⟨g,o+2,none⟩=some x2/\w.cell? ⟨g,o+3,none⟩=some x3/\w.cell? ⟨g,o+4,none⟩=some Bk/\w.cell? ⟨g,o+5,none⟩=some ES:=⟨h 0 (by omega),h 1 (by omega),h 2 (by omega),h 3 (by omega),h 4 (by omega),h 5 (by omega)⟩
def KJ{w:World}{g o m:Nat}{x0 x1 x2 x3 Bk ES E4:Value}{l:List Value}(h:∀j,j<m->w.cell? ⟨g,o+j,none⟩=(x0::x1::x2::x3::Bk::ES::E4::l)[j]?)(h2:6<m:=by decide):w.cell? ⟨g,o,none⟩=some x0/\w.cell? ⟨g,o+1,none⟩=some x1/\w.cell? ⟨g,o+2,none⟩=some x2/\w.cell? ⟨g,o+3,none⟩=some x3/\w.cell? ⟨g,o+4,none⟩=some Bk/\w.cell? ⟨g,o+5,none⟩=some ES/\w.cell? ⟨g,o+6,none⟩=some E4:=⟨h 0 (by omega),h 1 (by omega),h 2 (by omega),h 3 (by omega),h 4 (by omega),h 5 (by omega),h 6 (by omega)⟩
def VN{w:World}{g o m:Nat}{x0 x1 x2 x3 Bk ES E4 Fs:Value}{l:List Value}(h:∀j,j<m->w.cell? ⟨g,o+j,none⟩=(x0::x1::x2::x3::Bk::ES::E4::Fs::l)[j]?)(h2:7<m:=by decide):w.cell? ⟨g,o,none⟩=some x0/\w.cell? ⟨g,o+1,none⟩=some x1/\w.cell? ⟨g,o+2,none⟩=some x2/\w.cell? ⟨g,o+3,none⟩=some x3/\w.cell? ⟨g,o+4,none⟩=some Bk/\w.cell? ⟨g,o+5,none⟩=some ES/\w.cell? ⟨g,o+6,none⟩=some E4/\w.cell? ⟨g,o+7,none⟩=some Fs:=⟨h 0 (by omega),h 1 (by omega),h 2 (by omega),h 3 (by omega),h 4 (by omega),h 5 (by omega),h 6 (by omega),h 7 (by omega)⟩
def ANr{w:World}{g o m:Nat}{x0 x1 x2 x3 Bk ES E4 Fs Gx ID KL M' SU:Value}{l:List Value}(h:∀j,j<m->w.cell? ⟨g,o+j,none⟩=(x0::x1::x2::x3::Bk::ES::E4::Fs::Gx::ID::KL::M'::SU::l)[j]?)(h2:12<m:=by decide):w.cell? ⟨g,o,none⟩=some x0/\w.cell? ⟨g,o+1,none⟩=some x1/\w.cell? ⟨g,o+2,none⟩=some x2/\w.cell? ⟨g,o+3,none⟩=some x3/\w.cell? ⟨g,o+4,none⟩=some Bk/\w.cell? ⟨g,o+5,none⟩=some ES/\w.cell? ⟨g,o+6,none⟩=some E4/\w.cell? ⟨g,o+7,none⟩=some Fs/\w.cell? ⟨g,o+8,none⟩=some Gx/\w.cell? ⟨g,o+9,none⟩=some ID/\w.cell? ⟨g,o+10,none⟩=some KL/\w.cell? ⟨g,o+11,none⟩=some M'/\w.cell? ⟨g,o+12,none⟩=some SU:=⟨h 0 (by omega),h 1 (by omega),h 2 (by omega),h 3 (by omega),h 4 (by omega),h 5 (by omega),h 6 (by omega),h 7 (by omega),h 8 (by omega),h 9 (by omega),h 10 (by omega),h 11 (by omega),h 12 (by omega)⟩
def BQ{α:Type}(l:List α)(i:Nat)(h:i<l.length):∃x,l[i]? = some x:=⟨_,BL h⟩
def Fr(n m:Nat):Array Bool:=(List.replicate n true++List.replicate m false).toArray
def AL:Fin 1:=0
instance:Coe (Fin 1) Value:=⟨λ_=>.slice none 0 0⟩
abbrev BX(v:Value)(w:World)(e:Ending)(w':World):Prop:=e=.returned v/\w=w'
abbrev Bz(v:Value)(w:World)(e:Ending)(w':World):Prop:=e=.returned v/\Below w.heap.size w w'
def A5(h:p:=by simp[intOf];omega):p:=h
def Ar(a b:Int)(h:a<b:=by omega):decide (a<b)=true:=CA h
def A4(a b:Int)(h:¬a<b:=by omega):decide (a<b)=false:=DI h
def LC(a b:Int)(h:a<=b:=by omega):decide (a<=b)=true:=CA h
def KI(a b:Int)(h:¬a<=b:=by omega):decide (a<=b)=false:=DI h
def U(h:p:=by omega):=h
def AF(h:p:=by kernel_rfl):=h
def AD(h:p:=by decide):=h
def xc(h:p:=by first|exact AN _ _|exact Do (AN _ _) _|exact Do (Do (AN _ _) _) _|exact Do (Do (Do (AN _ _) _) _) _):=h
def AH(h:p:=by simp):=h
def AM(h:p:=by simp;omega):=h
def A7(h:p:=by go_num):=h
def AZ(h:p:=by rfl):=h
def FD(h:p:=by simp[Dn];omega):=h
def C2(h:p:=by simp[Value.oneCell']):=h
def Z1(h:p:=by have:=U7.o;rw[Ml,At] at this;exact this.1):=h
def Z0(h:p:=by have:=U7.o;rw[Ml,At] at this;exact this.2):=h
def iM(h:p:=by show pos<b.toArray.size;simpa using hp):=h
def E3(h:p:=by first|rfl|omega):=h
def ANo(h:p:=by intro k hk;simp[Value.ownBlock] at hk;omega):=h
def Hr(h:p:=by simp only[maxLen];omega):=h
def FC(h:p:=by simp[Dn]):=h
def LB(h:p:=by rcases hty with e|e<;>rw[e]<;>decide):=h
def GQ(h:p:=by have:=HLEN.o;omega):=h
def Fq(h:p:=by simpa using h):=h
def OT(h:p:=by rw[DM] at hj;simpa using hj):=h
def P_(h:p:=by rw[Cp];simp;omega):=h
def LA(h:p:=by rw[RX];omega):=h
def OS(h:p:=by simp only[BJ,CJ];omega):=h
def JP(h:p:=by simpa using hlt):=h
def VJ(h:p:=by rw[hW];exact((AN _ _).alloc (Bh _) _).drew):=h
def HP(h:p:=by exact hown):=h
def Gw(h:p:=by rw[DM];simp):=h
def KG(h:p:=by rw[h] at hr;cases hr):=h
def Ip(h:p:=by simp[hy]):=h
def M8(h:p:=by rw[HE];omega):=h
def iK(h:p:=by simpa using hown):=h
def ANl(h:p:=by have:=(Cd.1 hu).1;rw[RX] at this;exact this):=h
def SQ(h:p:=by simp[results,results158]):=h
def P8(h:p:=by rw[hW];exact AG.new _ _ _):=h
def OR(h:p:=by simpa using h1):=h
def KF(h:p:=by simpa using hi):=h
def Zz(h:p:=by show 0<a.toArray.size;simp;omega):=h
def ANj(h:p:=by first|rfl|go_num|(congr 1;omega)):=h
def iI(h:p:=by simp only[C4,Lj];exact List.length_filter_le _ _):=h
def iH(h:p:=by first|omega|(rw[Cp];show t.length+1<=100;omega)):=h
def Zy(h:p:=by rcases ht with e|e|e|e|e|e|e<;>rw[e]<;>decide):=h
def ANi(h:p:=by show _=_;rw[K8.o,JB,Jy]):=h
def P6(h:p:=by simpa using hp):=h
def L_(h:p:=by decide +kernel):=h
def L9(h:p:=by simpa using ho):=h
def SP(h:p:=by have:=D'.o.size;omega):=h
def iE(h:p:=by unfold Addr.add;split<;>simp_all):=h
def Zv(h:p:=by have:=Aa.size;omega):=h
def ANe(h:p:=by have:=Yw.o;unfold AY.BY at this;simp only[At] at this;exact this.2):=h
def Zu(h:p:=by rw[<-hs];exact Gr.2 ⟨_,hx,rfl⟩):=h
def OP(h:p:=by have:=Il.o;omega):=h
def SO(h:p:=by as_aux_lemma=>kernel_rfl):=h
def ANc(h:p:=by rw[Int.natCast_mul];exact L5.o.Fy _):=h
def SN(h:p:=by simpa using h2):=h
def ANb(h:p:=by rw[hlen,hn0]):=h
def xa(h:p:=by show DQ _ _ _ _ _ (Ks (λ_=>false) _);rw[ALI];exact DQ.empty h.JD):=h
def Zt(h:p:=by show i<l.toArray.size;simpa using hlt):=h
def xZ(h:p:=by rw[<-hsz1];exact World.iter_heap _ _ _):=h
def VH(h:p:=by rw[JA,ha];rfl):=h
def VG(h:p:=by rw[JA,hb];rfl):=h
def xX(h:p:=by simp[results,results211,go_sem]):=h
def Zr(h:p:=by show W.heap.size+1≠W.heap.size;omega):=h
def ANZ(h:p:=by rw[Aq.o];exact Ax.o.le):=h
def Zq(h:p:=by have:=h.lo;show w.heap.size≠b;omega):=h
def Zp(h:p:=by have:=h.lo;show w.heap.size<=b;omega):=h
def Zo(h:p:=by show _=_;rw[N5.o,<-IB.o,Cw]):=h
def ANX(h:p:=by show ¬b.length<b.toArray.size;simp):=h
def xV(h:p:=by simp[Lit.wf,IntKind.min,IntKind.max,IntKind.bits,IntKind.signed];exact h):=h
def xU(h:p:=by rcases Nb with h|h|h|h|h|h|h<;>rw[h]<;>decide):=h
def VF(h:p:=by intro e;injection e;omega):=h
def ANV(h:p:=by have:=l[j].toNat_lt;omega):=h
def ANU(h:p:=by rw[show a[0]=48 from by have:=congrArg UInt8.ofNat e;simpa using this]):=h
def ANT(h:p:=by rw[Aq.o];exact AM1.o):=h
def xT(h:p:=by show DQ _ _ _ _ _ (LX [] _);rw[AH2];exact DQ.empty h.Jp):=h
def ANS(h:p:=by rw[Tu.o];exact F6):=h
def xS(h:p:=by unfold AY.BY at hv;simp only[At] at hv;exact hv.2):=h
def ANg(h:p:=by show _=_;rw[SA.o,JB]):=h
def ANf(h:p:=by rw[Int.natCast_add];exact wQ.o):=h
def Zx(h:p:=by rcases ht with rfl|rfl<;>decide):=h
def Zw(h:p:=by rw[NE];exact AG3):=h
def P5(h:p:=by unfold Ec;omega):=h
def ANP(h:p:=by show _=_;rw[<-hg.o,Nat.gcd_comm a b,Nat.gcd_rec b a,Nat.gcd_comm]):=h
def Zn(h:p:=by show _=_;rw[IB.o];exact Q1.o):=h
def iC(h:p:=by rw[Cp];go_num):=h
def iB(h:p:=by rw[show u=_ from h];simp[Value.oneCell']):=h
def P0(h:p:=by simpa using hj):=h
def Pz(h:p:=by simpa using hr):=h
def SL(h:p:=by simpa using h3):=h
def ANO(h:p:=by simp;try omega):=h
def iA(h:p:=by rw[<-hs];exact Gr.2 ⟨y,hy,rfl⟩):=h
def VD(h:p:=by have:=ZL.o;omega):=h
def h_(h:p:=by simp[I',iQ]):=h
def Zm(h:p:=by rw[HG2.o.1,OI.o.2,M0.o.2]):=h
def OM(h:p:=by simp[JX]):=h
def xR(h:p:=by have:=CM.o.mem j m hm;omega):=h
def M5(h:p:=by rw[h];rfl):=h
def SK(h:p:=by unfold LE;omega):=h
def Zl(h:p:=by rw[Fp.o];exact QM a5):=h
def xQ(h:p:=by rw[Aq.o];simp[h2,h3];omega):=h
def ANN(h:p:=by have:=heq.o;simpa[be,Hid] using this):=h
def hZ(h:p:=by rw[SC.o.1,HG2.o.2,OI.o.2,M0.o.2]):=h
def Zk(h:p:=by show _=_;rw[H.o,dH]):=h
def ANM(h:p:=by rw[hp];rcases E1.1 hi with h|h<;>simp[h]):=h
def VC(h:p:=by unfold Wp;decide):=h
def xP(h:p:=by rw[hW];exact(AN _ _).alloc (Bh _) _):=h
def hU(h:p:=by simp only[CB];omega):=h
def SJ(h:p:=by simpa using hb):=h
def SI(h:p:=by simpa using hs):=h
def xO(h:p:=by rw[wX.o.1,go.o.2,SC.o.2,HG2.o.2,OI.o.2,M0.o.2]):=h
def xN(h:p:=by rw[Aq.o];simp[h3];omega):=h
def xM(h:p:=by unfold Dr;rw[Ab h,hx];simp only;rw[AU hc]):=h
def xL(h:p:=by rw[FB.o];exact AC.o.out):=h
def Zj(h:p:=by simp[Hid,d_,hadd]):=h
def xK(h:p:=by have:=heq.o;simpa[be] using this):=h
def hO(h:p:=by show t.toArray.size<=_;simp;omega):=h
def U'(h:p:=by have:=OJ.o;omega):=h
def Zi(h:p:=by simp[Hid,Jq,Jr,hd]):=h
def xJ(h:p:=by simp only[DW,DV];kernel_rfl):=h
def Zh(h:p:=by rw[<-Tu.out];exact hlt):=h
def U_(h:p:=by have:=A2.o;omega):=h
def U9(h:p:=by rw[m4,Cw]):=h
def ANQ(h:p:=by rw[<-SA.o];exact A2.o):=h
def iD(h:p:=by rw[Fp.o];rfl):=h
def xF(h:p:=by have:=(Cd.1 hu).1;omega):=h
def ANL(h:p:=by first|rw[<-F8.o]|rfl):=h
def Ze(h:p:=by rw[OI.o.1,M0.o.2]):=h
def xE(h:p:=by rw[go.o.1,SC.o.2,HG2.o.2,OI.o.2,M0.o.2]):=h
def SF(h:p:=by rw[hlt];rfl):=h
def Zd(h:p:=by rw[Gu.o];simp[hmm]):=h
def SE(h:p:=by simp[Ox]):=h
def ANK(h:p:=by rw[hk',Nq,<-JB];exact hm):=h
def ANJ(h:p:=by rw[ZJ.o,ZM.o];rfl):=h
def Zc(h:p:=by simpa using h0):=h
def xD(h:p:=by have:=EM (i:=j) (l:=l);omega):=h
def xC(h:p:=by unfold Addr.add;by_cases h0:j=0<;>simp[h0]):=h
def xB(h:p:=by show _=_;rw[Cp];exact By.o):=h
def g_(h:p:=by rw[EM];omega):=h
def Zb(h:p:=by simp[Hid,G7,hv]):=h
def ANI(h:p:=by show _=_;rw[Cp,ZL.o];rfl):=h
def gz(h:p:=by simp[A3,RZ]):=h
def xA(h:p:=by simp only[G0,CJ];omega):=h
def ANH(h:p:=by rw[BI.o,By.o]):=h
def w_(h:p:=by unfold Oper.asks at *;rw[he];exact hasks):=h
def gy(h:p:=by show _=_;simp):=h
def w9(h:p:=by have:=GO.o.Ao.inc k c' c hc' HC.o;omega):=h
def w8(h:p:=by have:=gn.o.2.1;exact⟨by omega,by omega⟩):=h
def w7(h:p:=by have:=gn.o.2.2;exact⟨by omega,by omega⟩):=h
def ANC(h:p:=by show _=_;rw[FB.o,Cp];rfl):=h
def w6(h:p:=by rw[Aq.o];simp[h2]):=h
def xI(h:p:=by simp[E6];omega):=h
def Zf(h:p:=by show _<=_;simp[hn]):=h
def xH(h:p:=by obtain⟨⟨_,hb,_⟩,_⟩:=RH.r;exact hb.lt):=h
def xG(h:p:=by obtain⟨⟨_,hb,_⟩,_⟩:=PF.r;exact hb.lt):=h
def wy(h:p:=by have:=gn.o.1;exact⟨by omega,by omega⟩):=h
def wv(h:p:=by unfold Dr;rw[Ab h,Qm hh]):=h
def wu(h:p:=by rw[A2.o];rfl):=h
def ZW(h:p:=by rw[KA.o];rfl):=h
def gx(h:p:=by unfold BC;simp;omega):=h
def AM_(h:p:=by rw[HD.o,wa.o,By.o];rfl):=h
def AM9(h:p:=by rw[OF.o,Li];exact AM0.o):=h
def wt(h:p:=by have:=By.o.inc k c' c hc' HC.o;omega):=h
def AM8(h:p:=by have:=CM.o.inc k m' m hm' K8.o;omega):=h
def wq(h:p:=by unfold Dw;rw[Ab A2.o,KA.o];rfl):=h
def gw(h:p:=by obtain⟨v,rfl,_⟩:=h;rfl):=h
def AM7(h:p:=by rw[gj.o];omega):=h
def ZV(h:p:=by simpa using hcc):=h
def gv(h:p:=by simpa using hab):=h
def wo(h:p:=by show _=_;unfold F1;rw[AU he]):=h
def wn(h:p:=by simp[Hid,BZ,BD,Cv,hlt]):=h
def wm(h:p:=by rw[hp];exact D0 ..):=h
def SD(h:p:=by simp[hr]):=h
def wl(h:p:=by have q:=gb.o;rw[<-An.o] at q;omega):=h
def wk(h:p:=by rw[Tx];exact Kp _):=h
def AM6(h:p:=by unfold Dw;rw[Ab A2.o,hh];rfl):=h
def wj(h:p:=by have:=hb2.size;simp at this;omega):=h
def ZT(h:p:=by simpa using hc):=h
def ZS(h:p:=by simpa using hl):=h
def wh(h:p:=by simp only[HE];omega):=h
def gu(h:p:=by simpa using h4):=h
def ANA(h:p:=by rw[OF.o,AIX,U8.o];go_num):=h
def AM'(h:p:=by rw[OF.o,zZ,U8.o];go_num):=h
def w5(h:p:=by rw[PQ];omega):=h
def wz(h:p:=by rw[HE,hown.1];omega):=h
def wO(h:p:=by injection e with e1 e2 e3;rw[e1]):=h
def wN(h:p:=by unfold F1;rw[Ab h,hb];rfl):=h
def ga(h:p:=by rw[NE];omega):=h
def gZ(h:p:=by simpa[BN] using h):=h
def wM(h:p:=by obtain⟨vs,rfl,h⟩:=h;simp[h.len]):=h
def wL(h:p:=by rw[Tx];exact Int.ofNat_le.2 f4):=h
def wK(h:p:=by obtain⟨a,c,e,_⟩:=h;exact⟨a,c,e⟩):=h
def wJ(h:p:=by show _=_;rw[hh];simp[Gh];omega):=h
def AMv(h:p:=by unfold Dw;rw[AU A2.o];rfl):=h
def Uz(h:p:=by simp[Hid]):=h
def AM4(h:p:=by rw[El];exact hown):=h
def wg(h:p:=by rw[O3.2 e] at hi;cases hi):=h
def we(h:p:=by rw[<-e];exact hown'):=h
def wF(h:p:=by simp only[CI];kernel_rfl):=h
def AMu(h:p:=by rw[AC.o];rfl):=h
def wE(h:p:=by show _=_;rw[Lw.o];exact B2.o):=h
def wD(h:p:=by show _=_;rw[ZI.o];exact Q1.o):=h
def wC(h:p:=by exact hown.1):=h
def AMt(h:p:=by rw[Aq.o];rfl):=h
def gW(h:p:=by rw[hblk.cell];rfl):=h
def wB(h:p:=by rw[JB] at hn;omega):=h
def wA(h:p:=by exact AC.o.row.choose_spec.1):=h
def ZE(h:p:=by rw[M0.o.1]):=h
def v_(h:p:=by simp[Lib.compareBytes] at h):=h
def vz(h:p:=by rw[ACi hd hu];exact h):=h
def ZD(h:p:=by simp[modes]):=h
def vy(h:p:=by rw[hf];simp):=h
def vw(h:p:=by rw[RX,Dn]):=h
def vv(h:p:=by unfold B4;rw[bne,h.1];rfl):=h
def ZC(h:p:=by simp[Jf,hd]):=h
def vu(h:p:=by show _=_;rw[U1.o,hadd];rfl):=h
def vt(h:p:=by rw[Mk,h];rfl):=h
def vr(h:p:=by simpa[Value.cells] using hf):=h
def gV(h:p:=by rw[hz1];try simp):=h
def gU(h:p:=by rw[hz2];try simp):=h
def AMs(h:p:=by simp only at Ws ⊢;rw[Ws]):=h
def vq(h:p:=by have:=h.fl;simp only;omega):=h
def vp(h:p:=by first|rfl|(rw[GV];rfl)):=h
def vn(h:p:=by show _=_;rw[An.o,hadd];rfl):=h
def R_(h:p:=by rw[h]):=h
def vm(h:p:=by simp[Dc,H.o]):=h
def vl(h:p:=by rw[<-hf];exact h.f.put i u):=h
def gQ(h:p:=by push_cast;omega):=h
def gP(h:p:=by simpa using htn):=h
def gO(h:p:=by simpa using cV):=h
def gN(h:p:=by simpa using hx):=h
def gY(h:p:=by simpa using hn):=h
def gX(h:p:=by show _=_;omega):=h
def wI(h:p:=by simpa using h5):=h
def wH(h:p:=by simpa using hm):=h
def wG(h:p:=by simpa using h6):=h
def gL(h:p:=by simpa using hh):=h
def Ux(h:p:=by rw[h0]):=h
def gK(h:p:=by rw[<-e];simp):=h
def AK(h:p:=by exact(Bh _)):=h
def K6(h:p:=by exact(hb3.mono hB.size)):=h
def ZA(h:p:=by exact(λi hi=>by simpa using DS.1 hlt i hi)):=h
def DL(h:p:=by exact(AN _ _)):=h
def vh(h:p:=by exact(λo ho=>by rw[NY] at ho;injection ho with ho;subst ho;exact hall)):=h
def Uw(h:p:=by exact(ready_mono hj Dy)):=h
def AMn(h:p:=by exact(Ne.symm Dy)):=h
def vg(h:p:=by exact(λa' w'' hh=>⟨hh.1,ih Hx a' w'' hh.2⟩)):=h
def vf(h:p:=by exact(λd hd he=>by simp at hd he;exact hne (hd.trans he.symm))):=h
def ve(h:p:=by exact(λd hd he=>by rw[he] at hne;exact hne hd.symm)):=h
def vd(h:p:=by exact(λd hd=>by injection hd with hd;subst hd;exact hne)):=h
def vc(h:p:=by exact(Ap hB (Ap hw'.size AH))):=h
def vb(h:p:=by exact(Ap hB (Ap hw'.size hb.size))):=h
def Uv(h:p:=by exact(λi hi=>by simpa using DS.1 RI i hi)):=h
def BK(h:p:=by exact(λ_ _ _ _ _ h=>h)):=h
def Pu(h:p:=by exact(λk hk=>by injection hk;omega)):=h
def AMm(h:p:=by exact(QV results145 _ _ w 105 _ (0,0) _ _ _ rfl rfl rfl (La RJ 0 0 0 false 0 0 0 0 0 0 0 0 0 0) underlying105 rfl Ke)):=h
def Y'(h:p:=by exact((hsl.sub (n:=n) (k:=1) U).below hst.AJ)):=h
def AMl(h:p:=by exact(QV results334 _ _ w 105 _ (0,0) _ _ _ rfl rfl rfl (La hst.z 0 0 0 false 0 0 0 0 0 0 0 0 0 0) underlying105 rfl Ke)):=h
def Pt(h:p:=by exact((hsl.below Aa).mono Aa.size)):=h
def AMk(h:p:=by exact(DT results81 _ _ w 105 _ (0,0) _ _ rfl rfl (La hz 0 0 0 false 0 0 0 0 0 0 0 0 0 0) underlying105 rfl Ke)):=h
def AMj(h:p:=by exact(DT results281 _ _ w 105 _ (0,0) _ _ rfl rfl (La hz 0 0 0 false 0 0 0 0 0 0 0 0 0 0) underlying105 rfl Ke)):=h
def AMi(h:p:=by exact(λ⟨h4,h5⟩=>⟨h4,λx hx=>h5 x (C_.sub h3.2.1 hx)⟩)):=h
def CX(h:p:=by exact(AP.of_below hb)):=h
def gI(h:p:=by exact(λc h=>by cases h)):=h
def Y_(h:p:=by exact((AN _ _).drew)):=h
def R9(h:p:=by exact(AP.of_below IW)):=h
def OC(h:p:=by exact(c-(l.length-4))):=h
def vZ(h:p:=by exact(dN rfl hz _ _ _ _ _)):=h
def AMf(h:p:=by exact(λe=>by have:=(bZ hown _ e.symm).1;omega)):=h
def OB(h:p:=by exact(AP.refl _ _)):=h
def AMe(h:p:=by exact(DT results36 _ _ w 108 _ (0,0) _ _ rfl rfl hz underlying108 rfl Wq)):=h
def Y9(h:p:=by exact(λx hx=>by cases hx)):=h
def gH(h:p:=by exact(λj hj=>HU hown hj.symm)):=h
def Uu(h:p:=by exact(λk hk=>by cases hk)):=h
def gG(h:p:=by exact(λ_=>⟨rfl,hg⟩)):=h
def gF(h:p:=by exact(CM.o.below hb1)):=h
def gE(h:p:=by exact(Ap hz2 RG)):=h
def gD(h:p:=by exact((AN _ _).alloc hz2 _)):=h
def gC(h:p:=by exact(Ap hz2 cT)):=h
def gM(h:p:=by exact(((AN _ _).setCell hz2 _).setCell hz2 _)):=h
def vk(h:p:=by exact(An.o.1.res An.o.2)):=h
def ZB(h:p:=by exact(Ai.leaf rfl)):=h
def Pv(h:p:=by exact(Ja results295 _ _ W 213 _ (0,0) _ rfl t3 underlying213 rfl QP)):=h
def AMo(h:p:=by exact(λg hg=>⟨by omega,by omega⟩)):=h
def vi(h:p:=by exact(((Vo Hp.o (λg hg=>hg.2)).stay (hal _ _)).mono (λg hg=>hg.1))):=h
def Fn(h:p:=by exact(AO.o.below Fe)):=h
def vX(h:p:=by exact(λg hg=>⟨U,U⟩)):=h
def vW(h:p:=by exact(Ja results342 _ _ W 213 _ (0,0) _ rfl t3 underlying213 rfl QP)):=h
def N_(h:p:=by exact((AP.refl _ _).alloc _)):=h
def gB(h:p:=by exact(λg hg=>⟨hg.1,hg.2.1⟩)):=h
def Ut(h:p:=by exact(Ja results217 _ _ W 213 _ (0,0) _ rfl t3 underlying213 rfl QP)):=h
def vV(h:p:=by exact(AO.o.below (hal Hi (.cells #[a0,a1,a2,a3,AR a4,.slice ad an ac] 213)))):=h
def R8(h:p:=by exact(Bh f)):=h
def BW(h:p:=by exact(λ_ _ q=>q)):=h
def My(h:p:=by exact(λ_ _ _ _ _ h=>by cases h)):=h
def gA(h:p:=by exact(GF.mono (λ_ _ q=>q.kept hk2 hE))):=h
def R7(h:p:=by exact(To.refl h)):=h
def J'(h:p:=by exact(AO.o.trans ht2)):=h
def f_(h:p:=by exact(aL (q:=W3.heap.size) By.o (λg hg=>hg.2) 1 a0 a1 a2 a3 (AR a4) (.slice ad an ac))):=h
def JK(h:p:=by exact(λq hq _=>hq)):=h
def Y8(h:p:=by exact(A2.o.below hb1)):=h
def AMd(h:p:=by exact(CS.ACm (W:=W) D'.o.st.rs ZH.o SP GF ⟨nm,x'⟩ rfl hown DR hg2)):=h
def fy(h:p:=by exact(Ap (ih _ _) (GA r))):=h
def fx(h:p:=by exact(Ap (JV _ _) (GA r))):=h
def fw(h:p:=by exact(yA _ _ _)):=h
def fu(h:p:=by exact(Ap (of_le _ _) (GA r))):=h
def Us(h:p:=by exact((AP.refl _ _).setCell AH _)):=h
def ft(h:p:=by exact(AP.of_below hal)):=h
def AMc(h:p:=by exact(λa' w' hh=>⟨hh.1,ih a' w' hh.2⟩)):=h
def vU(h:p:=by exact(λa' w' hh=>by have:=mz _ a' w' (Gm hc nC) nO hh;rw[<-hlen] at this;exact this)):=h
def vT(h:p:=by exact(DT results59 _ _ w 97 _ (0,0) _ _ rfl rfl (((hz.put 0 _).put 1 _).alloc _) underlying97 rfl mn)):=h
def J_(h:p:=by exact(Az _)):=h
def K3(h:p:=by exact(Ic AF)):=h
def CE(h:p:=by exact(λ_ _ _ h=>by cases h)):=h
def fq(h:p:=by exact(hk.block _ h.map.lt h2)):=h
def N9(h:p:=by exact(λh=>by cases h)):=h
def Y7(h:p:=by exact(Iff.trans ANO Aq.o.symm)):=h
def Bg(h:p:=by exact(AC.o.below hb1)):=h
def AMa(h:p:=by exact(I_ (n:=10) AD (show G+1<=5 by omega))):=h
def fp(h:p:=by exact(AC.o.below hb3)):=h
def Mx(h:p:=by exact(hk.below h.AJ.size (λq hq=>(hS q hq).1))):=h
def vS(h:p:=by exact(((Fp.o.below Ax.o.AJ).jW fl hfl).mono Ax.o.AJ.size)):=h
def Y6(h:p:=by exact(Ax.o.below (AN _ _).drew)):=h
def R6(h:p:=by exact(KY.1 hm)):=h
def fo(h:p:=by exact(AP.of_below hb4)):=h
def fm(h:p:=by exact(A2.o.below AC.o.AJ)):=h
def vR(h:p:=by exact(AC.o.below AO.o)):=h
def Y4(h:p:=by exact(λj hj=>HU BI.o hj.symm)):=h
def vP(h:p:=by exact(HJ.app BA.o GF (y:=Ft) ⟨_,_,_,_,_,rfl,A2.o⟩ hown DR hg2)):=h
def J9(h:p:=by exact(λ_ _ _=>by simp)):=h
def Ur(h:p:=by exact(λ_ _ _ _ _=>by simp)):=h
def fj(h:p:=by exact(Ag.o.below HG.o.AJ)):=h
def AMV(h:p:=by exact(Ja results14 _ _ w 33 _ (0,0) _ rfl r3 underlying33 rfl jo)):=h
def R5(h:p:=by exact(AP.of_below hb2)):=h
def AMU(h:p:=by exact(Nat.dvd_trans hd (RF y x))):=h
def AMb(h:p:=by exact(Nat.dvd_trans hd (Tq y x))):=h
def R4(h:p:=by exact(he.below AC.o.AJ)):=h
def Ik(h:p:=by exact(Aq.o.below hb1)):=h
def K1(h:p:=by exact(AC.o.below hb2)):=h
def Y2(h:p:=by exact(λp (hp:p∈[])=>by cases hp)):=h
def Y1(h:p:=by exact(A2.o.below Hy)):=h
def R3(h:p:=by exact(AC.o.below Hy)):=h
def J8(h:p:=by exact(λ_=>rfl)):=h
def Y0(h:p:=by exact(Xc _ _ (λ_=>_))):=h
def vO(h:p:=by exact(λr e=>by cases e;exact⟨_,hK,rfl⟩)):=h
def Ij(h:p:=by exact(AC.o.below hb)):=h
def Hn(h:p:=by exact(AC.o.below hal)):=h
def Uq(h:p:=by exact(Aq.o.below hal)):=h
def AMS(h:p:=by exact(((CT.o.V7 ((x / 2:Nat):Int)).Fy ((y / 2:Nat):Int)).below (AN _ _).drew)):=h
def AMR(h:p:=by exact(((CT.o.V7 ((x / 5:Nat):Int)).Fy ((y / 5:Nat):Int)).below (AN _ _).drew)):=h
def AMQ(h:p:=by exact(AF2 M p b.length x y SA.o F8.o n2 n5)):=h
def AMP(h:p:=by exact(MH results349 _ _ w 119 _ (0,0) _ _ _ rfl rfl rfl nB.blk underlying119 rfl Vl)):=h
def Di(h:p:=by exact(AC.o.below (AN _ _).drew)):=h
def Yz(h:p:=by exact(Ap Nc hb1.size)):=h
def Pr(h:p:=by exact(CC.o.below hb1)):=h
def Yx(h:p:=by exact(CC.o.box.below hb1)):=h
def vK(h:p:=by exact(λj hj=>HU U2.o hj.symm)):=h
def fh(h:p:=by exact(A2.o.below (AN _ _).drew)):=h
def vJ(h:p:=by exact(λh=>by have:=ht.ne;rw[h] at this;cases this)):=h
def AML(h:p:=by exact(V3 results23 _ _ (w.heap.size+1) 78 _ (0,0) _ _ rfl ZW (((CM.o.put 0 _).put 1 _).put 2 _) underlying78 rfl jn)):=h
def AMK(h:p:=by exact(λa' w'' hh=>⟨hh.1,ih a' w'' hh.2⟩)):=h
def Yt(h:p:=by exact(λq hq=>by omega)):=h
def R2(h:p:=by exact(λq hq=>by show q≠w.heap.size+1;omega)):=h
def JH(h:p:=by exact(Ap hB AC.o.box.AJ.size)):=h
def Up(h:p:=by exact(Nat.le_succ _)):=h
def AMJ(h:p:=by exact((AHX Aq.o HC.o).trans Bj.o)):=h
def fg(h:p:=by exact(λq hq=>by simp only[Aj,A',A_] at hq;simp[hq])):=h
def vI(h:p:=by exact(λh=>ADQ (E:=E) (e:=⟨m,k,ww,n,a⟩) h)):=h
def vH(h:p:=by exact(λh4 h5=>ADP (E:=E) (e:=⟨m,k,ww,n,a⟩) Gu.o ZK.o KA.o h4 h5)):=h
def vG(h:p:=by exact((A2.o.below AC.o.AJ).mono AC.o.AJ.size)):=h
def Pq(h:p:=by exact(λ_ h=>by cases h)):=h
def Ys(h:p:=by exact(Ag.o.below (AN _ _).drew)):=h
def Yr(h:p:=by exact((AN w w).drew)):=h
def ff(h:p:=by exact(AP.of_below hb1)):=h
def AMH(h:p:=by exact(zj (A2.o.below (AW AC.o.AJ hW3)) (by omega))):=h
def vF(h:p:=by exact(Gc ho (show w.heap.size<=W3.heap.size from (AW AC.o.AJ hW3).size))):=h
def vE(h:p:=by exact(((((((AN _ _).setCell hg _).setCell hg _).setCell hg _).setCell hg _).setCell hg _).setCell hg _)):=h
def AME(h:p:=by exact(kG results72 _ _ w 167 _ (0,0) _ _ _ rfl rfl rfl (AG.new w _ _) underlying167 rfl mo)):=h
def u_(h:p:=by exact(AP.of_below (S:=Gi BO Ak ab) (AW AO.o hb))):=h
def uz(h:p:=by exact((AP.of_below (S:=Gi BO Ak ab) AO.o).trans (hk'.sub hsub))):=h
def fX(h:p:=by exact(UInt8.toNat_inj.1 e)):=h
def Yp(h:p:=by exact(Ag.o.below hb2)):=h
def fW(h:p:=by exact(λ_=>by kernel_rfl)):=h
def AMC(h:p:=by exact(λq hq=>by simp only[Aj,A',A_] at hq;subst hq;exact Ax.o.lo)):=h
def ux(h:p:=by exact(λ_ _ q=>by obtain⟨v,rfl,_⟩:=q;rfl)):=h
def R1(h:p:=by exact(λp hp=>by cases hp)):=h
def Yo(h:p:=by exact(Ag.o.below hd)):=h
def fi(h:p:=by exact(AP.of_below hd)):=h
def Yu(h:p:=by exact(Nat.le_of_eq hs.symm)):=h
def C8(h:p:=by exact((AN _ _).alloc AK _)):=h
def Yn(h:p:=by exact(ready_mono hr AMn)):=h
def uv(h:p:=by exact(DT results114 _ _ w 108 _ (0,0) _ _ rfl rfl vZ underlying108 rfl Wq)):=h
def fV(h:p:=by exact(DT results36 _ _ w 108 _ (0,0) _ _ rfl rfl vZ underlying108 rfl Wq)):=h
def fU(h:p:=by exact((AN _ _).alloc gE _)):=h
def fT(h:p:=by exact(((AN _ _).setCell gE _).setCell gE _)):=h
def Uo(h:p:=by exact(htr.mono (Q:=λg=>W.heap.size<=g/\g≠W.heap.size) AMo)):=h
def Mv(h:p:=by exact(htr.mono (Q:=λg=>W.heap.size<=g/\g≠W.heap.size) vX)):=h
def Ym(h:p:=by exact(htr.mono (Q:=λg=>ER<=g/\g≠W3.heap.size) vX)):=h
def fS(h:p:=by exact(Ap fw (GA r))):=h
def uu(h:p:=by exact(IQ U2.o (AN _ _).drew vK)):=h
def Lx(h:p:=by exact(World.ownsRow_made w #[] 0 AK J_ rfl)):=h
def ut(h:p:=by exact(AS.below JN.o hb (λ_ _ q=>D9.kept (S:=[]) q CX CE))):=h
def ur(h:p:=by exact(((AN w w).alloc AK (.cells #[Value.slice a1 n1.length c1,Value.slice a2 n2.length c2,Value.slice a3 fs.length c3,Value.slice a4 cs.length c4,Value.int IntKind.i64 d] 26)).alloc AH (.cells #[Value.slice none 0 0,Value.slice none 0 0,Value.slice none 0 0] 33))):=h
def uq(h:p:=by exact(Bl BI.o (S:=[]) (AP.of_below XA) CE)):=h
def up(h:p:=by exact(AS.below JN.o hb (λ_ _ q=>Cz.kept (S:=[]) q CX My))):=h
def AMA(h:p:=by exact(cd.below Ax.o.AJ.size AMC)):=h
def fR(h:p:=by exact((A2.o.drewN _).below C8)):=h
end
def GJ:Fin 3:=0
instance:Coe (Fin 3) (List UInt8):=⟨λ_=>[99,114,101,100,105,116]⟩
def Ie:Fin 4:=0
instance:Coe (Fin 4) (List UInt8):=⟨λ_=>[105,110,100,101,120]⟩
def Kt:Fin 5:=0
instance:Coe (Fin 5) (List UInt8):=⟨λ_=>[108,101,116]⟩
def Nz:Fin 6:=0
instance:Coe (Fin 6) (List UInt8):=⟨λ_=>[116,104,101,110]⟩
def Ny:Fin 7:=0
instance:Coe (Fin 7) (List UInt8):=⟨λ_=>[103,114,97,110,116]⟩
def Re:Fin 8:=0
instance:Coe (Fin 8) (List UInt8):=⟨λ_=>[115,116,97,116,117,116,101]⟩
def Rc:Fin 9:=0
instance:Coe (Fin 9) (List UInt8):=⟨λ_=>[99,117,114,114,101,110,99,121]⟩
def Rb:Fin 10:=0
instance:Coe (Fin 10) (List UInt8):=⟨λ_=>[108,105,109,105,116]⟩
section
variable{p q:Prop}
def DD(k:q)(h:PLift q->p:=by intro z;refine Ov ?_;go_big_quiet_step (fail);refine Cj ?_;exact z.down):=h ⟨k⟩
def Yl(k:q)(h:PLift q->p:=by intro z;refine ABN ?_;go_big_quiet_step (fail);refine Cj ?_;exact z.down):=h ⟨k⟩
def fQ(k:q)(h:PLift q->p:=by intro z;refine ADG ?_;go_big_quiet_step (fail);refine Cj ?_;exact z.down):=h ⟨k⟩
def Yk(k:q)(h:PLift q->p:=by intro z;refine AAo ?_;go_big_quiet_step (fail);refine Cj ?_;exact z.down):=h ⟨k⟩
def Fk(k:q)(h:PLift q->p:=by intro z;refine AFg ?_;go_big_quiet_step (fail);refine Cj ?_;exact z.down):=h ⟨k⟩
def Ky(k:q)(h:PLift q->p:=by intro z;refine ADr ?_;go_big_quiet_step (fail);refine Cj ?_;exact z.down):=h ⟨k⟩
def H'(k:q)(h:PLift q->p:=by intro z;refine AD7 ?_;go_big_quiet_step (fail);refine Cj ?_;exact z.down):=h ⟨k⟩
def Yj(k:q)(h:PLift q->p:=by intro z;refine AD9 ?_;go_big_quiet_step (fail);refine Cj ?_;exact z.down):=h ⟨k⟩
def GM(k:q)(h:PLift q->p:=by intro z;refine AFr ?_;go_big_quiet_step (fail);refine Cj ?_;exact z.down):=h ⟨k⟩
def R0(k:q)(h:PLift q->p:=by intro z;refine AFq ?_;go_big_quiet_step (fail);refine Cj ?_;exact z.down):=h ⟨k⟩
def Yi(k:q)(h:PLift q->p:=by intro z;refine ACv ?_;go_big_quiet_step (fail);refine Cj ?_;exact z.down):=h ⟨k⟩
def Ea(k:q)(h:PLift q->p:=by intro z;simp only[marked,A8,Bt,Tp,PP,Nat.reduceBEq,Np,Bool.or_true,BEq.rfl];exact z.down):=h ⟨k⟩
def Cq(k:q)(h:PLift q->p:=by intro z;(repeat refine DD ?_);refine bv rfl ?_;intro K hK;go_simp;revert K hK;exact z.down):=h ⟨k⟩
def Hm(k:q)(h:PLift q->p:=by intro z;simp only[marked,A8,Bt,Tp,PP,Nat.reduceBEq,Np,BEq.rfl];exact z.down):=h ⟨k⟩
def Mu(k:q)(h:PLift q->p:=by intro z;simp only[marked,A8,Bt,PP];exact z.down):=h ⟨k⟩
def Pn(k:q)(h:PLift q->p:=by intro z;simp only[JY,marked,A8,Bt,Tp,PP,Nat.reduceBEq,Np,Bool.or_true,BEq.rfl];exact z.down):=h ⟨k⟩
def Mt(k:q)(h:PLift q->p:=by intro z;simp only[Act.put,RE,PO,PN];exact z.down):=h ⟨k⟩
def AL'(k:q)(h:PLift q->p:=by intro z;refine BE (v:=.tuple #[.agg (BP ⟨0,0,0,false,0,0,0,0,0,0,0,0,0,0⟩),(),false]) AMl rfl ?_;exact z.down):=h ⟨k⟩
def fP(k:q)(h:PLift q->p:=by intro z;refine iT (.q 0 (.q 1 (.q 2 (.q 3 (.q 4 (.q 5 (.q 6 (.q 7 (.q 8 (.q 9 (.q 10 (.f 11 16 (.q 12 (.q 13 (.q 14 (.q 15 (.l 16 (.l 17 (.l 18 (.l 19 .nil)))))))) (.l 11 (.q 12 (.q 13 (.q 14 (.q 15 (.l 17 (.l 18 (.l 19 .nil)))))))))))))))))))) W1 AF AF AF AF BK ?_;simp only[Pl.ops,A8,Bt];exact z.down):=h ⟨k⟩
def fO(k:q)(h:PLift q->p:=by intro z;simp only[Tn,Wl,El,E9];exact z.down):=h ⟨k⟩
def EZ(k:q)(h:PLift q->p:=by intro z;refine xm AF AF ?_;exact z.down):=h ⟨k⟩
def uw(k:q)(h:PLift q->p:=by intro z;refine DB [] [0,1,2,3,4,5,6,7,8,9,10,11,12,13,14,15,16,17,18,19,20,21,22,23,24,25,26,27,28,29,30,31] wr AF AF rfl AD AF BK ?_;refine Mu ?_;(iterate 32 refine DD ?_);refine Dl ?_;exact z.down):=h ⟨k⟩
def Po(k:q)(h:PLift q->p:=by intro z;simp only[TV,A8,Bt];exact z.down):=h ⟨k⟩
def AMB(k:q)(h:PLift q->p:=by intro z;refine MB ([]) [] [0,1,2,3,4,5] [6,7] (Fr 6 2) AF AF rfl AD AD AF AF AF BK ?_;simp only[JY,marked,A8,Bt,PP];exact z.down):=h ⟨k⟩
def HM(k:q)(h:PLift q->p:=by intro z;(repeat refine DD ?_);refine Dl ?_;exact z.down):=h ⟨k⟩
def Fl(k:q)(h:PLift q->p:=by intro z;refine ADs rfl ?_;intro K hK;go_simp;revert K hK;exact z.down):=h ⟨k⟩
def HL(k:q)(h:PLift q->p:=by intro z;(repeat refine Yl ?_);refine au rfl ?_;exact z.down):=h ⟨k⟩
def uo(k:q)(h:PLift q->p:=by intro z;refine DB [] [0,1,2,3,4,5,6,7,8,9,10,11,12,13,14,15,16,17,18,19,20,21,22,23,24,25,26,27,28,29,30,31,32,33,34,35,36,37,38,39,40,41,42,43] W3 AF AF rfl AD AF BK ?_;refine Mu ?_;(iterate 44 refine DD ?_);refine Dl ?_;exact z.down):=h ⟨k⟩
def Rz(k:q)(h:PLift q->p:=by intro z;unfold Hid;rw[By.o,heq.o,Gj];exact z.down):=h ⟨k⟩
def Yg(k:q)(h:PLift q->p:=by intro z;rw[e];simp only[Cp,CB,EE];exact z.down):=h ⟨k⟩
def uk(k:q)(h:PLift q->p:=by intro z;refine Z7 (.q 0 (.q 1 (.q 2 (.q 3 (.q 4 (.q 5 (.q 6 (.q 8 (.q 11 (.q 12 (.q 13 (.q 14 (.q 15 (.q 16 (.f 7 9 (.l 9 (.l 10 (.l 17 .nil))) (.l 7 (.l 10 (.l 17 .nil)))))))))))))))))) (HF.heap.size) [18,19,20] (Fr 18 3) AF AF AF AD AF AF AF BK ?_;simp only[Pl.ops,JY,A8,Bt];exact z.down):=h ⟨k⟩
def AL_(k:q)(h:PLift q->p:=by intro z;rw[gd.o.den,wZ.o,Int.toNat_natCast,Int.toNat_natCast];exact z.down):=h ⟨k⟩
def HK(k:q)(h:PLift q->p:=by intro z;refine bv rfl ?_;intro K hK;go_simp;revert K hK;exact z.down):=h ⟨k⟩
def fN(k:q)(h:PLift q->p:=by intro z;simp only[picked,marked,A8,Bt,Tp,PP,Nat.reduceBEq,Np,Bool.or_true,BEq.rfl];exact z.down):=h ⟨k⟩
def fM(k:q)(h:PLift q->p:=by intro z;refine OX [g] [12] [9] [(0,0),(0,1),(0,2),(0,3),(0,4),(0,5),(0,6),(0,7),(0,8),(2,9),(1,10),(0,11),(3,12)] AF AF rfl AD AF AF BK ?_;refine Po ?_;exact z.down):=h ⟨k⟩
def JG(k:q)(h:PLift q->p:=by intro z;refine hK _ _ _ AK DL ?_;exact z.down):=h ⟨k⟩
def Um(k:q)(h:PLift q->p:=by intro z;refine Ow rfl ?_;intro K hK;go_simp;refine hK _ _ Us ?_;revert K hK;exact z.down):=h ⟨k⟩
def Ul(k:q)(h:PLift q->p:=by intro z;rw[e];refine Og ?_;simp only[Tn,Wl];exact z.down):=h ⟨k⟩
def Uk(k:q)(h:PLift q->p:=by intro z;refine AFe rfl rfl rfl rfl rfl ?_;exact z.down):=h ⟨k⟩
def Yf(k:q)(h:PLift q->p:=by intro z;refine DB [] [0,1,2,3,4,5,6,7,8,9,10,11,12] X AF AF rfl AD AF BK ?_;refine Mu ?_;exact z.down):=h ⟨k⟩
def AL9(k:q)(h:PLift q->p:=by intro z;refine BE (v:=.tuple #[.agg #[(),(),(),.int .u32 0,AL],.int .i64 11]) uv rfl ?_;exact z.down):=h ⟨k⟩
def uj(k:q)(h:PLift q->p:=by intro z;refine OY (.const AL) (.tmp 48) 27 AZ W3 5 (.int .u8 0) 1 1 underlying27 HH rfl AD AD AL 0 [] rfl ⟨rfl,.inl ⟨rfl,rfl⟩⟩ (.slice va l.length Gz) l.length (A3 l) rfl AMH LA (KV _) (by omega) AK ?_;exact z.down):=h ⟨k⟩
def uh(k:q)(h:PLift q->p:=by intro z;refine DB [2] [0,1,2,3,4,5,6,7,8,9,10,11,12,13,14,15,16,17,18,19,20,21,22,23,24,25,26,27,28,29,30,31,32,33,34,35,36,37,38,39,40,41,42,43,44,45,46,47,48] W1 AF AF rfl AD AF BK ?_;refine Hm ?_;refine Ov ?_;exact z.down):=h ⟨k⟩
def ug(k:q)(h:PLift q->p:=by intro z;simp only[ntmps379,List.size_toArray,CB,EE,Nat.reduceAdd,Nat.reduceSub,Array.replicate_succ,Array.replicate_zero,List.push_toArray,List.append_toArray,Dg,DC];exact z.down):=h ⟨k⟩
def uf(k:q)(h:PLift q->p:=by intro z;simp only[ntmps353,List.size_toArray,CB,EE,Nat.reduceAdd,Nat.reduceSub,Array.replicate_succ,Array.replicate_zero,List.push_toArray,List.append_toArray,Dg,DC];exact z.down):=h ⟨k⟩
def AL5(k:q)(h:PLift q->p:=by intro z;rw[Vg];rw[Ab hq,Ab hr];simp only[Tn,Wl,E9];exact z.down):=h ⟨k⟩
def FU(k:q)(h:PLift q->p:=by intro z;refine AD8 rfl ?_;exact z.down):=h ⟨k⟩
def ue(k:q)(h:PLift q->p:=by intro z;(iterate 1 refine R0 ?_);(iterate 1 refine GM ?_);refine Ow rfl ?_;intro K hK;go_simp;refine hK _ _ (MX _ _ _ _ _ _ _ _ _) ?_;revert K hK;exact z.down):=h ⟨k⟩
def Ih(k:q)(h:PLift q->p:=by intro z;refine Cq ?_;intro K hK;go_at_call 375;revert K hK;exact z.down):=h ⟨k⟩
def Ig(k:q)(h:PLift q->p:=by intro z;refine WO rfl ?_;intro K hK;go_simp;revert K hK;exact z.down):=h ⟨k⟩
def ud(k:q)(h:PLift q->p:=by intro z;refine OW [⟨4,10,175,#[(),(),(),.int .u32 0,AL,AL]⟩] [2,5] [0,1,2,3] [5] #[true,true,true,true,true,false] AF AF rfl AD AD AF AF AF AF AD AF (AK8 4 10) BK BK ?_;refine Ea ?_;exact z.down):=h ⟨k⟩
def uc(k:q)(h:PLift q->p:=by intro z;refine OX [w.heap.size] [10,12,14] [2,5,8] [(0,0),(0,1),(0,3),(0,4),(0,6),(0,7),(2,2),(0,9),(2,5),(2,8),(3,10),(1,11),(3,12),(1,13),(3,14)] AF AF rfl AD AF AF BK ?_;refine Po ?_;exact z.down):=h ⟨k⟩
def AL3(k:q)(h:PLift q->p:=by intro z;unfold Hid;rw[By.o,heq.o];exact z.down):=h ⟨k⟩
def N7(k:q)(h:PLift q->p:=by intro z;(repeat refine Yl ?_);refine ABO ?_;exact z.down):=h ⟨k⟩
def AL2(k:q)(h:PLift q->p:=by intro z;refine Cj ?_;refine mC rfl ?_;refine Mt ?_;(iterate 2 refine DD ?_);refine Dl ?_;exact z.down):=h ⟨k⟩
def H_(k:q)(h:PLift q->p:=by intro z;refine Cq ?_;intro K hK;go_at_call 39;revert K hK;exact z.down):=h ⟨k⟩
def fL(k:q)(h:PLift q->p:=by intro z;refine BE (v:=.tuple #[.agg #[(),(),(),.int .u32 0,AL],.int .i64 11]) AMe rfl ?_;exact z.down):=h ⟨k⟩
def uY(k:q)(h:PLift q->p:=by intro z;refine DB [] [0,1,2,3,4,5,6,7,8,9,10,11,12,13,14,15,16,17,18,19,20,21,22,23] W1 AF AF rfl AD AF BK ?_;refine Mu ?_;(iterate 24 refine DD ?_);refine Dl ?_;exact z.down):=h ⟨k⟩
def Rw(k:q)(h:PLift q->p:=by intro z;refine hK _ _ (AP.HW hgr AH) ?_;exact z.down):=h ⟨k⟩
def uX(k:q)(h:PLift q->p:=by intro z;refine hK _ _ (u5.alloc (.cells #[.slice a0 n0 c0,.slice a1 n1 c1,.slice a2 n2 c2,.slice a3 n3 c3,.slice a4 n4 c4,.slice a5 n5 c5] 27)).heap.size hb.size hb ?_;exact z.down):=h ⟨k⟩
def FT(k:q)(h:PLift q->p:=by intro z;refine hK _ _ CX ?_;exact z.down):=h ⟨k⟩
def Ye(k:q)(h:PLift q->p:=by intro z;(iterate 13 refine DD ?_);refine Dl ?_;exact z.down):=h ⟨k⟩
def Hl(k:q)(h:PLift q->p:=by intro z;go_simp;go_at_call 69;exact z.down):=h ⟨k⟩
def Ui(k:q)(h:PLift q->p:=by intro z;simp only[DW,DV];exact z.down):=h ⟨k⟩
def uW(k:q)(h:PLift q->p:=by intro z;refine MB ([AV]) [3,4] [0,1,2,3,4] [5,6,7] #[true,true,true,true,true,false,false,false] AF AF rfl AD AD AF AF AF BK ?_;refine Pn ?_;exact z.down):=h ⟨k⟩
def AL1(k:q)(h:PLift q->p:=by intro z;(iterate 24 refine DD ?_);refine mC rfl ?_;refine Mt ?_;refine Ov ?_;exact z.down):=h ⟨k⟩
def AL0(k:q)(h:PLift q->p:=by intro z;refine BE (v:=.tuple #[(),.agg #[(),(),(),(),()],false]) AME rfl ?_;exact z.down):=h ⟨k⟩
def fK(k:q)(h:PLift q->p:=by intro z;simp only[Pl.ops,JY,A8,Bt];exact z.down):=h ⟨k⟩
def ALz(k:q)(h:PLift q->p:=by intro z;rw[cN _ _ Dy];exact z.down):=h ⟨k⟩
def Gt(k:q)(h:PLift q->p:=by intro z;refine hK _ _ DL ?_;exact z.down):=h ⟨k⟩
def Uh(k:q)(h:PLift q->p:=by intro z;(repeat refine Yk ?_);refine Ol rfl ?_;exact z.down):=h ⟨k⟩
def uV(k:q)(h:PLift q->p:=by intro z;refine DB [1] [0,1,2,3,4,5,6,7,8,9,10,11,12,13,14,15,16,17] W1 AF AF rfl AD AF BK ?_;refine Hm ?_;refine Ov ?_;exact z.down):=h ⟨k⟩
def Yd(k:q)(h:PLift q->p:=by intro z;simp only[be,AQ,Fh,List.foldl_nil];exact z.down):=h ⟨k⟩
def ALy(k:q)(h:PLift q->p:=by intro z;simp only[World.iterPos,h1,h0];exact z.down):=h ⟨k⟩
def Ug(k:q)(h:PLift q->p:=by intro z;(iterate 2 refine Fk ?_);refine MU ?_;exact z.down):=h ⟨k⟩
def fJ(k:q)(h:PLift q->p:=by intro z;(iterate 1 refine Fk ?_);refine MU ?_;exact z.down):=h ⟨k⟩
def uU(k:q)(h:PLift q->p:=by intro z;refine OX [BU] [7] [6] [(0,0),(0,1),(0,2),(0,3),(0,4),(0,5),(2,6),(3,7)] AF AF rfl AD AF AF BK ?_;refine Po ?_;exact z.down):=h ⟨k⟩
def uT(k:q)(h:PLift q->p:=by intro z;refine DB [2,5,8,10,13,16] [0,1,3,4,6,7,9,11,12,14,15,2,5,8,10,13,16,17] B AF AF rfl AD AF BK ?_;refine Ea ?_;exact z.down):=h ⟨k⟩
def Rv(k:q)(h:PLift q->p:=by intro z;refine Fl ?_;intro K hK;refine JG ?_;revert K hK;exact z.down):=h ⟨k⟩
def ALx(k:q)(h:PLift q->p:=by intro z;refine BE (v:=.tuple #[.agg #[(),()],false]) vT rfl ?_;exact z.down):=h ⟨k⟩
def Uf(k:q)(h:PLift q->p:=by intro z;rw[show fuel+1+m=(fuel+m)+1 by omega];exact z.down):=h ⟨k⟩
def ALw(k:q)(h:PLift q->p:=by intro z;refine wpList_append_own_none hgd s x 27 ho base 5 i0 1 underlying27 hi v l.length (A3 l) hs hown hx ?_;exact z.down):=h ⟨k⟩
def Ru(k:q)(h:PLift q->p:=by intro z;refine hK _ _ W3 hb1.size hb1 ?_;exact z.down):=h ⟨k⟩
def J6(k:q)(h:PLift q->p:=by intro z;refine AFi rfl ?_;exact z.down):=h ⟨k⟩
def J5(k:q)(h:PLift q->p:=by intro z;refine bv rfl ?_;exact z.down):=h ⟨k⟩
def ALv(k:q)(h:PLift q->p:=by intro z;unfold Hid;rw[By.o,<-heq.o];exact z.down):=h ⟨k⟩
def uS(k:q)(h:PLift q->p:=by intro z;refine MB ([AV]) [5,6] [0,1,2,3,4,5,6,7] [8] (Fr 8 1) AF AF rfl AD AD AF AF AF BK ?_;refine Pn ?_;exact z.down):=h ⟨k⟩
def ALu(k:q)(h:PLift q->p:=by intro z;refine BE (v:=.tuple #[.agg (BP ⟨0,0,0,false,0,0,0,0,0,0,0,0,0,0⟩),(),false]) AMm rfl ?_;exact z.down):=h ⟨k⟩
def Ue(k:q)(h:PLift q->p:=by intro z;(iterate 1 refine R0 ?_);refine Um ?_;exact z.down):=h ⟨k⟩
def uR(k:q)(h:PLift q->p:=by intro z;refine BE (v:=.tuple #[.agg (BP ⟨0,0,0,false,0,0,0,0,0,0,0,0,0,0⟩),false]) AMk rfl ?_;exact z.down):=h ⟨k⟩
def uQ(k:q)(h:PLift q->p:=by intro z;refine BE (v:=.tuple #[.agg (BP ⟨0,0,0,false,0,0,0,0,0,0,0,0,0,0⟩),false]) AMj rfl ?_;exact z.down):=h ⟨k⟩
def Ud(k:q)(h:PLift q->p:=by intro z;simp only[sets,ptrTo];refine HK ?_;exact z.down):=h ⟨k⟩
def uP(k:q)(h:PLift q->p:=by intro z;refine DB [] [0,1,2,3,4,5,6,7,8,9,10,11,12,13,14] w2 AF AF rfl AD AF BK ?_;refine Mu ?_;exact z.down):=h ⟨k⟩
def uO(k:q)(h:PLift q->p:=by intro z;unfold Hid;rw[Mj (l:=s.data.toList) (i:=pos) JP,RD];exact z.down):=h ⟨k⟩
def Yc(k:q)(h:PLift q->p:=by intro z;(iterate 16 refine DD ?_);refine Dl ?_;exact z.down):=h ⟨k⟩
def Yb(k:q)(h:PLift q->p:=by intro z;(iterate 11 refine DD ?_);refine Dl ?_;exact z.down):=h ⟨k⟩
def uN(h:p:=by
 clear ZO;obtain⟨pos,p,m,rfl,hpos,K8,SA,Ma⟩:=hrel;have hpb:p<=10000:=by
  rw[SA.o];have h2:10 ^ pos<=10 ^ 4:=I_ AD U;have h10:(10:Nat) ^ 4=10000:=AD;omega
 have hmb:m<=10000000000000:=by
  have h1:=wS.o;rw[K8.o,<-SA.o];have:va*p<=1000000000*10000:=Nat.mul_le_mul U hpb;omega
 have nD:=iterPos_of Ma.ix;by_cases hp:pos<b.length
 .have hd:=List.all_eq_true.mp (show b.all CD=true by have:=U7.o;rw[Ml,At] at this;exact this.2) _ (Gq hp);have T0:((ByteArray.mk b.toArray)[pos]' iM).toNat<128:=by
   have hat:(ByteArray.mk b.toArray)[pos]' iM=b[pos]:=rfl;rw[hat];unfold CD at hd;simp at hd;omega
  have hnx:∀ty,(Instr.next (.pointer w1) true ty).run prog wr=_:=λty=>Lib.run_next_ascii_at wr w1 _ pos ty Ma.ix iM T0;have MZ:=Ma.next (pos+1)
  generalize wr.iterAt w1 ⟨b.toArray⟩ (pos+1)=W1 at *;have L5:=O MZ;obtain⟨y0,y1,Jo⟩:=MZ.Gz.blk.y2;obtain⟨f0,f1,-⟩:=MZ.Gz.blk.fz;have x9:IntKind.i64.wrap (10*(m:Int))=((m*10:Nat):Int):=by rw[RC _ U];omega
  have wp:IntKind.i64.wrap (10*(p:Int))=((p*10:Nat):Int):=by rw[RC _ U];omega
  clear Ma MZ hd T0;go_wp2_with fail;refine AMB ?_;refine Bn (λX=>Ku w X w1 b (pos+1) 0 (p:Int)) (w0:=W1.drew) ⟨L5.o.Gz.below (AN _ _).drew,L5.o.ix,L5.o.lo⟩ ?_;clear L5 y0 y1 f0 f1 Jo;intro W2 MZ;have L5:=O MZ;obtain⟨y0,y1,Jo⟩:=MZ.Gz.blk.y2;obtain⟨f0,f1,-⟩:=MZ.Gz.blk.fz;clear MZ;iterate 6 refine H' ?_
  refine KT ?_;clear x9 wp;go_wp2_with fail;go_roundw
  case rel=>exact⟨pos+1,p*10,m*10,A7,hp,ANi,ANg,ANc⟩
  case measure=>rw[iterPos_of (L5.o.Fy _).ix,nD];omega
 .obtain rfl:pos=b.length:=U;have hnx:∀ty,(Instr.next (.pointer w1) true ty).run prog wr=_:=λty=>Lib.run_next_end_at wr w1 _ b.length ty Ma.ix ANX;have L5:=O Ma.Gz;obtain⟨y0,y1,Jo⟩:=Ma.Gz.blk.y2;obtain⟨f0,f1,-⟩:=Ma.Gz.blk.fz;have wU:Hid (m+Cc b=Cc (a++b)):=by
   show _=_;rw[jF,K8.o];have:=ge.o;rw[this]
  have hvb:=wR.o;clear Ma hp hpos nD;generalize Cc b=D5 at *;generalize hcut:Cc (a++b)=M at *;have gj:=O (show M=m+D5 from wU.o.symm);clear wU K8 hcut ge;go_wp2_with fail;have wQ:=O (L5.o.V7 ((m:Int)+(D5:Int)));clear L5 y0 y1 f0 f1 Jo hnx;refine Bn (λX=>FQ w X ((m+D5:Nat):Int) (p:Int)) ANf ?_;clear wQ;intro AOU hv0;have CT:=O hv0;clear hv0;have AN':M<=10000000010000:=AM7;have hp0:0<p:=by rw[SA.o];exact Nat.pow_pos AD
  rw[<-gj.o] at CT;clear gj;go_loopw [114] (λz wr=>∃(j:Int) (x y:Nat),z=.int .i64 j/\Hid (AMg j x y)/\Hid (Io M p x y)/\FQ w wr (x:Int) (y:Int)) (λz _=>(2-intOf z).toNat)
  case atStart=>exact⟨0,M,p,rfl,.inl rfl,Io.refl _ _,CT.o⟩
  case round=>
   clear CT;obtain⟨j,x,y,rfl,Ax,F8,hv⟩:=hrel;have CT:=O hv;clear hv;obtain⟨hx1,hy1⟩:=F8.o.le hp0;rcases Ax.o with hj|⟨hj,n2⟩|⟨hj,n2,n5⟩
   .subst hj;clear Ax;have hI:∀W,(Instr.index 421 (.agg #[.int .i64 2,.int .i64 5]) ()).run prog W=.ok (.int .i64 2) W:=λ_=>AF;go_wp2_with fail;clear hI;go_loopw [] (λNA=>∃x y:Nat,Hid (True)/\Hid (Io M p x y)/\FQ w NA (x:Int) (y:Int)) (λNA=>XS NA w)
    case atStart=>exact⟨x,y,trivial,F8.o,CT.o⟩
    case round=>
     clear CT F8;obtain⟨x,y,HG2,F8,hv⟩:=hrel;have CT:=O hv;have hden:=hv.den;obtain⟨hx1,hy1⟩:=F8.o.le hp0;have hy0:=F8.o.pos hp0;obtain⟨y0,y1,Jo⟩:=hv.blk.y2;obtain⟨f0,f1,-⟩:=hv.blk.fz;clear hv;by_cases h1:x%2=0
     .have g1:((x:Int)%2==0)=true:=AM;by_cases h2:y%2=0
      .have g2:((y:Int)%2==0)=true:=AM;have Fp:=O (F8.o.step h1 h2);have wW:=O (trivial);have hd1:y / 2<y:=Nat.div_lt_self hy0 AD;have t1:(x:Int) / 2=((x / 2:Nat):Int):=U;have t2:(y:Int) / 2=((y / 2:Nat):Int):=U;have T1:=O t1;have T2:=O t2;clear h1 h2 t1 t2;go_wp2_with fail;have wd:=O hd1;have wZ:=O hden;have W1:=O (show wrap64 ((x:Int) / 2)=((x / 2:Nat):Int) by rw[Wk _ U,T1.o]);have W2:=O (show wrap64 ((y:Int) / 2)=((y / 2:Nat):Int) by rw[Wk _ U,T2.o]);clear F8 HG2 hden hx1 hy1 hd1;go_region
       go_wp2_with fail;rw[W1.o,W2.o];have gd:=O AMS;exact rN
      .have g2:((y:Int)%2==0)=false:=AM;have hno:Hid (¬(x%2=0/\y%2=0)):=λh=>h2 h.2;clear h1 h2;exact rz
     .have g1:((x:Int)%2==0)=false:=AM;have hno:Hid (¬(x%2=0/\y%2=0)):=λh=>h1 h.1;clear h1;exact rz
   .subst hj;have U1:=O n2;clear Ax n2;have hI:∀W,(Instr.index 421 (.agg #[.int .i64 2,.int .i64 5]) (.int .i64 1)).run prog W=.ok (.int .i64 5) W:=λ_=>AF;go_wp2_with fail;clear hI;go_loopw [] (λNA=>∃x y:Nat,Hid (Pp x y)/\Hid (Io M p x y)/\FQ w NA (x:Int) (y:Int)) (λNA=>XS NA w)
    case atStart=>exact⟨x,y,U1.o,F8.o,CT.o⟩
    case round=>
     clear CT F8;obtain⟨x,y,HG2,F8,hv⟩:=hrel;have CT:=O hv;have hden:=hv.den;obtain⟨hx1,hy1⟩:=F8.o.le hp0;have hy0:=F8.o.pos hp0;obtain⟨y0,y1,Jo⟩:=hv.blk.y2;obtain⟨f0,f1,-⟩:=hv.blk.fz;clear hv;by_cases h1:x%5=0
     .have g1:((x:Int)%5==0)=true:=AM;by_cases h2:y%5=0
      .have g2:((y:Int)%5==0)=true:=AM;have Fp:=O (F8.o.step h1 h2);have wW:=O (HG2.o.fifth h1 h2);have hd1:y / 5<y:=Nat.div_lt_self hy0 AD;have t1:(x:Int) / 5=((x / 5:Nat):Int):=U;have t2:(y:Int) / 5=((y / 5:Nat):Int):=U;have T1:=O t1;have T2:=O t2;clear h1 h2 t1 t2;go_wp2_with fail;have wd:=O hd1;have wZ:=O hden;have W1:=O (show wrap64 ((x:Int) / 5)=((x / 5:Nat):Int) by rw[Wk _ U,T1.o]);have W2:=O (show wrap64 ((y:Int) / 5)=((y / 5:Nat):Int) by rw[Wk _ U,T2.o]);clear F8 HG2 hden hx1 hy1 hd1;go_region
       go_wp2_with fail;rw[W1.o,W2.o];have gd:=O AMR;exact rN
      .have g2:((y:Int)%5==0)=false:=AM;have hno:Hid (¬(x%5=0/\y%5=0)):=λh=>h2 h.2;clear h1 h2;exact sR
     .have g1:((x:Int)%5==0)=false:=AM;have hno:Hid (¬(x%5=0/\y%5=0)):=λh=>h1 h.1;clear h1;exact sR
   .subst hj;have A2:=O AMQ;clear Ax n2 n5;obtain⟨y0,y1,Jo⟩:=CT.o.blk.y2;obtain⟨f0,f1,-⟩:=CT.o.blk.fz;go_wp2_with fail;have nB:=(CT.o.V7 (x:Int)).Fy (y:Int);have he:B8 M (10 ^ b.length)=⟨(x:Int),(y:Int)⟩:=ANQ;rw[he,HD.o];exact BE (v:=.tuple #[.agg #[x,y],d,true]) AMP rfl ⟨rfl,nB.AJ⟩):=h
def uM(h:p:=by
 have T0:s[pos].toNat<128:=xU;have hnx:∀ty,(Instr.next (.pointer w4) true ty).run prog wr=.ok (.tuple #[true,pos,.int .i32 s[pos].toNat]) (wr.iterAt w4 s (pos+1)):=λty=>Lib.run_next_ascii_at wr _ s pos ty HIT.o hlt T0;have Hw:=hst.iterAt HIT.o (p:=pos+1) RG;have wV:Hid ((wr.iterAt w4 s (pos+1)).heap[w4.heap.size]? = some (.stringIter s (pos+1))):=Lib.iterAt_heap wr _ s pos (pos+1) HIT.o;clear hst T0;generalize wr.iterAt w4 s (pos+1)=wi at *;have hcl:=Hw.blk.cell;generalize s[pos]=c at *;rcases Nb with rfl|rfl|rfl|rfl|rfl|rfl|rfl
 .
   go_wp2_with fail;refine(Hw.step [a6] 1 _ _ _ (l++[a6].flatMap (be 1)) rfl rfl rfl AD AH FD).mono ?_;rintro e QH ⟨v5,rfl,PE,NZ⟩;clear hcl Hw;go_wp2;go_roundw
   case rel=>
    exact Pd
   case measure=>
    exact Pc
 .
   go_wp2_with fail;refine(Hw.step [a7,a8] 3 _ _ _ (l++[a7,a8].flatMap (be 3)) rfl rfl rfl AD AH FD).mono ?_;rintro e QH ⟨v5,rfl,PE,NZ⟩;clear hcl Hw;go_wp2;go_roundw
   case rel=>
    exact Pd
   case measure=>
    exact Pc
 .
   go_wp2_with fail;refine(Hw.step [a9] 1 _ _ _ (l++[a9].flatMap (be 1)) rfl rfl rfl AD AH FD).mono ?_;rintro e QH ⟨v5,rfl,PE,NZ⟩;clear hcl Hw;go_wp2;go_roundw
   case rel=>
    exact Pd
   case measure=>
    exact Pc
 .
   go_wp2_with fail;refine(Hw.step [Bf] 1 _ _ _ (l++[Bf].flatMap (be 1)) rfl rfl rfl AD AH FD).mono ?_;rintro e QH ⟨v5,rfl,PE,NZ⟩;clear hcl Hw;go_wp2;go_roundw
   case rel=>
    exact Pd
   case measure=>
    exact Pc
 .
   go_wp2_with fail;refine(Hw.step [Be] 2 _ _ _ (l++[Be].flatMap (be 2)) rfl rfl rfl AD AH FD).mono ?_;rintro e QH ⟨v5,rfl,PE,NZ⟩;clear hcl Hw;go_wp2;go_roundw
   case rel=>
    exact Pd
   case measure=>
    exact Pc
 .
   go_wp2_with fail;refine(Hw.step [a12] 4 _ _ _ (l++[a12].flatMap (be 4)) rfl rfl rfl AD AH FD).mono ?_;rintro e QH ⟨v5,rfl,PE,NZ⟩;clear hcl Hw;go_wp2;go_roundw
   case rel=>
    exact Pd
   case measure=>
    exact Pc
 .
   go_wp2_with fail;refine(Hw.step [Bi] 1 _ _ _ (l++[Bi].flatMap (be 1)) rfl rfl rfl AD AH FD).mono ?_;rintro e QH ⟨v5,rfl,PE,NZ⟩;clear hcl Hw;go_wp2;go_roundw
   case rel=>
    exact Pd
   case measure=>
    exact Pc):=h
def Ya(h:p:=by
 subst h';clear hx;go_in;go_wp2_with fail;try (go_quiet (fail);go_wp2_with fail)
 try (go_quiet (fail);go_wp2_with fail)
 try (go_quiet (fail);go_wp2_with fail)
 go_ret2;exact⟨rfl,xc⟩):=h
def YZ(h:p:=by
 subst h';clear hx;go_in;go_wp2_with fail;try (go_quiet (fail);go_wp2_with fail)
 try (go_quiet (fail);go_wp2_with fail)
 try (go_quiet (fail);go_wp2_with fail)
 go_ret;exact⟨rfl,xc⟩):=h
def uL(h:p:=by
 cases pt with
 | true=>
  obtain⟨b1,hb4⟩:=gq.o rfl;have g1:=A4 b.length 1;have g2:=A4 4 b.length;clear gq Px;have gh:=O (λW=>WJ a W Z1 a9);have Px:=O (λW=>WJ b W Z0 U);obtain⟨y0,y1,hbl⟩:=CT.o.blk.y2;obtain⟨f0,f1,-⟩:=CT.o.blk.fz;go_wp2_with fail;refine(gh.o _).mono ?_;rintro e w' ⟨rfl,rfl⟩;go_wp2_with fail;refine(Px.o _).mono ?_;rintro e w' ⟨rfl,rfl⟩;go_wp2_with fail;have hv1:=CT.o.Fy 1;have hsz1:(w1.setCell ⟨w,1,none⟩ (.int .i64 1)).heap.size=w1.heap.size:=AH;have ZO:Hid (Ku w ((w1.setCell ⟨w,1,none⟩ (.int .i64 1)).iter ⟨b.toArray⟩ 0) w1 b 0 0 1):=⟨hv1.below C8,xZ,hbl⟩;clear hv1 hsz1 y0 y1 f0 f1 CT;have wS:=O (show Cc a<1000000000 by
   have h1:=NB a Z1;have h2:10 ^ a.length<=10 ^ 9:=I_ AD a9;have h10:(10:Nat) ^ 9=1000000000:=AD;rw[h10] at h2;omega)
  generalize Tv:Cc a=va at *;have ge:=O Tv;clear Tv;have wR:=O (show Cc b<10000 by
   have h1:=NB b Z0;have h2:10 ^ b.length<=10 ^ 4:=I_ AD hb4;have h10:(10:Nat) ^ 4=10000:=AD;rw[h10] at h2;omega)
  go_loopw [9] (λx wr=>∃pos p m:Nat,x=.int .i64 (m:Int)/\pos<=b.length/\Hid (m=va*10 ^ pos)/\Hid (p=10 ^ pos)/\Ku w wr w1 b pos 0 (p:Int)) (λ_ wr=>b.length-wr.iterPos w1)
  case atStart=>exact⟨0,1,va,rfl,Az _,gy,rfl,ZO.o⟩
  case round=>
   exact uN
 | false=>
  have hb:=Px.o rfl;have hb4:b.length<=4:=by rw[hb];simp
  clear hb gq Px;have gh:=O (λW=>WJ a W Z1 a9);have Px:=O (λW=>WJ b W Z0 U);obtain⟨y0,y1,hbl⟩:=CT.o.blk.y2;obtain⟨f0,f1,-⟩:=CT.o.blk.fz;go_wp2_with fail;refine(gh.o _).mono ?_;rintro e w' ⟨rfl,rfl⟩;go_wp2_with fail;refine(Px.o _).mono ?_;rintro e w' ⟨rfl,rfl⟩;go_wp2_with fail;have hv1:=CT.o.Fy 1;have hsz1:(w1.setCell ⟨w,1,none⟩ (.int .i64 1)).heap.size=w1.heap.size:=AH;have ZO:Hid (Ku w ((w1.setCell ⟨w,1,none⟩ (.int .i64 1)).iter ⟨b.toArray⟩ 0) w1 b 0 0 1):=⟨hv1.below C8,xZ,hbl⟩;clear hv1 hsz1 y0 y1 f0 f1 CT;have wS:=O (show Cc a<1000000000 by
   have h1:=NB a Z1;have h2:10 ^ a.length<=10 ^ 9:=I_ AD a9;have h10:(10:Nat) ^ 9=1000000000:=AD;rw[h10] at h2;omega)
  generalize Tv:Cc a=va at *;have ge:=O Tv;clear Tv;have wR:=O (show Cc b<10000 by
   have h1:=NB b Z0;have h2:10 ^ b.length<=10 ^ 4:=I_ AD hb4;have h10:(10:Nat) ^ 4=10000:=AD;rw[h10] at h2;omega)
  go_loopw [9] (λx wr=>∃pos p m:Nat,x=.int .i64 (m:Int)/\pos<=b.length/\Hid (m=va*10 ^ pos)/\Hid (p=10 ^ pos)/\Ku w wr w1 b pos 0 (p:Int)) (λ_ wr=>b.length-wr.iterPos w1)
  case atStart=>exact⟨0,1,va,rfl,Az _,gy,rfl,ZO.o⟩
  case round=>
   exact uN):=h
def ub(h:p:=by
 have hcl:=hst.blk.cell;rcases Nb with Gj|Gj|Gj|Gj|Gj|Gj|Gj
 .
   go_wp2_with fail;refine(hst.step a6 1 _ (l++be 1 a6) rfl rfl AD FD).mono ?_;rintro e QI ⟨v11,rfl,Mb,IX⟩;clear hcl hst IX;go_wp2;go_roundw
   case rel=>
    exact Rm
   case measure=>exact A5
 .go_wp2_with fail;refine DB [4,8] [0,1,2,3,5,6,7,4,8,9] B AF AF rfl AD AF BK ?_;refine Ea ?_;replace hst:=hst.drew;have hcl:=hst.blk.cell;generalize wr.drew=NA at *;refine Ih ?_;intro K hK;refine(hst.step a7 3 _ (l++be 3 a7) rfl rfl AD FD).mono ?_;rintro e QI ⟨v11,rfl,Mb,IX⟩;refine hK _ _ B AK IX ?_;clear hK K IX hcl;refine Ih ?_;intro K hK;refine(Mb.step a8 3 _ (l++be 3 a7++be 3 a8) rfl rfl AD FD).mono ?_;rintro e ANu ⟨v12,rfl,AHF,nL⟩;refine hK _ _ B AK nL ?_;clear hK K nL Mb;refine HM ?_;go_wp2;go_roundw
  case rel=>
   go_light;refine⟨j+1,_,U,A7,AHF,FD,?_⟩;refine Rz ?_;simp[Cx]
  case measure=>exact A5
 .
   go_wp2_with fail;refine(hst.step a9 1 _ (l++be 1 a9) rfl rfl AD FD).mono ?_;rintro e QI ⟨v11,rfl,Mb,IX⟩;clear hcl hst IX;go_wp2;go_roundw
   case rel=>
    exact Rm
   case measure=>exact A5
 .
   go_wp2_with fail;refine(hst.step Bf 1 _ (l++be 1 Bf) rfl rfl AD FD).mono ?_;rintro e QI ⟨v11,rfl,Mb,IX⟩;clear hcl hst IX;go_wp2;go_roundw
   case rel=>
    exact Rm
   case measure=>exact A5
 .
   go_wp2_with fail;refine(hst.step Be 2 _ (l++be 2 Be) rfl rfl AD FD).mono ?_;rintro e QI ⟨v11,rfl,Mb,IX⟩;clear hcl hst IX;go_wp2;go_roundw
   case rel=>
    exact Rm
   case measure=>exact A5
 .
   go_wp2_with fail;refine(hst.step a12 4 _ (l++be 4 a12) rfl rfl AD FD).mono ?_;rintro e QI ⟨v11,rfl,Mb,IX⟩;clear hcl hst IX;go_wp2;go_roundw
   case rel=>
    exact Rm
   case measure=>exact A5
 .
   go_wp2_with fail;refine(hst.step Bi 1 _ (l++be 1 Bi) rfl rfl AD FD).mono ?_;rintro e QI ⟨v11,rfl,Mb,IX⟩;clear hcl hst IX;go_wp2;go_roundw
   case rel=>
    exact Rm
   case measure=>exact A5):=h
def ua(h:p:=by
 clear hK K;refine Bn (λX=>Num B W1 X AV T (.slice g T.length c) en (k+2) _ x'.n x'.d) (An.o.put x'.n x'.d) ?_;intro Y hY;clear An c0 c1 f0 f1 hbl;refine Rv ?_;intro K hK;clear hK K;refine Rv ?_;intro K hK;clear hK K;refine WB ?_;obtain⟨c0,c1,f0,f1⟩:=Fb hY.blk;have nF:=hY.ne;have e1:Y.cell? ⟨AV,1,none⟩=some (.int .i64 ((k+2:Nat):Int)):=hY.rs.blk.cell 1;have g1:=hY.rs.blk.frozen 1;have nG:=hY.rs.blk.lt;have AN9:=hY.blk.lt;have AN3:UG≠AV:=λe=>absurd ((e▸A2.o.blk:AG W1 AV _ _).same A2.o.st.rs.blk) AD;have U4:=O (A2.o.below hY.AJ);have AN2:=A2.o.blk.lt;have AN_:=hY.lo;have hl2:D_ B W ((Y.setCell ⟨UG,1,none⟩ x'.n).setCell ⟨UG,2,none⟩ x'.d) AV T (.slice g T.length c) en (k+2) UG 209 #[nm,x'.n,x'.d]:=(U4.o.put 1 x'.n).put 2 x'.d;have D':=O (hl2.next hk);have ZH:=O (CT.o.to CM.o D'.o.st);obtain⟨us,GF,hown⟩:=ZH.o.c2;have Wt:=CT.o.to CM.o U4.o.st;have ANx:=Wt.blk.g4;have ANw:=Wt.blk.frozen 4;have hbl:=Wt.blk.lt;have AN0:=CT.o.blk.lt;have AHG:=A2.o.lo;have AHV:b≠UG:=U;have hbb:b≠AV:=λe=>absurd ((e▸CT.o.blk:AG W AV _ _).same CM.o.blk) AD;obtain⟨y0,y1,y2,_⟩:=U4.o.blk.y3;obtain⟨-,VP,z2,-⟩:=U4.o.blk.fz;have AN1:=U4.o.blk.lt;clear hY hl2 Wt;have AN6:Hid (W.heap.size<=W1.heap.size):=A2.o.st.kept.size;clear U1 A2 AHG;clear L6 OG An GO By wT P2;generalize k+2=k2 at *;go_wp2_with (at_builtin;go_loud (refine ET AZ _ _ 146 209 AZ underlying146 (.agg #[(),(),()]) 3 24 U U tF rfl ER _ x.Ad.length us.flatten _ [.int .i64 nm,.int .i64 x'.n,.int .i64 x'.d] rfl C2 rfl HP _ AZ AH U AM ?_);intro v' w2 DR hb2 hg2;obtain⟨dy,da,rfl⟩:=CG DR;have HZ:=ZH.o.blk.grown hg2 (ZH.o.blk.apart hown AD);have ANv:=HZ.frozen 4;have Jo:=HZ.lt;have yT:=HZ.cell 4;simp only[CH,A8,Bt] at yT;have BA:=O AMd)
 have Jn:DE [AV] ER W (w2.setCell ⟨b,4,none⟩ (.slice dy (x.Ad.length+1) da)):=(DE.of D'.o.st.kept hB JK).trans BA.o.low;generalize w2.setCell ⟨b,4,none⟩ (.slice dy (x.Ad.length+1) da)=Y at *;refine(EH B _ AV T _ en (k2+1) [59] BA.o.rs rfl Q1.o).mono ?_;rintro e AOT ⟨rfl,cW⟩;go_wp2_with fail;refine Lh (v:=.tuple #[]) SQ rfl ⟨rfl,k2+1+1,s1,.slice dy (x.Ad.length+1) da,s3,s4,As,cW.rs,BA.o.BB.to BA.o.rs cW,Jn.trans (DE.of cW.kept ?_ JK),?_⟩
 .exact Rf
 .rw[<-Cw,N5.o]):=h
def Lv(h:p:=by
 have hn0:n=0:=by
  rcases h.2 with ⟨_,h0⟩|⟨g,cap,cur,h2,_⟩
  .exact h0
  .rw[hv] at h2;cases h2
 subst hv;obtain rfl:us=[]:=PD.1 ANb;subst hn0;clear h;go_in;go_wp2;go_ret;exact⟨_,rfl,Ia _ _ _ _,AN _ _⟩):=h
def uZ(h:p:=by
 go_in;go_wp2_with fail;refine(O0 B _ AV T _ en k 1 CM.o).mono ?_;rw[GO.o];rintro e W1 ⟨rfl,hb1⟩;have L6:=O gF;have d0:W1.cell? ⟨AV,0,none⟩=some (.slice g T.length c):=L6.o.blk.cell 0;have d1:W1.cell? ⟨AV,1,none⟩=some (.int .i64 (k:Int)):=L6.o.blk.cell 1;obtain⟨hg1,_,r1,hne⟩:=L6.o.ND rfl hk;rw[ANR.o] at r1;have AHJ:=L6.o.blk.lt;go_wp2_with fail;go_quiet (fail)
 refine Bn (λX=>BM B X AV T (.slice g T.length c) en k/\Below W W X) ⟨L6.o.drewN _,Do hb1 _⟩ ?_;intro W2 ⟨hr2,hb2⟩;have OG:=O hr2;clear d0 d1 r1 AHJ hg1 hr2;have d1:W2.cell? ⟨AV,1,none⟩=some (.int .i64 (k:Int)):=OG.o.blk.cell 1;have f1:=OG.o.blk.frozen 1;have RI:=OG.o.blk.lt;go_wp2_with (first
  | (go_at_call 214;refine(mY t _).mono ?_;rintro e w' ⟨rfl,rfl⟩;rw[AO.o.ha])
  | (go_at_call 215;refine(pH t _).mono ?_;rintro e w' ⟨rfl,rfl⟩;rw[AO.o.hb])
  | (go_at_call 216;refine(AFl t _).mono ?_;rintro e w' ⟨rfl,rfl⟩;rw[AO.o.hc]))
 go_ret;exact⟨rfl,(OG.o.next hk).below C8,((AP.of_below hb2).setCell AH _).alloc _⟩):=h
def uK(h:p:=by
 obtain⟨j,hj,rfl,rfl⟩:=hrel;by_cases hjk:j<l.length
 .have AN8:(j:Int)<(l.length:Int):=U;obtain⟨b,o,rfl,hb,hcells⟩:=hx U;have hcell:=hcells j l[j] (BL hjk);clear hcells hx;have Tz:=KW (l.take j);have hpl:(l.take j).length=j:=AM;rw[hpl] at Tz;have nE:(256:Int) ^ j<=1099511627776:=by
   exact rR
  have By:Hid (AQ (l.take (j+1))=AQ (l.take j)*256+(l[j].toNat:Int)):=by
   unfold Hid;rw[Mj hjk,ln]
  exact tO
 .have hj':j=l.length:=U;subst hj';have hge:¬(l.length:Int)<(l.length:Int):=U;go_wp2;exact H7):=h
def uJ(h:p:=by
 have h0:(l==[97,110,100])=false:=by simpa using FL h (x:=[97,110,100]) AD
 have h1:(l==[98,101,115,116])=false:=by simpa using FL h (x:=[98,101,115,116]) AD
 have h2:(l==[98,121])=false:=by simpa using FL h (x:=[98,121]) AD
 have h3:(l==[99,114,101,100,105,116])=false:=by simpa using FL h (x:=[99,114,101,100,105,116]) AD
 have h4:(l==[99,117,114,114,101,110,99,121])=false:=by simpa using FL h (x:=[99,117,114,114,101,110,99,121]) AD
 have h5:(l==[101,108,115,101])=false:=by simpa using FL h (x:=[101,108,115,101]) AD
 have h6:(l==[102,108,111,111,114])=false:=by simpa using FL h (x:=[102,108,111,111,114]) AD
 have h7:(l==[102,114,111,109])=false:=by simpa using FL h (x:=[102,114,111,109]) AD
 have h8:(l==[103,114,97,110,116])=false:=by simpa using FL h (x:=[103,114,97,110,116]) AD
 have h9:(l==[105,102])=false:=by simpa using FL h (x:=[105,102]) AD
 have h10:(l==[105,110,100,101,120])=false:=by simpa using FL h (x:=[105,110,100,101,120]) AD
 have h11:(l==[108,101,116])=false:=by simpa using FL h (x:=[108,101,116]) AD
 have h12:(l==[108,105,109,105,116])=false:=by simpa using FL h (x:=[108,105,109,105,116]) AD
 have cm:(l==[109,97,120])=false:=by simpa using FL h (x:=[109,97,120]) AD
 have AOG:(l==[109,105,110])=false:=by simpa using FL h (x:=[109,105,110]) AD
 have AOF:(l==[110,111,116])=false:=by simpa using FL h (x:=[110,111,116]) AD
 have AOE:(l==[111,114])=false:=by simpa using FL h (x:=[111,114]) AD
 have AOD:(l==[112,97,121])=false:=by simpa using FL h (x:=[112,97,121]) AD
 have AOC:(l==[114,101,100,117,99,101])=false:=by simpa using FL h (x:=[114,101,100,117,99,101]) AD
 have AOB:(l==[114,111,117,110,100])=false:=by simpa using FL h (x:=[114,111,117,110,100]) AD
 have h20:(l==[115,116,97,116,117,116,101])=false:=by simpa using FL h (x:=[115,116,97,116,117,116,101]) AD
 have h21:(l==[116,104,101,110])=false:=by simpa using FL h (x:=[116,104,101,110]) AD
 clear h;exact FA):=h
def uI(h:p:=by
 by_cases h0:l=[97,103,101]
 .subst h0;exact Kv
 by_cases h1:l=[121,101,97,114]
 .subst h1;exact Kv
 by_cases h2:l=[99,104,105,108,100,114,101,110]
 .subst h2;exact Kv
 by_cases h3:l=[105,110,115,117,114,101,100]
 .subst h3;exact Kv
 by_cases h4:l=[119,111,114,107,101,100]
 .subst h4;exact Kv
 by_cases h5:l=[118,111,108,117,110,116,97,114,121]
 .subst h5;exact Kv
 by_cases h6:l=[115,101,114,118,105,99,101]
 .subst h6;exact Kv
 by_cases h7:l=[101,113,117,97,116,101,100]
 .subst h7;exact Kv
 by_cases h8:l=[114,97,105,115,105,110,103]
 .subst h8;exact Kv
 by_cases h9:l=[114,101,115,105,100,101,110,116]
 .subst h9;exact Kv
 by_cases h10:l=[98,97,115,101]
 .subst h10;exact Kv
 have e:GE.lookup l=none:=by
  have hb:∀x:AE,¬l=x->(l==x)=false:=λx h=>Fq;simp only[GE,List.lookup,hb _ h0,hb _ h1,hb _ h2,hb _ h3,hb _ h4,hb _ h5,hb _ h6,hb _ h7,hb _ h8,hb _ h9,hb _ h10]
 have Aq:=O e;clear e;have b0:(l==[97,103,101])=false:=Zc;have b1:(l==[121,101,97,114])=false:=OR;have b2:(l==[99,104,105,108,100,114,101,110])=false:=SN;have b3:(l==[105,110,115,117,114,101,100])=false:=SL;have b4:(l==[119,111,114,107,101,100])=false:=gu;have b5:(l==[118,111,108,117,110,116,97,114,121])=false:=wI;have Bw:(l==[115,101,114,118,105,99,101])=false:=wG;have Bv:(l==[101,113,117,97,116,101,100])=false:=by simpa using h7
 have AOL:(l==[114,97,105,115,105,110,103])=false:=by simpa using h8
 have AOK:(l==[114,101,115,105,100,101,110,116])=false:=by simpa using h9
 have AOM:(l==[98,97,115,101])=false:=by simpa using h10
 clear h0 h1 h2 h3 h4 h5 h6 h7 h8 h9 h10;go_in;go_wp2;go_ret2;exact AG5 Aq.o):=h
def uH(h:p:=by
 clear ch;obtain⟨t,m,k,rfl,rfl,rfl,hm,hk,ht,AOA,Aa⟩:=hrel;unfold AR;by_cases h0:0<m
 .rcases gk with _|G
  .have:m<1:=wH;omega
  have hk':k=10 ^ G:=by rw[hk,JB];omega
  have hk1:1<=k:=by rw[hk'];exact Nat.pow_pos AD
  have hd:m / k<=9:=by
   have:m / k<10:=(Nat.div_lt_iff_lt_mul hk1).2 ANK;omega
  have hr:m%k<k:=Mi _ hk1;have cd:k<=10000:=by
   rw[hk'];exact I_ (n:=10) AD (show G<=4 by omega)
  have AN5:m<100000:=Co hm AMa;have e1:(m:Int) / (k:Int)=((m / k:Nat):Int):=AH;have e2:(m:Int)%(k:Int)=((m%k:Nat):Int):=AH;have AIQ:((k:Int)==0)=false:=Aw.2 U;have d1:=Ar 0 m;have CM:=O (show m%k<10 ^ G by rw[<-hk'];exact hr);have GO:=O (show k / 10=10 ^ G / 10 by rw[hk']);clear hm hk hk';generalize m / k=d at *;generalize m%k=r at *;go_wp2_with fail;go_quiet (fail)
  rw[XR _ U,GV];go_wp2_with fail;go_roundg G
  case measure=>omega
  case rel=>exact⟨t++[UInt8.ofNat (48+d)],r,k / 10,rfl,A7,A7,CM.o,GO.o,by rw[Cp];exact(show t.length+1+G<=40 by omega),U,Do Aa _⟩
 .obtain rfl:m=0:=U;clear h0 hm hk;rcases (show Ey=2\/Ey=3\/Ey=4 by omega) with rfl|rfl|rfl
  .go_wp2;go_ret2;refine⟨t++[],?_,Aa.alloc Zv _⟩;show Ending.returned (.tuple #[.string ((ByteArray.mk t.toArray)++(ByteArray.mk ([]:AE).toArray)),true])=_;rw[GV]
  .go_wp2;go_ret2;refine⟨t++[100],?_,Aa.alloc Zv _⟩;show Ending.returned (.tuple #[.string ((ByteArray.mk t.toArray)++(ByteArray.mk ([100]:AE).toArray)),true])=_;rw[GV]
  .go_wp2;go_ret2;refine⟨t++[109],?_,Aa.alloc Zv _⟩;show Ending.returned (.tuple #[.string ((ByteArray.mk t.toArray)++(ByteArray.mk ([109]:AE).toArray)),true])=_;rw[GV]):=h
def fI(h:p:=by
 have GO:=O H;have Ag:=O hI;clear H hI;go_in;go_wp2_with fail;go_loopw [8] (λy wr=>∃i:Nat,y=.int .i64 (i:Int)/\i<=n/\I wr) (λy _=>n-(intOf y).toNat)
 case atStart=>exact⟨0,rfl,Az _,Ag.o⟩
 case round=>
  clear Ag;obtain⟨i,rfl,hi,hin⟩:=hrel;have Ag:=O hin;clear hin;by_cases hlt:i<n
  .obtain⟨g,x0,x1,rfl,hle,hg,q0,q1,hcall⟩:=GO.o wr Ag.o i hlt;have dl:=Ar i n;have HC:=O hcall;clear hcall;go_wp2_with fail;refine HC.o.mono ?_;rintro en w1 ⟨rfl,hin⟩;replace Ag:=O hin;clear q0 q1 hg hin;exact eU
  .exact eu):=h
def uG(h:p:=by
 clear h;split at h'
 .rename_i hh;obtain⟨rfl,h1⟩:=hh;exact ed
 .exact Lq):=h
def uF(h:p:=by
 clear h;split at h'
 .rename_i hh;obtain⟨rfl,h1⟩:=hh;exact eZ
 .exact Lq):=h
def uE(h:p:=by
 go_loop [12] (λx=>∃k:Nat,x=.int .i64 (k:Int)/\k<=a.length+b.length) (λx=>a.length+b.length-(intOf x).toNat)
 case atStart=>exact⟨0,rfl,Az _⟩
 case round=>
  obtain⟨k,rfl,hkk⟩:=hrel;by_cases hkl:k<a.length+b.length
  .have XP:decide ((k:Int)<(a.length:Int)+(b.length:Int))=true:=AM;go_wp2_with (go_at_call 290;refine(Kn _ true (U7.o _ _) _).mono ?_;rintro e w' ⟨rfl,rfl⟩)
   go_round
   case rel=>exact⟨k+1,A7,U⟩
   case measure=>exact A5
  .have XP:decide ((k:Int)<(a.length:Int)+(b.length:Int))=false:=AM;by_cases ha1:1<a.length
   .have AIr:decide ((1:Int)<(a.length:Int))=true:=AM;have h48:((((ByteArray.mk a.toArray)[0]' Zz).toNat:Int)==48)=false:=by
     have q1:=BA.o.a0 ha1;rw[List.head?_eq_getElem?,BL U] at q1;have q2:a[0].toNat≠48:=λe=>q1 ANU;have q3:((ByteArray.mk a.toArray)[0]' Zz)=a[0]:=rfl;rw[q3];simp;omega
    go_wp2;rw[hdd.o];exact BE (v:=.tuple #[.string ⟨a.toArray⟩,.string ⟨b.toArray⟩,d,true]) xX rfl ⟨rfl,rfl⟩
   .have AIr:decide ((1:Int)<(a.length:Int))=false:=AM;go_wp2;all_goals first
     | (exfalso;go_light;omega)
     | (rw[hdd.o];exact BE (v:=.tuple #[.string ⟨a.toArray⟩,.string ⟨b.toArray⟩,d,true]) xX rfl ⟨rfl,rfl⟩)):=h
def YY(h:p:=by

  refine EZ ?_;repeat (go_big_quiet_step ((first
   | (go_at_call 133;refine EN (W8 (Dc a5) _ _ _ _ ?_);go_simp)
   | (go_at_call 136;exact EN (XE _ _ _ _ _))
   | (go_at_call 137;exact Hh (VT _ _ _)))))
  refine Cj ?_;rintro w2 ⟨⟨w3,hb3⟩,hw''⟩;subst hw'';go_wp2;go_ret;refine⟨D8 ?_,?_⟩
  .exact eH
  .exact hB.trans K6):=h
def Lu(h:p:=by
 go_wp2_with fail;go_roundw
 case rel=>exact⟨i+1,A7,U,AC.o⟩
 case measure=>exact A5):=h
def uD(h:p:=by
 clear hK K;refine Bn (λX=>Num B W X AV T (.slice g T.length c) en k _ x.n x.d/\AG X W 213 QC) ⟨An.o.1.put x.n x.d,(An.o.2.far (Ne.symm vk) _).far (Ne.symm vk) _⟩ ?_;intro Y ⟨hY,hres⟩;clear An c0 c1 f0 f1 hbl;refine Rv ?_;intro K hK;clear hK K;refine Rv ?_;intro K hK;clear hK K;refine WB ?_;obtain⟨c0,c1,f0,f1⟩:=Fb hY.blk;have nF:=hY.ne;have AN4:=hY.res hres;have e1:Y.cell? ⟨AV,1,none⟩=some (.int .i64 (k:Int)):=hY.rs.blk.cell 1;have g1:=hY.rs.blk.frozen 1;have nG:=hY.rs.blk.lt;obtain⟨⟨ANz,r1,r2,r3,r4,r5⟩,s0,s1,s2,s3,s4,As⟩:=ED hres;have hlr:=hres.lt;have hbr:W.heap.size≠AV:=λe=>absurd ((e▸hres:AG Y AV 213 QC).same hY.rs.blk) AD;have hwk:DJ B W Y AV T (.slice g T.length c) en k W.heap.size:=⟨⟨hY.rs,AP.of_below hY.AJ⟩,hres,Bh _⟩;have AO:=O (hwk.next hk);clear hY hres hwk;go_wp2;obtain⟨t1,t2,t3⟩:=AO.o.done (e:=.lit x Ey) (u0:=.int .i64 1) (u1:=.int .i64 x.n) (u2:=.int .i64 x.d) (u3:=.int .i64 Ey) (u4:=.string .empty) (u5:=.slice none 0 0) ZB;exact BE (v:=.agg #[.int .i64 1,x.n,x.d,Ey,.string .empty,AL]) Pv rfl ⟨k+1,_,rfl,t1,t2,rfl⟩):=h
def YX(h:p:=by
 go_wp2_with fail;refine(AAi _ _ _ _ _ _ Ax.o.De).mono ?_;rintro e ALK ⟨rfl,nI,cd⟩;have AM1:=O nI;have AM2:=O AMA;clear nI cd;go_wp2_with fail;go_ret;exact⟨_,_,_,rfl,ANT,ANZ,Ax.o.AJ.trans AM2.o⟩):=h
def fH(h:p:=by
 replace AC:=O vR;obtain⟨ANy,hown⟩:=AC.o.row;have hwz:=AC.o.AJ.size;obtain⟨q0,q1,q2,q3,q4,q5,bC⟩:=hY.y6;go_wp2_with (at_builtin;go_loud (refine ET AZ _ _ 35 131 AZ underlying35 (.agg #[(),(),(),(),(),()]) 6 48 U U mq rfl w _ _ _ _ _ rfl C2 rfl wC _ AZ AH U U ?_);intro v' w4 DR hb4 hg4)
 have An:=O (AC.o.grow hown DR C2 hg4);clear hown DR hb4 hg4 AC q0 q1 q2 q3 q4 q5 bC hY;exact rB):=h
def uC(h:p:=by
 refine⟨λy b hy=>?_,?_⟩
 .simp only[E1,Aj,Hg,CW] at hy;rcases hy with hy|⟨rfl,rfl⟩|hy
  .exact qD
  .exact⟨hB,AH,AG.new _ _ _⟩
  .exact qD
 .have hn:=h.nodup;simp only[List.filterMap_append,List.filterMap_cons] at hn ⊢;rw[Wj] at hn ⊢;rw[List.nodup_cons];have AFz:∀b∈s1.filterMap Prod.snd,b<w.heap.size:=by
   exact rj
  have AFy:∀b∈s2.filterMap Prod.snd,b<w.heap.size:=by
   exact rj
  refine⟨hn.1,⟨λhm=>Nat.lt_irrefl _ (AFy _ hm),hn.2.1⟩,λa ha b hb=>?_⟩;rcases Aj.1 hb with rfl|hb
  .exact Nat.ne_of_lt (AFz a ha)
  .exact hn.2.2 a ha b hb):=h
def uA(h:p:=by
 have AHO:∀k ok,ops[k]? = some ok->k≠i->(listed.setIfInBounds j true).getD k true=false->
  (∀e∈ok.after,Region.binds .any e=true->e.on≠i)->oi.apart ops ok=true:=λk ok hk AHK hun hno=>by
  refine hfree k ok hk AHK ?_ hno;by_cases hjk:j=k
  .subst hjk;exact Na
  .exact Xx
 refine I9 (λa' w'' h3=>⟨h3.2.1,ih (listed.setIfInBounds j true) a' w'' (Gm hc hj) AHO Yn ?_ ?_⟩) h2
 .exact h3.1.imp AMi id
 .exact Xn):=h
def t_(h:p:=by
 clear h0 h1;go_in;go_wp2_with fail;go_loopw [9,0,1] (λo x y wr=>o=.slice none 0 0/\x=.slice pa HX ca/\y=.slice pb Et cb/\wr=w) (λ_ _ _ _=>0)
 case atStart=>exact⟨rfl,rfl,rfl,rfl⟩
 case round=>
  obtain⟨rfl,rfl,rfl,rfl⟩:=hrel;go_wp2_with (first
   | (at_builtin;go_loud (refine JU AZ _ _ 34 105 AZ underlying34 (.agg #[(),(),(),false,(),(),(),(),(),(),(),(),(),()]) 14 112 U U O4 rfl wr _ 0 [] _ rfl ⟨rfl,.inl ⟨rfl,rfl⟩⟩ (.slice pa HX ca) HX QD la TM rfl ZR.o U U ?_);intro v1 X1 AHH hb1 hg1;have hz1:=hb1.size;have AM3:=O (FV.next AC.o (AKD hb1)))
   | (at_builtin;go_loud (refine JU AZ _ _ 34 105 AZ underlying34 (.agg #[(),(),(),false,(),(),(),(),(),(),(),(),(),()]) 14 112 U U O4 rfl wr _ (0+HX) ([]++QD) _ rfl (by exact AHH) (.slice pb Et cb) Et SS lb ob rfl AM3.o U hz1 ?_);intro v2 X2 Ty hb2 hg2))
  go_ret;refine⟨_,rfl,?_,hb1.trans hb2⟩;rw[DP,Dg] at Ty;exact Ty):=h
def tz(h:p:=by
 have XP:=Ar j c.mem.length;obtain⟨m,hm⟩:=BQ c.mem j nH;obtain⟨g2,hag,AN7,hg2,q0⟩:=AC.o.cells rfl j m hm;subst hag;have K8:=O hm;have k1:decide (m<0)=false:=DI xR;have k2:decide (6<=m)=false:=DI xR;clear hm;go_wp2_with fail;by_cases AHM:j=0
 .subst AHM;have e2:decide ((0:Int)<((0:Nat):Int))=false:=AD;refine uw ?_;clear b0 b1 b2 b3 b4 hbl;clear q0;replace AC:=O Di;replace A2:=O fh;go_wp2_with fail;go_roundw
  case rel=>exact⟨1,rfl,U,AC.o,A2.o⟩
  case measure=>exact A5
 .have e2:=Ar 0 j;obtain⟨k,rfl⟩:∃k,j=k+1:=⟨j-1,U⟩;obtain⟨m',hm'⟩:∃m',c.mem[k]? = some m':=⟨_,BL U⟩;obtain⟨g',hag,_,_,p0⟩:=AC.o.cells rfl k m' hm';cases hag;have e3:decide (m<=m')=false:=DI AM8;clear hm';refine uw ?_;clear b0 b1 b2 b3 b4 hbl;clear q0 p0;replace AC:=O Di;replace A2:=O fh;go_wp2_with fail;go_roundw
  case rel=>exact⟨k+1+1,A7,U,AC.o,A2.o⟩
  case measure=>exact A5):=h
def Lt(h:p:=by
 intro c a' w' hh;cases hd:o.dst with
 | none=>rw[hd] at hh;exact hh
 | some d=>rw[hd] at hh;exact hQ c a' d v w' hh):=h
def fF(h:p:=by

  refine EZ ?_;repeat (go_big_quiet_step ((first
   | (go_at_call 133;refine EN (W8 (Dc a5) _ _ _ _ ?_);go_simp)
   | (go_at_call 136;exact EN (XE _ _ _ _ _))
   | (go_at_call 137;exact Hh (VT _ _ _)))))
  refine Cj ?_;rintro w' ⟨⟨w2,hb2⟩,hw''⟩;subst hw'';go_wp2;go_ret;refine⟨D8 ?_,?_⟩
  .exact eH
  .exact(((AN _ _).alloc AK _).alloc AH _).trans (hb2.mono AM)):=h
def Ls(h:p:=by
 intro v' w1 hown hgrow hnil;go_wp2;go_ret;exact⟨v',rfl,iK,((AN _ w).alloc AK _).grown hgrow AH ANo⟩):=h
def tw(h:p:=by
 rcases ad with _|ad
 .have hm:m=[]:=by
   rcases m with _|⟨b,m⟩
   .rfl
   .obtain⟨b,o,hh,_⟩:=hcell AH;cases hh
  subst hm;have hc0:c=0:=hz c rfl;subst hc0;refine ALw ?_;exact fin _ _ AM4 ⟨rfl,rfl,rfl,Bh _,λ_ _ _=>rfl⟩
 .refine I8 _ hgd s x 27 ho base 5 i0 (.int .u8 0) 1 1 underlying27 hi hz0 hz1 hz2 rfl AD v l.length (A3 l) hs hown ad m.length c (A3 m) hx LA ?_ (KV m) Hr U hbase ?_
  .exact so
  .intro v' w' hown' hg _;refine fin v' w' ?_ hg;rw[Cp,RY];exact hown'):=h
def tv(h:p:=by
 go_in;go_wp2;go_loopw [0,1] (λx y wr=>∃a b:Nat,a<18446744073709551616/\b<18446744073709551616/\x=.int .u64 (a:Int)/\y=.int .u64 (b:Int)/\Hid (Nat.gcd a b=Nat.gcd a0 b0)/\Below w w wr) (λ_ y _=>(intOf y).toNat)
 case atStart=>exact⟨a0,b0,ha,hb,rfl,rfl,rfl,AN _ _⟩
 case round=>
  obtain⟨a,b,ha1,hb1,rfl,rfl,hg,Aa⟩:=hrel;clear ha hb;by_cases hz:b=0
  .subst hz;go_wp2;go_ret;exact⟨GZ (by rw[<-hg.o];simp),Aa⟩
  .have hb0:((b:Int)==0)=false:=Aw.2 U;have hb2:((b:Int) !=0)=true:=E8.2 U;have hl:a%b<b:=Mi _ U;go_wp2;go_quiet (fail)
   go_roundw
   case rel=>exact⟨_,_,_,_,_,_,_,_,⟨b,a%b,hb1,U,rfl,rfl,ANP,Do Aa _⟩,rfl⟩
   case measure=>exact A5):=h
def Ph(h:p:=by
 obtain⟨co,dJ,ep,s,t,h,c,a,r,sp,pt,ABB⟩:=hp;refine⟨co,dJ,ep,?_,?_,?_,?_,?_,?_,?_,?_,?_⟩<;>simp_all [AHZ,Cf,BJ]):=h
def Lr(h:p:=by
 intro j u hj;rw[Addr.add_lit];refine Lib.cell?_alloc_some _ ?_;simpa using HC.o j u hj):=h
def Pg(h:p:=by
 go_wp2_with fail;exact Xp):=h
def tt(h:p:=by
 have Tz:=KW (l.take j);have hpl:(l.take j).length=j:=AM;rw[hpl] at Tz;have nE:(256:Int) ^ j<=1099511627776:=by
  exact rR
 have By:Hid (AQ (l.take (j+1))=AQ (l.take j)*256+(l[j].toNat:Int)):=by
  unfold Hid;rw[Mj hjl,ln]
 exact tO):=h
def FA(h:p:=by
 go_in;go_wp2;exact H7):=h
def fE(h:p:=by
 go_in;go_wp2_with (first
  | (go_at_call 202;refine(Iu _ _ _ _).mono ?_;rintro e w' ⟨rfl,rfl⟩)
  | (go_at_call 110;refine(Od _ _).mono ?_;rintro e w' ⟨rfl,rfl⟩))
 all_goals first
  | (exfalso;simp_all;done)
  | (go_ret2;rw[BI.o];exact⟨_,rfl,⟨rfl,.inl ⟨rfl,rfl⟩⟩,(AN _ _).alloc AK _⟩)):=h
def YU(h:p:=by
 obtain⟨a',c',g,o,us,h1,_⟩:=h.inv;obtain⟨y1,y2,y3,y4,h6⟩:=e.RK (.slice a' e.kids.length c');rw[h6] at h1;exact rV):=h
def YT(h:p:=by
 obtain⟨a',c',g,o,us,h1,_⟩:=h.inv;obtain⟨y1,y2,y3,y4,h6⟩:=e.RK (.slice a' e.kids.length c');rw[h6] at h1;unfold H2 at h1;simp only[Mh,Km,Jx] at h1;have:=e.Qo;omega):=h
def tq(h:p:=by
 refine AL' ?_;exact V6 hok (Nx hst.AJ AK 0 0 0 false 0 0 0 0 0 0 0 0 0 0)):=h
def UZ(h:p:=by
 have h1:AP (b::S) X w':=⟨hk.os,hk.tape,hk.output,hk.size,λq hq hn=>hk.block q hq (λhm=>hn (Dq _ hm))⟩;exact h1.setCell AH _):=h
def YS(h:p:=by
 skip
 obtain rfl:i=x.red.length:=U;have dl:decide ((x.red.length:Int)<(x.red.length:Int))=false:=AH;clear hlt hi;go_wp2_with fail;clear b0 b1 b2 b3 b4 b5 Bw Bv hbl;clear dl;exact Xp):=h
def tp(h:p:=by
 iterate 1 (refine MT rfl rfl rfl rfl rfl ?_)
 refine Uk ?_;iterate 1 (refine MT rfl rfl rfl rfl rfl ?_)
 refine fJ ?_;exact sI):=h
def tn(h:p:=by
 go_wp2_with (at_builtin;go_loud (refine ET AZ _ _ 266 326 AZ underlying266 (.agg #[.string .empty,()]) 2 24 U U ALj rfl w _ CZ.length us.flatten _ [.string ⟨c.name.toArray⟩,.int .i64 d] rfl C2 rfl HP _ AZ AH VD U ?_);intro v' w4 DR hb2 hg2;have gr:=O (AC.o.grow hg2 hown);have gp:Hid (CQ w w4 (CZ++[(c.name,d)]) v'):=AS.snoc GF rfl DR;clear DR hb2 hg2)
 go_roundw
 case rel=>exact⟨i+1,CZ++[(c.name,d)],A7,U,gr.o,gp.o,vL.o,AFR An.o HC.o,U6.o.snoc (my U6.o _ _ ANe Yv.o),ANI⟩
 case measure=>exact A5):=h
def Rq(h:p:=by
 go_wp2_with fail;exact qP):=h
def YR(h:p:=by
 go_in;go_wp2_with (go_at_call 242;refine(NW _ _ _ _).mono ?_;rintro e w' ⟨rfl,rfl⟩)
 all_goals
  go_ret;refine⟨D8 ?_,(AN _ _).alloc AK _⟩;rw[AC.o];go_light;simp_all):=h
def YQ(h:p:=by
 go_wp2_with fail;go_quiet (fail)
 have Hy:Below wr wr (wr.drewN nq):=Do DL _;go_wp2_with fail;go_roundw
 case rel=>exact⟨k+1,A7,U,AC.o.below Hy,Aq.o.below Hy⟩
 case measure=>exact A5):=h
def YP(h:p:=by
 obtain rfl:i=Db:=U;have dl:decide ((i:Int)<(i:Int))=false:=AH;have hfull:e.kids.take i=e.kids:=ANS;rw[hfull];have FB:=O hfull;clear hfull;go_wp2_with fail;go_ret;exact⟨A7,AC.o.AJ⟩):=h
def tk(h:p:=by
 clear hK K;refine Bn (λX=>Num B W X AV T (.slice g T.length c) en k _ x.n 1) (An.o.put x.n 1) ?_;intro Y hY;clear An c0 c1 f0 f1 hbl;refine Rv ?_;intro K hK;clear hK K;refine Rv ?_;intro K hK;clear hK K;refine WB ?_;obtain⟨c0,c1,f0,f1⟩:=Fb hY.blk;skip
 have nF:=hY.ne;have e1:Y.cell? ⟨AV,1,none⟩=some (.int .i64 (k:Int)):=hY.rs.blk.cell 1;have g1:=hY.rs.blk.frozen 1;have nG:=hY.rs.blk.lt;have wP:=O hY;clear hY;go_wp2;go_ret;exact⟨rfl,wP.o.rs.next hk,(AP.of_below wP.o.AJ).setCell AH _⟩):=h
def tj(h:p:=by
 have ZG:=O hz;clear hz;obtain⟨z0,VP,z2,hrl⟩:=ZG.o.res.y3;obtain⟨y0,y1,y2,hbl⟩:=ZG.o.blk.y3;obtain⟨g0,g1,g2,-⟩:=ZG.o.res.fz;go_wp2_with fail;obtain⟨r1,r2,r3⟩:=ZG.o.ret;rw[<-By.o] at r1;exact BE (v:=.agg _) AMV rfl ⟨_,_,_,rfl,r1,r2⟩):=h
def ti(h:p:=by
 refine Ye ?_;obtain⟨us,GF,hown⟩:=AC.o.out;have hwz:=AC.o.AJ.size;go_wp2_with (at_builtin;go_loud (refine ET AZ _ _ 94 97 AZ underlying94 (.agg #[(),()]) 2 16 U U Rl rfl w _ L.length us.flatten _ [.int .i64 x.n,.int .i64 (x.n+1)] rfl C2 rfl HP _ AZ AH U U ?_);intro v' w4 DR hb4 hg4)
 replace AC:=O (AC.o.grow GF hown DR hg4);clear GF hown DR hg4 hb4 us;go_wp2_with fail;go_roundw
 case rel=>exact⟨i+1,L++[(x.n,x.n+1)],A7,U,P_,AC.o,An.o⟩
 case measure=>exact A5):=h
def YO(h:p:=by
 rcases hown.2 with ⟨rfl,_⟩|⟨g,cap,cur,rfl,hg,_⟩
 .exact UJ
 .simp[Value.ownBlock];omega):=h
def th(h:p:=by
 refine Ye ?_;obtain⟨us,GF,hown⟩:=CM.o.out;have hwz:=CM.o.AJ.size;go_wp2_with (at_builtin;go_loud (refine ET AZ _ _ 94 97 AZ underlying94 (.agg #[(),()]) 2 16 U U Rl rfl w2 _ R.length us.flatten _ [.int .i64 n,.int .i64 (n+1)] rfl C2 rfl HP _ AZ AH U U ?_);intro v' w4 DR hb4 hg4)
 replace CM:=O (CM.o.grow GF hown DR hg4);clear GF hown DR hg4 hb4 us;go_wp2_with fail;go_roundw
 case rel=>exact⟨j+1,R++[(n,n+1)],A7,U,P_,CM.o,An.o⟩
 case measure=>exact A5):=h
def Pe(h:p:=by
 go_wp2_with fail;go_roundw
 case rel=>exact⟨i+1,A7,U,AC.o,Aq.o⟩
 case measure=>exact A5):=h
def tf(h:p:=by
 obtain⟨k,l,hk,rfl,hown',Aa,Wu,hlen,heq⟩:=hrel;clear hown;have hsz:=Aa.size;rcases k with _|k
 .go_wp2;go_ret;have e:l=bs++be size x:=xK;exact⟨_,rfl,we,Aa,Wu⟩
 .have hk1:(0:Int)<=(((k+1:Nat):Int)-1):=U;go_wp2_with (at_builtin;refine Z' AZ _ _ AZ base _ l wr (x / 2 ^ (8*k)) AZ (by exact hown') AZ U U ?_;intro v' w1 hown1 hb1 hg1)
  exact r7):=h
def YN(h:p:=by
 rintro e W3 ⟨iw,rfl,hown,hb,hk⟩;refine hK _ _ W3 hb.size hb ?_;clear hK K;refine HM ?_;go_wp2;go_ret2;rw[BI.o];exact px):=h
def YM(h:p:=by
 go_in;go_wp2_with (go_at_call 110;refine(Od _ _).mono ?_;rintro e w' ⟨rfl,rfl⟩;rw[K8.o])
 all_goals (go_ret;exact⟨Sz Y7,(AN _ _).alloc AK _⟩)):=h
def Pd(h:p:=by
 go_light;refine⟨pos+1,_,U,me wV.o NZ,PE,FD,?_⟩;refine AL3 ?_;simp[Cx]):=h
def fD(h:p:=by
 go_wp2_with (first
  | (go_at_call 288;refine(Ka _ _ A2.o _).mono ?_;rintro e w' ⟨rfl,rfl⟩)
  | (go_at_call 290;refine(Kn _ _ HG.o _).mono ?_;rintro e w' ⟨rfl,rfl⟩))
 exact qB):=h
def Ua(h:p:=by
 clear H hI;go_in;go_wp2_with fail;refine Ag.o.mono ?_;exact ee):=h
def Pc(h:p:=by
 go_light;have h1:=me wV.o NZ;have h0:=HIT.o;simp[World.iterPos,h1,h0];omega):=h
def UX(h:p:=by
 rcases Aj.1 hm with rfl|hm
 .exact h1 (hg.same h.blk)
 .obtain⟨_,cs',h3⟩:=hS g hm;exact h2 (hg.same h3)):=h
def tb(h:p:=by
 obtain rfl:i=n:=U;have dl:decide ((i:Int)<(i:Int))=false:=AH;rw[show ds.take i=ds from by rw[<-An.o];exact F6] at hown BI;have HC:=O (ml (by rw[An.o];exact hown) (by rw[An.o];omega));obtain⟨va,Gz,rfl⟩:=CG hown;clear hown;go_wp2_with fail;refine(ZR.o _ _ HC.o).mono ?_;rintro en w1 ⟨rfl,nK⟩;replace AC:=O (AC.o.below nK);clear nK b0 b5 hbl Aq BI HC;exact UW):=h
def ta(h:p:=by
 go_wp2_with (at_builtin;go_loud (refine ET AZ _ _ 22 3 AZ underlying22 () 1 8 U U tI rfl w _ i ((ds.take i).map (Value.int .i64)) _ [.int .i64 d] rfl C2 rfl (by exact BI.o) _ AZ AH U U ?_);intro v' w2 DR hb2 hg2;have gr:=O (ZQ.o.AHe hg2 BI.o);have gp:=O (wY.o.AHd hg2 BI.o);have AM0:=O DR;clear DR hb2 hg2)
 go_roundw
 case rel=>exact⟨i+1,A7,U,AM9,gr.o,gp.o⟩
 case measure=>exact A5):=h
def Ro(h:p:=by
 obtain⟨hk,rfl⟩:=LG h;obtain⟨e1,e2,e3⟩:=aO _ l t hk;simp[e1,e2,e3,h]):=h
def YK(h:p:=by
 refine⟨ML fr (BN l a),?_,?_,rfl,rfl⟩
 .exact X'
 .refine Yg ?_;omega):=h
def H8(h:p:=by
 go_in;go_wp2;go_ret;exact⟨AZ,rfl⟩):=h
def fC(h:p:=by
 go_in;go_wp2_with (first|(go_at_call 301;refine(lB _ _ A2.o _).mono ?_;rintro e w' ⟨rfl,rfl⟩)|(go_at_call 347;refine(lK _ _ HG.o _).mono ?_;rintro e w' ⟨rfl,rfl⟩))
 exact H7):=h
def tZ(h:p:=by
 refine EZ ?_;repeat (go_big_quiet_step (fail))
 refine Cj ?_;rintro SZ ⟨⟨yE,W5⟩,cU⟩;subst cU;replace hst:=hst.next W5
 clear W5;have hcz:∀x,SZ.cell? ⟨w,x,none⟩=(#[(),(),(),false,(),(),(),(),(),(),(),(),(),()]:Array AB)[x]?:=hst.z.cell;have hfz:=hst.z.frozen;have RL:∀x,SZ.cell? ⟨g,x,none⟩=(#[g0,g1,g2,g3,g4,g5,g6,g7,g8,g9,g10,g11,g12,g13]:Array AB)[x]?:=hst.f.cell;go_wp2;exact tq):=h
def Rn(h:p:=by
 go_wp2_with fail;exact qK):=h
def tY(h:p:=by
 intro j oj hj hf i hi;have hjl:j<ops.size:=(E7.1 hj).1;have hil:i<fin.size:=by
  rcases Fg i fin.size with h' | h'
  .exact h'
  .simp[Kl h'] at hi
 have h1:=DS.1 h j (RB.2 hjl);rw[hf,hj] at h1;simp only[No] at h1;have h2:=DS.1 h1 i (RB.2 hil);rw[hi] at h2;simpa using h2):=h
def tX(h:p:=by
 have h1:c.toNat<256:=c.toNat_lt;have Aq:Hid (GC c=(decide (97<=c.toNat)&&decide (c.toNat<=122))):=rfl;generalize c.toNat=x at *;go_in;by_cases h2:97<=x
 .have d2:decide ((97:Int)<=(x:Int))=true:=AM;by_cases h3:x<=122
  .go_wp2;go_ret;exact⟨xQ,rfl⟩
  .go_wp2;go_ret;exact⟨xN,rfl⟩
 .have d2:decide ((97:Int)<=(x:Int))=false:=AM;go_wp2;go_ret;exact⟨w6,rfl⟩):=h
def tW(h:p:=by
 have h1:c.toNat<256:=c.toNat_lt;have Aq:Hid (CD c=(decide (48<=c.toNat)&&decide (c.toNat<=57))):=rfl;generalize c.toNat=x at *;go_in;by_cases h2:48<=x
 .have d2:decide ((48:Int)<=(x:Int))=true:=AM;by_cases h3:x<=57
  .go_wp2;go_ret;exact⟨xQ,rfl⟩
  .go_wp2;go_ret;exact⟨xN,rfl⟩
 .have d2:decide ((48:Int)<=(x:Int))=false:=AM;go_wp2;go_ret;exact⟨w6,rfl⟩):=h
def fB(h:p:=by
 have hp':tmps[p]?.getD undef=.pointer g:=P6;have h1':tmps[u]?.getD undef=v1:=OR;have h2':tmps[x]?.getD undef=v2:=SN;simp[results,h,hp',h1',h2',asAddr,run_loadVar_row w g t ty cs fr d hg hu hd hi]):=h
def tV(h:p:=by
 clear h;split at h'
 .rename_i hh;obtain⟨rfl,h1⟩:=hh;exact ed
 .rename_i AHN;split at h'
  .rename_i hh;obtain⟨rfl,h1⟩:=hh;have z0:=Aw.2 h1;have y0:=E8.2 h1;have h2:a≠2:=U;have VP:=Aw.2 h2;have y1:=E8.2 h2;exact YZ
  .exact Lq):=h
def tU(h:p:=by
 clear h;split at h'
 .rename_i hh;obtain⟨rfl,h1⟩:=hh;exact eZ
 .rename_i AHN;split at h'
  .rename_i hh;obtain⟨rfl,h1⟩:=hh;have z0:=Aw.2 h1;have y0:=E8.2 h1;have h2:a≠2:=U;have VP:=Aw.2 h2;have y1:=E8.2 h2;exact Ya
  .exact Lq):=h
def YJ(h:p:=by
 rintro e w1 ⟨rfl,hb1⟩;replace Aa:=AW Aa hb1;clear hb1;go_wp2;go_ret;exact⟨D8 BI.o.symm,Aa.alloc Aa.size _⟩):=h
def UW(h:p:=by
 go_wp2_with fail;go_ret2;exact⟨rfl,AC.o.AJ⟩):=h
def tT(h:p:=by
 have e:((((((z.setIfInBounds 0 g0).setIfInBounds 1 g1).setIfInBounds 2 g2).setIfInBounds 3 g3).setIfInBounds 4 g4).setIfInBounds 5 g5)=#[.int .i64 g0,.int .i64 g1,.int .i64 g2,.int .i64 g3,.int .i64 g4,.int .i64 g5]:=by
  obtain⟨z⟩:=z;match z,hz with
  | [_,_,_,_,_,_],_=>rfl
 rw[<-e];exact((((((h.put 0 g0).put 1 g1).put 2 g2).put 3 g3).put 4 g4).put 5 g5)):=h
def YI(h:p:=by
 have h1:=ready_mono hj Dy;rw[H.1] at h1;have h2:=Ge h1;rw[LN hW hc (Ge hr) hif hj] at h2;cases h2):=h
def tS(h:p:=by
 have h1:=H.2.2 j Uw;obtain⟨Na,oj,NY,hall⟩:=I7.1 hj;have AHI:∀e∈oj.after,Region.binds .any e=true->e.on≠i:=λe he hb heq=>by
  exact US
 have h2:=wpOp_putIf NY (hfree j oj NY Dy Na AHI) (λcs b=>cX i oi cs b hi) (λcs b=>cX j oj cs b NY) hQ hy h1;exact uA):=h
def YH(h:p:=by
 go_in;go_wp2;all_goals
  go_ret;refine⟨D8 ?_,rfl⟩;go_light;simp only[BJ];first|(simp;omega)|simp_all):=h
def tR(h:p:=by
 go_in;go_wp2_with fail;refine(Iu _ _ _ _).mono ?_;rintro e w' ⟨rfl,rfl⟩;rw[H1.o];go_wp2_with fail;refine(Iu _ _ _ _).mono ?_;rintro e w' ⟨rfl,rfl⟩;rw[OL.o];go_wp2_with fail;refine(ACJ k s _ l _ gg.o hl).mono ?_;exact qp):=h
def Rm(h:p:=by
 go_light;refine⟨j+1,_,U,A7,Mb,FD,?_⟩;refine Rz ?_;simp[Cx]):=h
def tQ(h:p:=by
 go_in;go_wp2_with fail;refine(NW _ _ _ _).mono ?_;rintro e w' ⟨rfl,rfl⟩;rw[H1.o];go_wp2_with fail;refine(NW _ _ _ _).mono ?_;rintro e w' ⟨rfl,rfl⟩;rw[OL.o];go_wp2_with fail;refine(yS s n k _ _ l _ gg.o hl).mono ?_;exact qp):=h
def tP(h:p:=by
 replace Aa:=AW Aa hb1;clear hb1;generalize IY l=F at *;obtain⟨g0,g1,g2,g3,g4,g5,g6,g7,g8,g9,g10,g11,g12,g13⟩:=F;simp only[BP];rcases hok:Ew l with _|_;all_goals
  rw[hok] at BI;clear hok;go_wp2;go_ret;refine⟨D8 ?_,Aa.alloc Aa.size _⟩;rw[BI.o];go_light;first|(simp;done)|(simp;rfl)):=h
def YG(h:p:=by
 go_wp2_with fail;go_roundw
 case rel=>exact⟨i+1,A7,U,An.o⟩
 case measure=>exact A5):=h
def tO(h:p:=by
 have c1:(0:Int)<=(l[j].toNat:Int):=U;have c2:(l[j].toNat:Int)<256:=ANV;have n1:0<=AQ (l.take j):=Tz.1;have n2:AQ (l.take j)<=1099511627776:=U;have BI:=O (ba _ _ n1 n2 c1 c2);clear Tz hpl nE;generalize AQ (l.take j)=x at *;go_wp2;go_round
 case rel=>exact⟨j+1,U,A7,ANH⟩
 case measure=>exact A5):=h
def UU(h:p:=by
 have:=h.lo;rcases Aj.1 hq with rfl|hm
 .omega
 .have:=(hS q hm).1;omega):=h
def Kv(h:p:=by
 go_in;go_wp2;go_ret2;exact⟨AZ,rfl⟩):=h
def tN(h:p:=by
 intro y b hy;by_cases hyx:x.i=y.i
 .rw[<-hyx];rcases Fg x.i listed.size with h' | h'
  .simp[h']
  .simp
 .rw[Nn true hyx];simp only[E1,Aj,Hg] at hy;rcases hy with hy|⟨rfl,_⟩|hy
  .exact PM y b Ip
  .exact absurd rfl hyx
  .exact PM y b Ip):=h
def eo(h:p:=by
 rintro e w' ⟨rfl,rfl⟩;go_wp2;go_ret;refine⟨?_,hB⟩;refine congrArg Ending.returned (Og ?_);rw[Vg];rw[AU hq,Ab hr];refine fO ?_;rfl):=h
def X9(h:p:=by
 have hok:=ZP.o (by rw[Gj];simp[Bq,So (k:=1) (l:=l.drop n) AM]);exact Xr):=h
def X8(h:p:=by
 generalize T.length=n at *;go_in;go_wp2_with fail;go_quiet (fail)
 go_wp2;go_ret;exact⟨AMu,Do DL _⟩):=h
def su(h:p:=by
 have hk:=h.st.kept;have h6:AP [b] X (GY X b u0 u1 u2 u3 u4 u5):=jw;refine⟨h6.os.trans hk.os,h6.tape.trans hk.tape,h6.output.trans hk.output,Ap hk.size h6.size,λq hq hn=>?_⟩;have hlo:=h.lo;exact(h6.block q (Co hq hk.size) AM).trans (hk.block q hq hn)):=h
def sr(h:p:=by
 simp only;split
 .rename_i hw;rw[Ab hw] at h;refine .inl (PC (λa' w' hh=>?_) h);obtain⟨B',hle,hb,hh⟩:=hh;exact⟨C9.of hb,aA (λx hx=>C9.sub hle hb hx) _ _ _ _ (ih B' a' w' hh)⟩
 .rename_i hw;rw[AU hw] at h;exact⟨C9.self B w,ih B _ w h⟩):=h
def sq(h:p:=by
 obtain rfl:i=l.length:=U;have dl:decide ((l.length:Int)<(l.length:Int))=false:=AH;have Bj:Hid (CZ=env):=by
  have:=A2.o;rw[List.drop_length] at this;exact O (by simpa[G5] using this)
 clear hlt hi;go_wp2_with fail;go_ret2;exact⟨_,rfl,by rw[<-Bj.o];exact Aq.o,AC.o.AJ⟩):=h
def so(h:p:=by
 intro j u hu;have hj:j<m.length:=ANl;obtain⟨b,o,hh,_,AHE⟩:=hcell U;injection hh with hh;subst hh;have hadd:(⟨b,o,none⟩:Addr).add j=⟨b,o+j,none⟩:=iE;rw[hadd];simp only[A3,JA,I6] at hu;obtain⟨z,hz,rfl⟩:=hu;exact AHE j z hz):=h
def X7(h:p:=by
 refine Rz ?_;obtain⟨e1,e2,e3⟩:=KM 1 (l.drop n) AM;exact eG):=h
def sn(h:p:=by
 have h3:=RA n (show m≠0 by omega);have h4:=Q' n (show 0<m by omega);obtain⟨hb1,hb2⟩:=hb;have hm0:(m==0)=false:=Aw.2 U;go_in;go_wp2;all_goals
  go_ret;refine⟨GZ ?_,rfl⟩;go_light;have h5:=H.o;split at h5<;>omega):=h
def Pa(h:p:=by
 obtain⟨_,cs',h3⟩:=hS g hm;exact h1 (hg.same h3)):=h
def sk(h:p:=by
 intro l;induction l with
 | nil=>intro h;cases h
 | cons p l ih=>
  intro h;obtain⟨a,b⟩:=p;simp only[List.lookup] at h;split at h
  .rename_i e;have:s=a:=by simpa using e
   cases h;subst this;exact D0
  .exact Dq _ (ih h)):=h
def sj(h:p:=by
 replace Aa:=AW Aa hb1;clear hb1;rcases hok:Es l with _|_;all_goals
  rw[hok] at BI;clear hok;generalize S7 l=g0 at *;go_wp2;go_ret;refine⟨D8 ?_,Aa.alloc Aa.size _⟩;rw[BI.o];go_light;first|(simp;done)|(simp;rfl)):=h
def el(h:p:=by
 go_wp2;refine ALx ?_;exact⟨0,0,by rw[hf],vy,((hal.setCell (p:=⟨w,0,none⟩) AK _).setCell (p:=⟨w,1,none⟩) AK _).alloc AM _⟩):=h
def si(h:p:=by
 rw[<-HD.o] at hs1;have Fp:=O hs1;clear hs1;go_wp2;all_goals
  go_ret;refine⟨GZ ?_,rfl⟩;go_light;simp only[C7,Aw,ne_eq] at *;obtain⟨q1,q2⟩:=Fp.o;unfold Vm at q1 q2;first|(have:=q1 U;omega)|(have:=q2 U;omega)):=h
def X6(h:p:=by
 simp only[Aj,A',A_] at hm;subst hm;exact ht (hg.same h.blk)):=h
def ek(h:p:=by
 go_wp2;go_ret;refine⟨?_,hB⟩;refine congrArg Ending.returned (Og ?_);rw[Vg];rw[Ab hq,AU hr];refine fO ?_;rfl):=h
def ej(h:p:=by
 go_wp2;go_ret;refine⟨?_,hB⟩;refine congrArg Ending.returned (Og ?_);rw[Vg];rw[AU hq,AU hr];refine fO ?_;rfl):=h
def sg(h:p:=by
 replace Aa:=AW Aa hb1;clear hb1;rcases hok:E0 l with _|_;all_goals
  rw[hok] at BI;clear hok;generalize UE l=g0 at *;go_wp2;go_ret;refine⟨D8 ?_,Aa.alloc Aa.size _⟩;rw[BI.o];go_light;first|(simp;done)|(simp;rfl)):=h
def H7(h:p:=by
 go_ret;exact N1):=h
def sf(h:p:=by
 by_cases h1:1<=k/\k<=14
 .have hk:k=1\/k=2\/k=3\/k=4\/k=5\/k=6\/k=7\/k=8\/k=9\/k=10\/k=11\/k=12\/k=13\/k=14:=U;clear h1;exact qn
 .rw[QL k U];decide):=h
def se(h:p:=by
 obtain⟨a,c,rfl,hc,hx⟩:=h;go_in;go_wp2;go_loop [3,4] (λx t=>∃j:Nat,j<=l.length/\t=.int .i64 j/\x=.int .i64 (AQ (l.take j))) (λ_ t=>l.length-(intOf t).toNat)
 case atStart=>exact⟨0,Az _,rfl,rfl⟩
 case round=>
  exact uK):=h
def sd(h:p:=by
 clear AC b0 b1 b2 b3 b4 b5 hbl hb3;intro X hX;have AC:=O hX;clear hX;exact py):=h
def sa(h:p:=by
 obtain⟨z0,VP,z2,_⟩:=CM.o.y3;obtain⟨f0,f1,f2,-⟩:=CM.o.fz;go_wp2_with fail;rw[<-KA.o];exact BE (v:=.tuple #[.agg _,.bool (Ha x s)]) AML rfl ⟨⟨_,_,_,_,_,rfl⟩,((AC.o.AJ.setCell AH _).setCell AH _).setCell AH _⟩):=h
def Rk(h:p:=by
 obtain⟨e,hs⟩:=aP h AD AD;exact⟨hs,e.symm⟩):=h
def Lq(h:p:=by
 exact absurd h'.symm hx):=h
def sZ(h:p:=by
 rw[BI.o,<-e];refine⟨_,rfl,?_,hst.AJ,DK.of_below hst.AJ⟩;obtain⟨q1,q2⟩:=hst.own;refine⟨q1,?_⟩;rcases q2 with h0|⟨g,cap,cur,hv,hg,rest⟩
 .exact .inl h0
 .exact .inr ⟨g,cap,cur,hv,Ap hst.hw hg,rest⟩):=h
def Rj(h:p:=by
 have h':(if a=b/\a≠1 then 1 else 0)=x:=h;exact uG):=h
def Ri(h:p:=by
 have h':(if a=b/\a≠1 then 1 else 0)=x:=h;exact uF):=h
def ei(h:p:=by
 rintro e w' ⟨rfl,rfl⟩;go_wp2;go_ret;refine⟨?_,hB⟩;refine congrArg Ending.returned (Og ?_);refine AL5 ?_;rfl):=h
def Lp(h:p:=by
 first|done|(show _=_;kernel_rfl)):=h
def sY(h:p:=by
 intro x hx Ws;rw[<-hs] at hx;obtain⟨⟨y,o⟩,hy,rfl⟩:=Gr.1 hx;rcases o with _|b
 .exact PI (PB.2 ⟨(y,none),hy,AMs⟩)
 .have:=PM y b hy;simp only at Ws;rw[Ws,Na] at this;cases this):=h
def sX(h:p:=by
 have hl:Gg K s=(Hb K s).length:=rfl;clear h hk;go_in;go_wp2_with fail;refine HD.o.mono ?_;rintro e w1 ⟨v,rfl,hL,hb⟩;obtain⟨a,q,rfl,_⟩:=AS.slice hL;clear hL;go_wp2_with fail;go_ret;exact⟨by rw[hl];rfl,hb⟩):=h
def UT(h:p:=by
 obtain⟨_,cs',h3⟩:=hS b hm;exact absurd (h.blk.same h3) AD):=h
def sW(h:p:=by
 iterate 3 (refine MT rfl rfl rfl rfl rfl ?_)
 refine Uk ?_;iterate 1 (refine MT rfl rfl rfl rfl rfl ?_)
 refine Uk ?_;iterate 1 (refine MT rfl rfl rfl rfl rfl ?_)
 iterate 2 refine Fk ?_
 exact tp):=h
def X5(h:p:=by
 go_in;go_wp2;go_ret;exact⟨D8 H.o.symm,(AN _ _).alloc AK _⟩):=h
def sV(h:p:=by
 rw[Int.tmod_eq_emod];by_cases h0:0<=n
 .simp[h0]
 .by_cases h1:n%m=0
  .have:m∣n:=Int.dvd_of_emod_eq_zero h1;simp[this,h1]
  .have:¬m∣n:=λhd=>h1 (Int.emod_eq_zero_of_dvd hd);simp[h0,this,h1];omega):=h
def US(h:p:=by
 have h1:=hall e he hb;rw[heq,Ge hr] at h1;cases h1):=h
def UR(h:p:=by
 go_wp2;go_ret;exact⟨D8 BI.o.symm,Aa⟩):=h
def UQ(h:p:=by
 replace AC:=O Bg;clear b0 b1 b2 b3 b4 b5 hbl hb1;exact Pg):=h
def eh(h:p:=by
 have An:=O AMJ;go_wp2_with fail;go_roundw
 case rel=>exact⟨i+1,A7,U,trivial,An.o⟩
 case measure=>exact A5):=h
def sU(h:p:=by
 refine h.st.rs.kept jw (λq t cs hg hty hm=>?_);simp only[Aj,A',A_] at hm;subst hm;have:=hg.same h.res;exact qF):=h
def sT(h:p:=by
 rw[hrun];cases hf:F key with
 | none=>
  rw[hf] at h3;cases cj;have h4:=(h3 .nil).symm.trans (hat .nil);cases h4
 | some v=>
  rw[hf] at h3;cases cj;have h4:=(h3 .nil).symm.trans (hat .nil);cases h4;rfl):=h
def X'(h:p:=by
 rw[e];refine Og ?_;exact pn):=h
def s7(h:p:=by
 refine⟨hk.os.trans PH.os,hk.tape.trans PH.tape,hk.output.trans PH.output,Ap PH.size hk.size,λp hp hn=>?_⟩;exact(hk.block p (Co hp PH.size) AM).trans (PH.block p hp hn)):=h
def s6(h:p:=by
 unfold AR at An;refine ue ?_;intro K hK;clear hK K;refine LU ?_;clear b0 b1 b2 b3 b4 b5 Bw Bv f3 f4 f5 f6 f7 hbl;clear hgb Wx Wy hgl k1 cv k2 cu k3 ct k4 cr k5 cq k6 cp;clear OE By AC;exact YG):=h
def s5(h:p:=by
 refine Cj ?_;rintro w2 ⟨⟨w3,hb3⟩,hw''⟩;subst hw'';go_wp2;go_ret;refine⟨D8 ?_,hB.trans K6⟩;simp only[GT,h1,h2,h3,h4,Nm];rw[Bool.eq_iff_iff];simp only[C7];omega):=h
def sy(h:p:=by
 rcases (by omega:op=7\/op=8\/op=9\/op=10\/op=11\/op=12\/op=13\/op=14\/op=15\/op=16\/op=17\/op=18) with rfl|rfl|rfl|rfl|rfl|rfl|rfl|rfl|rfl|rfl|rfl|rfl<;>
  (go_in;go_wp2;go_ret;exact⟨AZ,rfl⟩)):=h
def eu(h:p:=by
 obtain rfl:i=n:=U;have dl:decide ((i:Int)<(i:Int))=false:=AH;go_wp2_with fail;go_ret;exact⟨rfl,Ag.o⟩):=h
def sx(h:p:=by
 clear hK K;iterate 1 refine Yi ?_
 refine ACw ?_;have dt:=HC.o.blk.grown nJ gv;have b2:=dt.g2;have f2:=dt.frozen 2;have AOJ:=dt.lt;go_wp2_with fail;go_ret;exact HC.o.fin HG.o AMy.o U3.o nJ hab):=h
def er(h:p:=by
 obtain rfl:i=l.length:=U;have dl:decide ((l.length:Int)<(l.length:Int))=false:=AH;clear hlt hi;exact Pg):=h
def X_(h:p:=by
 exact yt hok (Nx Aa AK 0 0 0 false 0 0 0 0 0 0 0 0 0 0)):=h
def sw(h:p:=by
 rintro en w3 ⟨rfl,hb1⟩;replace AC:=O Bg;clear hb1 q0 q1 q2 q3 q4 q5 q6 kj b0 b1 b2 hbl;exact Lu):=h
def sO(h:p:=by
 intro i hi;rw[hp'] at hi;have hij:x.i≠i:=by
  rintro rfl;rcases E1.1 hi with h|h
  .exact cZ.1 (cY _ _ h)
  .exact cZ.2 (cY _ _ h)
 rw[Nn true hij];exact hun i ANM):=h
def sN(h:p:=by
 rw[<-e];exact((((((((((((((h.put 0 g0).put 1 g1).put 2 g2).put 3 (.bool g3)).put 4 g4).put 5 g5).put 6 g6).put 7 g7).put 8 g8).put 9 g9).put 10 g10).put 11 g11).put 12 g12).put 13 g13)):=h
def ed(h:p:=by
 have z0:=Aw.2 h1;have y0:=E8.2 h1;exact YZ):=h
def eZ(h:p:=by
 have z0:=Aw.2 h1;have y0:=E8.2 h1;exact Ya):=h
def UP(h:p:=by
 go_in;go_wp2;go_ret;exact⟨D8 H.o.symm,rfl⟩):=h
def E_(h:p:=by
 simpa using this):=h
def X4(h:p:=by
 subst Dy;exact hy.wpOp hi (C_.self _ _) ⟨AP.refl _ _,H⟩):=h
def eY(h:p:=by
 simp only[Aj,A',A_] at hx;subst hx;simp at ho;subst ho;go_simp):=h
def eX(h:p:=by
 go_wp2_with fail;go_ret;exact⟨_,_,rfl,AC.o.row,U,AC.o.AJ⟩):=h
def eW(h:p:=by
 rw[HB AM] at this;rw[show l.length-(l.length-4)=4 by omega];exact D2):=h
def Lo(h:p:=by
 unfold qOp;rw[hi'];exact h):=h
def UO(h:p:=by
 go_in;go_wp2_with fail;go_ret;exact⟨rfl,hal⟩):=h
def X3(h:p:=by
 obtain⟨b0,b1,b2,b3,b4,b5,hbl⟩:=AC.o.blk.y6;go_in;exact UW):=h
def sM(h:p:=by
 intro t i hi;obtain⟨⟨y,o⟩,hy,ho⟩:=PB.1 hi;rcases o with _|o
 .simp only[CW] at ho;exact Gr.2 ⟨_,hy,ho⟩
 .cases ho):=h
def sL(h:p:=by
 rcases (show j=0\/j=1\/j=2\/j=3\/j=4\/j=5\/j=6\/j=7\/j=8\/j=9\/j=10\/j=11\/j=12 by omega) with rfl|rfl|rfl|rfl|rfl|rfl|rfl|rfl|rfl|rfl|rfl|rfl|rfl<;>rfl):=h
def eU(h:p:=by
 go_wp2_with fail;go_roundw
 case rel=>exact⟨i+1,A7,U,Ag.o⟩
 case measure=>exact A5):=h
def sK(h:p:=by
 refine Bn (λX=>M1 w X b _ _ _ _) U0.o ?_;clear U0 HG HG2 SB ZN y1 f1 hbl y4 f4 hgl Py Ag U3 HZ i_ Jo VV DR hb2 hg2;intro ALK hz;exact tj):=h
def sJ(h:p:=by
 have hp':tmps[p]?.getD undef=.pointer g:=P6;have h1':tmps[u]?.getD undef=v1:=OR;simp[results,h,hp',h1',asAddr,run_loadVar_row w g t ty cs fr d hg hu hd hi]):=h
def sI(h:p:=by
 have hz:=hR.z;have Aa:=hR.AJ;clear hR W4 XC Xf;have hcz:=hz.cell;have hfz:=hz.frozen;go_wp2;refine AL9 ?_;exact PV Gu.o (T_ Aa AK _ _ _ _ _)):=h
def sH(h:p:=by
 have h2:s.data.toList=CF a5:=iD;rw[h2] at h1;exact h1):=h
def sG(h:p:=by
 clear h;split at h'
 .rename_i hh;obtain⟨rfl,rfl⟩:=hh;exact YZ
 .exact Lq):=h
def sF(h:p:=by
 clear h;split at h'
 .rename_i hh;obtain⟨rfl,rfl⟩:=hh;exact Ya
 .exact Lq):=h
def X0(h:p:=by
 clear hp hh;go_wp2_with fail;go_ret2;exact⟨ANJ,AC.o⟩):=h
def Rh(h:p:=by
 exact h _ λ_ _ h1 h2=>⟨h1,h2⟩):=h
def sE(h:p:=by
 have h0:=hin 0 U;have h1:=hlo x (D0 ..);rcases Aj.1 h0 with h2|h2
 .simp at h2;omega
 .have:=hx _ h2;simp at this;omega):=h
def sD(h:p:=by
 rintro e w4 ⟨s,rfl,hb4⟩;replace AC:=O (AC.o.below hb4);clear b0 b1 b2 b3 b4 b5 hbl hb4;exact py):=h
def UN(h:p:=by
 clear b0 b1 b2 b3 b4 b5 Bw Bv hbl;exact Lu):=h
def sC(h:p:=by
 rintro e w1 ⟨rfl,hb1⟩;rw[HD.o];go_wp2;go_ret2;unfold VB;rw[BI.o.1,BI.o.2];exact⟨_,rfl,⟨rfl,.inl ⟨rfl,rfl⟩⟩,AW Aa hb1⟩):=h
def sB(h:p:=by
 split
 .rename_i hw;rw[Ab hw] at h;exact .inl (PC AMK h)
 .exact qJ):=h
def sA(h:p:=by
 have h9:s.data.toList.length=s.size:=AH;have hp:pos=s.data.toList.length:=U;have:=heq.o;rw[hp,F6,U5.o,Fp.o] at this;exact D2):=h
def r_(h:p:=by
 cases fuel with
 | zero=>exact⟨h.1,λw' hw'=>h.2 w' (AW hb hw')⟩
 | succ fuel=>exact⟨h.1,h.2.1,λw' hw'=>h.2.2 w' (AW hb hw')⟩):=h
def r9(h:p:=by
 go_wp2_with fail;refine(Ag.o _ _ Aq.o AC.o.tree).mono ?_;rintro en w2 ⟨rfl,hb2⟩;replace AC:=O K1;clear b0 b1 b2 b3 b4 b5 hbl hb2;exact UW):=h
def r8(h:p:=by
 rcases Fg j i with h|h
 .exact Ag.o j y h hy
 .obtain rfl:j=i:=U;rw[Bj.o] at hy;injection hy with hy;subst hy;simp[EL];omega):=h
def Xz(h:p:=by
 have h':(if a=b/\a≠1 then a else 0)=x:=h;exact uG):=h
def Xy(h:p:=by
 have h':(if a=b/\a≠1 then a else 0)=x:=h;exact uF):=h
def eT(h:p:=by
 rintro e w' ⟨v',rfl,ho,hb⟩;exact⟨v',rfl,⟨us,h1.mono BW,ho⟩,hb⟩):=h
def eS(h:p:=by
 have:(E6 T).drop k=[]:=Mg xI;simp[AT,this] at h):=h
def eR(h:p:=by
 go_wp2_with fail;go_ret;exact⟨.slice TM D.length bi,rfl,xL,AC.o.AJ⟩):=h
def r7(h:p:=by
 go_roundw
 case rel=>exact⟨k,l++[byteOf (x / 2 ^ (8*k))],U,A7,hown1,Aa.trans hb1,Wu.trans hg1,AM,ANN⟩
 case measure=>simp[intOf]):=h
def sS(h:p:=by
 go_wp2_with fail;refine(AKj ALM Bj.o.gl).mono ?_;rintro e HF ⟨rfl,hb⟩;go_wp2_with fail;go_meet;exact⟨rfl,Bj.o.next hb⟩):=h
def eg(h:p:=by
 split
 .split
  .exact GA r
  .exact N0
 .exact N0):=h
def ef(h:p:=by
 have AC:=O hb;clear hb;go_in;go_wp2;go_ret;exact⟨_,rfl,By.o,AC.o⟩):=h
def ee(h:p:=by
 rintro en w1 ⟨rfl,hb1⟩;go_wp2_with fail;go_ret;exact⟨rfl,hb1⟩):=h
def sR(h:p:=by
 go_wp2_with fail;go_roundw
 case rel=>exact⟨2,x,y,rfl,.inr (.inr ⟨rfl,HG2.o,hno.o⟩),F8.o,CT.o⟩
 case measure=>simp[intOf]):=h
def sQ(h:p:=by
 simp only[Aj,A',A_] at hm;have h1:=BA.o.blk;rw[hm] at h1;exact absurd (h1.same BA.o.rs.blk) AD):=h
def sP(h:p:=by
 go_wp2_with fail;go_roundw
 case rel=>exact⟨_,_,_,AC.o,gi.o⟩
 case measure=>rw[AC.o.rg.left_eq,AMz.o.left_eq];exact ZK.o):=h
def r0(h:p:=by
 have e1:(IU x==0)=false:=Aw.2 hl;have A2:=O hl;clear hl;go_wp2_with fail;go_ret2;exact⟨AMv,AC.o.AJ⟩):=h
def PZ(h:p:=by
 refine ALv ?_;simp[Bq]):=h
def rz(h:p:=by
 go_wp2_with fail;go_roundw
 case rel=>exact⟨1,x,y,rfl,.inr (.inl ⟨rfl,hno.o⟩),F8.o,CT.o⟩
 case measure=>simp[intOf]):=h
def ry(h:p:=by
 go_wp2_with fail;go_ret;exact⟨AMt,AC.o.AJ⟩):=h
def rx(h:p:=by
 obtain⟨vs,rfl,ht⟩:=h;intro c hc;rcases Aj.1 hc with rfl|hc
 .simp[Value.oneCell']
 .exact bf ht c hc):=h
def rv(h:p:=by
 refine⟨λh=>?_,λh=>?_⟩
 .exact Mc.2.2 _ h _ (D0 ..) rfl
 .exact(List.nodup_cons.1 Mc.2.1).1 h):=h
def ru(h:p:=by
 iterate 5 refine Fk ?_
 refine MU ?_;go_wp2_with fail;go_ret2;rw[<-BA.o];exact Wm rfl (by rw[BA.o];decide) Eb.o):=h
def rt(h:p:=by
 obtain rfl:i=x.A0.length:=U;have dl:decide ((x.A0.length:Int)<(x.A0.length:Int))=false:=AH;clear hlt hi;exact Pg):=h
def rq(h:p:=by
 obtain rfl:i=x.A0.length:=U;have dl:decide ((x.A0.length:Int)<(x.A0.length:Int))=false:=AH;clear hlt hi;exact UW):=h
def rp(h:p:=by
 go_wp2_with fail;go_roundw
 case rel=>exact⟨D++[x.b],EX x.b,iC,rfl,P_,⟨s0,s1⟩,AC.o,ANC⟩
 case measure=>exact A5):=h
def rn(h:p:=by
 rw[DM] at hx;simp only[Aj,A',A_] at hx;rcases hx with rfl|rfl
 .exact hif
 .exact PJ):=h
def rm(h:p:=by
 rw[hrun];cases hf:F key with
 | none=>rfl
 | some v=>
  rw[hf] at h3;have h4:=(h3 .nil).symm.trans (hat .nil);cases h4):=h
def rk(h:p:=by
 cases hd:decide (15<=l.length) with
 | true=>simpa using hd
 | false=>rw[dY (by simpa using hd)] at h;cases h):=h
def rj(h:p:=by
 intro b hb;obtain⟨⟨y,o⟩,hy,ho⟩:=PB.1 hb;simp only at ho;subst ho;exact(h.blk y b Ip).2.1):=h
def eQ(h:p:=by
 refine AL1 ?_;go_big_quiet_step (fail)
 refine AL2 ?_;exact YX):=h
def rh(h:p:=by
 have h9:s.data.toList.length=s.size:=AH;have:=heq.o;rw[<-h9,F6,U5.o,Fp.o] at this;exact D2):=h
def eP(h:p:=by
 obtain⟨_,cs',h3⟩:=hS g hm;exact absurd (hb.same h3) AD):=h
def rf(h:p:=by
 obtain⟨u2,hu2⟩:=h.acc q hq;exact⟨u2,hu2.kept hk (hT _ _ _ hu2.blk AD) (λg cs hg=>hT _ _ _ hg AD)⟩):=h
def re(h:p:=by
 go_ret;rw[BI.o];exact⟨_,rfl,⟨rfl,.inl ⟨rfl,rfl⟩⟩,Below.boxed hb1,DK.of_below (Below.boxed hb1)⟩):=h
def Xx(h:p:=by
 rw[Nn true hjk] at hun;exact hun):=h
def rb(h:p:=by
 have h':(if a≠1 then a else 0)=x:=h;clear h;split at h'
 .rename_i hh;have h1:=hh;exact ed
 .exact Lq):=h
def ra(h:p:=by
 have h':(if a≠1 then a else 0)=x:=h;clear h;split at h'
 .rename_i hh;have h1:=hh;exact eZ
 .exact Lq):=h
def UM(h:p:=by
 exact(AN _ _).alloc AK _):=h
def eO(h:p:=by
 go_in;go_wp2_with fail;refine AL0 ?_;exact AIK FB.o C8):=h
def rZ(h:p:=by
 refine⟨?_,hb⟩;simp[h,S7,kS,kR,kQ,kP,kO]):=h
def rY(h:p:=by
 obtain⟨h1,h2,h3,h4,h5,h6,h7⟩:=AIf 20 n U U;exact⟨⟨h1,h3,AIe 20 n 8 U,h5⟩,h2⟩):=h
def rW(h:p:=by
 go_wp2_with fail;go_roundw
 case rel=>exact⟨i+1,A7,by rw[An.o],U,trivial⟩
 case measure=>exact A5):=h
def rV(h:p:=by
 unfold H2 at h1;simp only[Mh,Km,Jx] at h1;exact h1.2.2.2.2.2.2.1):=h
def eN(h:p:=by
 go_wp2_with fail;go_meet;exact⟨by rw[Tw.o],AC.o⟩):=h
def rU(h:p:=by
 have:=hsl.sub (n:=11) (k:=l.length-15) U;rw[show l.length-4-11=l.length-15 by omega];exact D2):=h
def eM(h:p:=by
 obtain⟨rfl,h⟩:=h;rw[DP];exact hE a w h):=h
def rT(h:p:=by
 conv=>lhs;arg 2;rw[<-cM (p:=B4) (l:=l)]
 rw[List.drop_left'];simp):=h
def eL(h:p:=by
 go_in;go_wp2;go_ret;exact⟨GZ Aq.o.symm,rfl⟩):=h
def rS(h:p:=by
 simp only[Aj,A',A_] at hm;subst hm;exact absurd (hg.same hblk) AD):=h
def rR(h:p:=by
 have AHL:j=0\/j=1\/j=2\/j=3\/j=4\/j=5:=U;rcases AHL with rfl|rfl|rfl|rfl|rfl|rfl<;>decide):=h
def rQ(h:p:=by
 exact .inr ⟨g,cap,cur,hv,hg,(hb.block g (E7.1 hh).1).trans hh,rest⟩):=h
def rP(h:p:=by
 go_wp2_with fail;go_roundw
 case rel=>exact⟨i+1,A7,U,FB.o,AC.o,An.o⟩
 case measure=>exact A5):=h
def rO(h:p:=by
 have h1:=RA n (show m≠0 by omega);have h2:=Q' n h;split<;>omega):=h
def rN(h:p:=by
 go_roundw
 case rel=>exact⟨_,_,wW.o,Fp.o,gd.o⟩
 case measure=>
  refine AL_ ?_;exact wd.o):=h
def rM(h:p:=by
 induction al with
 | nil=>rfl
 | cons x al ih=>simp only[HA,List.filterMap_cons,ih]):=h
def rL(h:p:=by
 exact yr hok FB.o (Nx Aa AK g0 g1 g2 g3 g4 g5 g6 g7 g8 g9 g10 g11 g12 g13)):=h
def rK(h:p:=by
 exact⟨(execOp_put (ops:=ops) o hs _ _ _ vd).trans e1,(wanted_put o _ _ _ vd).trans e2⟩):=h
def rJ(h:p:=by
 conv=>lhs;rw[<-cM (p:=B4) (l:=l)]
 rw[List.take_left'];simp):=h
def rI(h:p:=by
 go_in;go_wp2;all_goals
  go_ret;refine⟨GZ ?_,rfl⟩;try simp only[VX]
  omega):=h
def rH(h:p:=by
 show _=_;rw[HC.o,show 1000-D.length=1000-(D.length+1)+1 by omega,XX gm.o PG];simp):=h
def rG(h:p:=by
 simp only[Aj,A',A_] at hm;subst hm;exact ht (hq.same h.blk)):=h
def rF(h:p:=by
 have h1:s[pos]∈s.data.toList:=Gq (l:=s.data.toList) (n:=pos) JP;exact sH):=h
def UL(h:p:=by
 obtain rfl:j=i:=OT;exact hif):=h
def rE(h:p:=by
 obtain⟨y,hy,AHD⟩:=Nl.1 h5;exact absurd (by simpa using AHD) (hne y hy)):=h
def rD(h:p:=by
 go_wp2_with fail;go_roundw
 case rel=>exact⟨i+1,ANA,A7,U,AC.o⟩
 case measure=>exact A5):=h
def rC(h:p:=by
 go_wp2_with fail;go_roundw
 case rel=>exact⟨i+1,AM',A7,U,AC.o⟩
 case measure=>exact A5):=h
def rB(h:p:=by
 go_wp2_with fail;go_roundw
 case rel=>exact⟨i+1,A7,U,U,An.o⟩
 case measure=>exact A5):=h
def rA(h:p:=by
 simp only[Aj,A',A_] at hm;subst hm;exact ht (hg.same RM)):=h
def q_(h:p:=by
 go_wp2_with fail;refine(AAJ B y env _ _ _ _ _ _ A2.o AMw.o AMx.o).mono ?_;exact sw):=h
def q9(h:p:=by
 clear ce hcc;refine uo ?_;replace AC:=O Di;clear q0 q1 q2 q3 hg;clear p0 p1;exact Rq):=h
def q8(h:p:=by
 simp only[Aj,A',A_] at hm;exact h.blk.IR hb hm.symm):=h
def q7(h:p:=by
 have d1:=A4 i L.length;have d3:decide (i<L.length)=false:=DI hlt;exact eX):=h
def qz(h:p:=by
 clear ce hcc;go_region
 replace AC:=O Di;clear b0 b1 b2 b3 hbl I0 p0 p1 hg;exact Rq):=h
def qy(h:p:=by
 rw[Kk hlt];rw[BL hlt] at hc;cases hc;rfl):=h
def qx(h:p:=by
 refine⟨hg'.os,hg'.tape,hg'.output,hg'.size,λk hk=>hg'.block k U ?_⟩;exact YO):=h
def qw(h:p:=by
 have h1:s[j]∈s.data.toList:=Gq (l:=s.data.toList) (n:=j) JP;exact sH):=h
def qv(h:p:=by
 rcases Mf i with hz|hz
 .subst hz;rw[FB.o] at hl;cases hl
 .exact hz):=h
def qu(h:p:=by
 rintro e w' ⟨rfl,rfl⟩;rw[OL.o];go_wp2;go_ret;exact⟨D8 AC.o.symm,Aa⟩):=h
def Xu(h:p:=by
 exact congrArg Ending.returned ANL):=h
def qt(h:p:=by
 refine ALu ?_;exact V6 Gu.o (Nx Aa AK 0 0 0 false 0 0 0 0 0 0 0 0 0 0)):=h
def qs(h:p:=by
 obtain⟨a,c,l,he,hz,hs,hw⟩:=oy h;exact⟨(a,c,l),by rw[he],hz,hs,hw⟩):=h
def qr(h:p:=by
 have:=DS.1 h1 x hx;simp only[At] at this;exact this.2):=h
def qq(h:p:=by
 rintro e w1 ⟨rfl,hb1⟩;replace AC:=O Bg;clear b0 b1 b2 hbl;clear hb1;exact ry):=h
def qp(h:p:=by
 rintro e w1 ⟨rfl,hb1⟩;rw[<-AC.o];go_wp2;go_ret;exact⟨rfl,AW Aa hb1⟩):=h
def Xt(h:p:=by
 rw[e0,e1,e2,e3,e4,e5,HLEN.o];rfl):=h
def Xs(h:p:=by
 simp[be,AQ,RZ];omega):=h
def qo(h:p:=by
 have hmm:=@run_makeMap prog;go_in;go_wp2_with fail;go_ret;exact⟨AH,rfl⟩):=h
def qn(h:p:=by
 rcases hk with rfl|rfl|rfl|rfl|rfl|rfl|rfl|rfl|rfl|rfl|rfl|rfl|rfl|rfl<;>decide):=h
def qm(h:p:=by
 refine⟨hg.os,hg.tape,hg.output,hg.size,λk hk=>hg.block k U ?_⟩;exact YO):=h
def ql(h:p:=by
 obtain⟨vs,h1,h2⟩:=h;exact⟨vs,h1,h2.kept hk (λg cs _ hg=>hS g cs hg)⟩):=h
def qk(h:p:=by
 intro w' hw';simp only[hw,CI];exact h w' hw' _ λ_ _ h1 h2=>⟨h1,h2⟩):=h
def N1(h:p:=by
 exact⟨rfl,rfl⟩):=h
def eK(h:p:=by
 go_wp2_with fail;go_ret;exact Xl An.o OB):=h
def Xq(h:p:=by
 go_wp2;go_ret;exact⟨wu,rfl⟩):=h
def qf(h:p:=by
 rw[Ab ht0];have Aq:=O (show IU x=1 from Ab ht0);clear ht0;exact ry):=h
def qe(h:p:=by
 go_wp2_with fail;all_goals
  go_meet;exact⟨_,rfl,λh=>by simp at h,rfl⟩):=h
def qd(h:p:=by
 simp[Lit.wf,IntKind.min,IntKind.max,IntKind.signed,IntKind.bits] at h;omega):=h
def qc(h:p:=by
 have Ty:=TG hown hgr AMf;rw[OH.o] at Ty ⊢;exact Gc Ty U):=h
def qb(h:p:=by
 go_in;go_wp2_with fail;go_ret;exact Tt An.o (by decide) (Wr.of_below DL)):=h
def qa(h:p:=by
 rw[hp] at H hm;rcases fuel with _|fuel
 .simp at hm
 .exact⟨H.1,H.2.1⟩):=h
def Xp(h:p:=by
 go_ret;exact⟨rfl,AC.o.AJ⟩):=h
def qZ(h:p:=by
 rcases h with rfl|rfl;all_goals
  go_in;go_wp2;go_ret;exact⟨rfl,rfl⟩):=h
def qY(h:p:=by
 refine⟨?_,hb⟩;simp[h,UE,ot,oq,oo,om,oh]):=h
def Rf(h:p:=by
 have:=Jn.size;omega):=h
def qX(h:p:=by
 rw[hblk.cell i];simp only[CH,JA,ht];rfl):=h
def qW(h:p:=by
 go_roundw
 case rel=>exact⟨i+1,A7,U,hblk,Aa⟩
 case measure=>exact A5):=h
def qV(h:p:=by
 induction al with
 | nil=>rfl
 | cons x al ih=>simp only[HA,ih]):=h
def qU(h:p:=by
 unfold Rd.whole;refine Ui ?_;rw[Ab ⟨trivial,trivial,hk.2.2⟩];rfl):=h
def eJ(h:p:=by
 exact Ap (ih _ _) (GA r)):=h
def qT(h:p:=by
 rw[Mk,List.any_append,h,BL hi];simp):=h
def qS(h:p:=by
 subst Dy;exact hy.wpOp hi (C_.self _ _) ⟨AP.refl _ _,H.1,H.2⟩):=h
def qR(h:p:=by
 rw[Nn true (λh=>Wv y (hsa _ hy) h.symm)];exact PM y b hy):=h
def eI(h:p:=by
 go_wp2;go_ret;exact⟨GZ AM_,rfl⟩):=h
def qQ(h:p:=by
 rcases Fg i j with h|h
 .exact h
 .exact absurd (Bj.o U) hx):=h
def qP(h:p:=by
 go_roundw
 case rel=>exact⟨k+1+1,A7,U,AC.o⟩
 case measure=>exact A5):=h
def qO(h:p:=by
 clear h;go_in;go_wp2;go_ret;exact⟨vm,(AN _ _).alloc AK _⟩):=h
def qN(h:p:=by
 unfold DO;rw[mV s h,e];simp only[List.dropLast_eq_take];simp):=h
def eH(h:p:=by
 go_light;simp_all [BY,Dc,Ds]):=h
def qM(h:p:=by
 rw[Nn true (λh=>PI (by rw[h];exact hi))];exact hun i hi):=h
def PY(h:p:=by
 refine ALy ?_;omega):=h
def eG(h:p:=by
 simp[Bq,e1,e2,e3,I5]):=h
def qL(h:p:=by
 go_wp2_with fail;all_goals
  go_meet;exact⟨_,rfl,λ_=>cm,rfl⟩):=h
def qK(h:p:=by
 go_roundw
 case rel=>exact⟨1,rfl,U,AC.o⟩
 case measure=>exact A5):=h
def qJ(h:p:=by
 rename_i hw;rw[AU hw] at h;exact⟨AP.refl _ _,ih _ w h⟩):=h
def D2(h:p:=by
 exact this):=h
def qI(h:p:=by
 rw[BI.o,<-e];exact⟨_,rfl,hst.own,hst.AJ,DK.of_below hst.AJ⟩):=h
def Xo(h:p:=by
 rw[E.o];show _=_;kernel_rfl):=h
def qH(h:p:=by
 rintro e w1 ⟨rfl,hb1⟩;replace AC:=O Bg;clear hb1 CT;exact Lu):=h
def qG(h:p:=by
 cases hh:Ha x s with
 | false=>rfl
 | true=>exact absurd AM6 Aq.o):=h
def qF(h:p:=by
 rcases hty with hty|hty<;>rw[hty] at this<;>exact absurd this AD):=h
def eF(h:p:=by
 go_ret;exact⟨rfl,AN _ _⟩):=h
def qE(h:p:=by
 rename_i hw;rw[Ab hw] at h1;exact .inl (PC vg h1)):=h
def qD(h:p:=by
 obtain⟨h1,h2,h3⟩:=h.blk y b Ip;exact⟨h1,AM,h3.alloc _⟩):=h
def qC(h:p:=by
 exact⟨Nat.mod_eq_zero_of_dvd AMU,Nat.mod_eq_zero_of_dvd AMb⟩):=h
def qB(h:p:=by
 go_round
 case rel=>exact⟨i+1,U,A7⟩
 case measure=>exact A5):=h
def qA(h:p:=by
 refine⟨?_,hb⟩;simp[h,lx,lw,lv,lu]):=h
def p_(h:p:=by
 unfold Hid;rw[Mj hjl,AI0]):=h
def p9(h:p:=by
 simp only[Gy,I4,Ve,E9]):=h
def p8(h:p:=by
 rename_i hw;rw[Ab hw] at h;exact .inl (PC AMc h)):=h
def UK(h:p:=by
 exact AG.new w _ _):=h
def p7(h:p:=by
 simp only[I'];repeat rw[AU U]):=h
def p6(h:p:=by
 obtain⟨rfl,h⟩:=h;rw[DP];exact hE a w (h w DL)):=h
def Xn(h:p:=by
 refine ALz ?_;exact h3.2.2):=h
def Xr(h:p:=by
 go_wp2_with fail;exact tq):=h
def qj(h:p:=by
 have BI:=O (AKN k s l h1 h2 h3 h4 h5);go_in;exact UR):=h
def qi(h:p:=by
 have h5:=BI.o;rw[h3',h4] at h5;rw[Hid,h4];exact h5.trans AH):=h
def qh(h:p:=by
 exact(Vy (λL' p e=>by rw[e] at h0;simp at h0)).symm):=h
def qg(h:p:=by
 clear hq;go_wp2_with fail;go_ret2;exact ar An.o Eb.o):=h
def N0(h:p:=by
 exact Vj r):=h
def p5(h:p:=by
 obtain⟨v,rfl,h⟩:=h;exact⟨v,rfl,Bl h hk hS⟩):=h
def p4(h:p:=by
 exact(((AG.newAt _ _ _ _ AH).alloc _).alloc _).alloc _):=h
def UJ(h:p:=by
 simp[Value.ownBlock]):=h
def pz(h:p:=by
 refine⟨?_,hb⟩;simp[h,kM,kL,kK]):=h
def py(h:p:=by
 obtain⟨b0,b1,b2,b3,b4,b5,hbl⟩:=AC.o.blk.y6;exact Pg):=h
def eE(h:p:=by
 simp at h;exact⟨_,h.1.symm⟩):=h
def px(h:p:=by
 exact⟨_,rfl,Gc hown Aa.size,AW Aa hb⟩):=h
def pw(h:p:=by
 show _=_;rw[HC.o,dg gm.o PG,El]):=h
def pu(h:p:=by
 rw[Nk U];exact h.ca p hp):=h
def pr(h:p:=by
 induction al with
 | nil=>rfl
 | cons x al ih=>exact ih):=h
def pq(h:p:=by
 go_wp2_with fail;go_ret;exact V0 hN AD AC.o.AJ):=h
def po(h:p:=by
 unfold Dw at he;split at he
 .assumption
 .exact he):=h
def pn(h:p:=by
 simp only[Tn,Wl]):=h
def pm(h:p:=by
 go_wp2_with fail;go_ret;exact WA hN AD AC.o.AJ):=h
def pl(h:p:=by
 iterate 8 refine mc ?_ _ _
 exact AP.refl _ _):=h
def pk(h:p:=by
 obtain⟨vs,h1,h2⟩:=q;exact⟨vs,h1,h2.mono ck⟩):=h
def pj(h:p:=by
 have h1:=Ge Ww;rw[H.1,PJ] at h1;cases h1):=h
def pi(h:p:=by
 generalize (IS.lookup t).getD 0=z at *;exact uZ):=h
def ph(h:p:=by
 have h':(if a=1/\b=1 then 1 else 0)=x:=h;exact sG):=h
def pg(h:p:=by
 have h':(if a=1/\b=1 then 1 else 0)=x:=h;exact sF):=h
def pf(h:p:=by
 rintro e w' ⟨rfl,hb⟩;exact⟨⟨_,rfl⟩,hb⟩):=h
def pe(h:p:=by
 rw[Nk AD];exact h.c4):=h
end
