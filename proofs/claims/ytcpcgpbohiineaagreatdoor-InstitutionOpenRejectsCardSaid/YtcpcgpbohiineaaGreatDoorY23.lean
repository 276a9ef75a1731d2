import Derived.Test.YtcpcgpbohiineaaGreatDoorY19
import Derived.Test.YtcpcgpbohiineaaGreatDoorY20
import Derived.Test.YtcpcgpbohiineaaGreatDoorY21
namespace Go.Proofs.YtcpcgpbohiineaaGreatDoor
open Go.RowKit Go.Proofs.Tryz
set_option linter.all false
set_option maxRecDepth 100000
set_option maxHeartbeats 4000000
def zw:(prog.info? 33).map (·.size)=some 3:=AF
def lC(B:Nat)(x:B6)(w:AA)(BA BB BC:AB)(hB:B<=w.heap.size)(h:CP B w x BA BB BC)(AX:Ho x):
 AI 19 #[.agg #[BA,BB,BC]] w λe BD=>∃Ao Aq As,e=.returned (.agg #[Ao,Aq,As])/\CP B BD x Ao Aq As/\Below w w BD:=by
 have CZ:=AX.Ao.le;have Ca:x.Bc.length<=8:=by
  rcases AX.Bc with h|h
  .exact h.le
  .rw[h];simp
 have Cb:=AX.rat.le;have Ax:=O AX;obtain⟨t,y,rfl,_⟩:=h.c1.slice;obtain⟨u,AE,rfl,_⟩:=h.c2.slice;obtain⟨v,AJ,rfl,_⟩:=h.c3.slice;have Be:=FZ.new h;have Bq:(w.alloc (.cells #[.slice t x.Ao.length y,.slice u x.Bc.length AE,.slice v x.rat.length AJ] 33)).heap.size=w.heap.size+1:=AH;have AC:Hid (EQ B w ((w.alloc (.cells #[.slice t x.Ao.length y,.slice u x.Bc.length AE,.slice v x.rat.length AJ] 33)).alloc (.cells #[AL,AL,AL] 33)) x (.slice t x.Ao.length y) (.slice u x.Bc.length AE) (.slice v x.rat.length AJ)):=
  ⟨Be.below C8,AG.newAt _ _ _ _ Bq.symm⟩
 go_in;go_wp2_with fail;refine Bn (λH=>EQ B w H x (.slice t x.Ao.length y) (.slice u x.Bc.length AE) (.slice v x.rat.length AJ)) AC.o ?_;intro BT Bd;have AC:=O Bd;refine uc ?_;refine Bn (λH=>EQ B w H x (.slice t x.Ao.length y) (.slice u x.Bc.length AE) (.slice v x.rat.length AJ)) (w0:=BT.drew) Di ?_;intro B8 hb;have AC:=O hb;obtain⟨J,L,M,N⟩:=AC.o.box.blk.y3;obtain⟨P,Q,R,-⟩:=AC.o.box.blk.fz;iterate 6 refine GM ?_
 refine Ig ?_;intro K hK;go_at_call 50;go_call AI9 B x.Ao _ _ U AC.o.box.law.c1 as e W1 ⟨Ao,rfl,C,hb⟩;obtain⟨Y,d,rfl,_⟩:=AS.slice C;have BR:Hid (∀g,Y=some ⟨g,0,none⟩->w.heap.size<=g):=O (λg T=>by
  subst T;obtain⟨_,_,_,_,h⟩:=AS.blk C;exact Ap AC.o.box.AJ.size h)
 replace C:=AS.lower C JH BW;refine FT ?_;replace AC:=O Ij;obtain⟨J,L,M,N⟩:=AC.o.box.blk.y3;obtain⟨P,Q,R,-⟩:=AC.o.box.blk.fz;have JN:=O C;iterate 1 refine GM ?_
 refine Ig ?_;intro K hK;go_at_call 51;go_call AI' B x.Bc _ _ U AC.o.box.law.c2 as e W1 ⟨Aq,rfl,C,hb⟩;obtain⟨AM,AO,rfl,_⟩:=AS.slice C;have BS:Hid (∀g,AM=some ⟨g,0,none⟩->w.heap.size<=g):=O (λg T=>by
  subst T;obtain⟨_,_,_,_,h⟩:=AS.blk C;exact Ap AC.o.box.AJ.size h)
 replace C:=AS.lower C JH BW;refine FT ?_;replace AC:=O Ij;obtain⟨J,L,M,N⟩:=AC.o.box.blk.y3;obtain⟨P,Q,R,-⟩:=AC.o.box.blk.fz;replace JN:=O up;have At:=O C;refine Ig ?_;intro K hK;go_at_call 52;go_call AJB B x.rat _ _ U AC.o.box.law.c3 as e W1 ⟨As,rfl,C,hb⟩;obtain⟨Z,AQ,rfl,_⟩:=AS.slice C;have B4:Hid (∀g,Z=some ⟨g,0,none⟩->w.heap.size<=g):=O (λg T=>by
  subst T;obtain⟨_,_,_,_,h⟩:=AS.blk C;exact Ap AC.o.box.AJ.size h)
 replace C:=AS.lower C JH BW;refine FT ?_;replace AC:=O Ij;obtain⟨J,L,M,N⟩:=AC.o.box.blk.y3;obtain⟨P,Q,R,-⟩:=AC.o.box.blk.fz;replace JN:=O up;replace At:=O (AS.below At.o hb (λ_ _ q=>D3.kept (S:=[]) q CX CE));have BG:=O C;have An:=O (AC.o.three JN.o At.o BG.o);refine Um ?_;intro K hK;refine Ue ?_;intro K hK;refine Ue ?_;intro K hK;refine LU ?_;refine Bn (λH=>EQ B w H x (.slice Y x.Ao.length d) (.slice AM x.Bc.length AO) (.slice Z x.rat.length AQ)) An.o ?_;intro B9 hb;have AC:=O hb;obtain⟨J,L,M,N⟩:=AC.o.box.blk.y3;obtain⟨P,Q,R,-⟩:=AC.o.box.blk.fz;go_wp2_with fail;go_loopw [23] (λA wr=>∃i:Nat,A=.int .i64 (i:Int)/\i<=x.Ao.length/\EQ B w wr x (.slice Y x.Ao.length d) (.slice AM x.Bc.length AO) (.slice Z x.rat.length AQ)) (λA _=>x.Ao.length-(intOf A).toNat)
 case atStart=>exact⟨0,rfl,Az _,AC.o⟩
 case round=>
  obtain⟨i,rfl,Bi,hb⟩:=hrel;have AC:=O hb;by_cases AY:i<x.Ao.length
  .have dl:=Ar i x.Ao.length;obtain⟨c,W⟩:=BQ x.Ao i AY;have r:=O W;obtain⟨g,V,Bl⟩:=AC.o.box.law.c1.Ch (λ_ _ q=>Cz.len q) i c W;have Av:=BR.o g V;obtain⟨_,_,Bp⟩:=Ax.o.Ao.all i c W;subst V;have Bs:=aT Bp;have A4:=Sj Bs.ok;have Cd:=A4.l2;have BI:=O A4.A0;obtain⟨A',T,AZ,AT⟩:=AC.o.box.law.c1.BT (λ_ _ q=>Cz.len q) i c r.o;obtain⟨DA,rfl,C',rfl,A2⟩:=AZ;obtain⟨C9,C_,rfl,_⟩:=AS.slice A2;have A6:=AT 3 AD;simp only[A8,Bt] at A6;have BJ:=O A2;obtain⟨J,L,M,N⟩:=AC.o.box.blk.y3;obtain⟨P,Q,R,-⟩:=AC.o.box.blk.fz;go_wp2_with fail;go_call AI8 B c.2.A0 _ _ U BJ.o as e W1 ⟨A_,rfl,C,hb⟩;obtain⟨Ak,AR,rfl,_⟩:=AS.slice C;have BN:=O AC.o;obtain⟨X,Au,Bg,CV,_⟩:=AS.blk AC.o.box.law.c1;have AU:=Au.below hb Au.lt;have Bf:=AU.lt;obtain⟨B2,E⟩:∃z,X[i*4+3]? = some z:=⟨_,Cn U⟩;have Aa:=AU.cell (i*4+3);rw[E] at Aa;have BY:=AU.frozen (i*4+3);have A0:=AC.o.box.AJ.size;have F:Hid (KE B w wr (W1.setCell ⟨g,i*4+3,none⟩ (.slice Ak c.2.A0.length AR)) g i X c.2.A0 (.slice Ak c.2.A0.length AR)):=by
    refine⟨(AW AC.o.box.AJ hb).setCell Av _,(AP.of_below hb).setCell AH _,AU.put _ _,?_,λCU Cm CJ Bo=>?_⟩
    .refine Dh.kept (S:=[g]) (AS.lower C (Ap hB A0) BW) Us (λq A_ BV Bm Br=>Dv AU q BV Bm (by
      rcases Br with h|h|h|h|h|h|h<;>rw[h]<;>decide))
    .cases Bo;obtain⟨_,_,_,_,h⟩:=AS.blk C;exact h
   have BF:=O Au;have BH:Hid (X.size=d*4):=O Bg;go_wp2_with fail;refine Bn (λH=>KE B w wr H g i X c.2.A0 (.slice Ak c.2.A0.length AR)) F.o ?_;intro B' AV;have F:=O AV;go_loopw [44] (λA B1=>∃k:Nat,A=.int .i64 (k:Int)/\k<=c.2.A0.length/\KE B w wr B1 g i X c.2.A0 (.slice Ak c.2.A0.length AR)) (λA _=>c.2.A0.length-(intOf A).toNat)
   case atStart=>exact⟨0,rfl,Az _,F.o⟩
   case round=>
    obtain⟨k,rfl,AX,AV⟩:=hrel;have F:=O AV;by_cases Bj:k<c.2.A0.length
    .have BX:=Ar k c.2.A0.length;obtain⟨A,Am⟩:=BQ c.2.A0 k Bj;have BO:=O Am;have BP:=O (BI.o A (Bu Am));obtain⟨Ay,V,CW⟩:=AS.Ch F.o.own (λ_ _ q=>q.len) k A Am;subst V;obtain⟨A',T,AZ,AT⟩:=AS.BT F.o.own (λ_ _ q=>q.len) k A Am;obtain⟨C3,C4,C5,C6,C7,rfl,G⟩:=AZ;obtain⟨Ac,f,rfl,_⟩:=G.c1.slice;obtain⟨Ad,n,rfl,_⟩:=G.c2.slice;obtain⟨Ae,Ah,rfl,_⟩:=G.c3.slice;obtain⟨Af,Ai,rfl,_⟩:=G.c4.slice;obtain⟨Ag,Aj,rfl,_⟩:=G.c5.slice;obtain⟨Cv,Cw,Cx,A6,A9,Cy,C0,C1⟩:=VN AT;have s:=O G;go_wp2_with fail;have A1:Below wr wr (wr.alloc (.cells #[A.fr,A.mode,A.unit,.slice Ac A.Ae.length f,.slice Ad A.Ad.length n,.slice Ae A.lets.length Ah,.slice Af A.Ac.length Ai,.slice Ag A.red.length Aj] 151)):=(AN _ _).alloc AK _;have Al:=AG.new wr 151 #[A.fr,A.mode,A.unit,.slice Ac A.Ae.length f,.slice Ad A.Ad.length n,.slice Ae A.lets.length Ah,.slice Af A.Ac.length Ai,.slice Ag A.red.length Aj];replace F:=O (F.o.below A1);replace s:=O (s.o.below A1);generalize wr.alloc (.cells #[A.fr,A.mode,A.unit,.slice Ac A.Ae.length f,.slice Ad A.Ad.length n,.slice Ae A.lets.length Ah,.slice Af A.Ac.length Ai,.slice Ag A.red.length Aj] 151)=BU at *;generalize wr.heap.size=b at *;refine OX [Ay] [8] [6] [(0,0),(0,1),(0,2),(0,3),(0,4),(0,5),(2,6),(0,7),(3,8)] AF AF rfl AD AF AF BK ?_;refine Po ?_;refine Bn (λH=>KE B w _ H g i X c.2.A0 (.slice Ay c.2.A0.length AR)/\B5 B H A (.slice Ac A.Ae.length f) (.slice Ad A.Ad.length n) (.slice Ae A.lets.length Ah) (.slice Af A.Ac.length Ai) (.slice Ag A.red.length Aj)/\AG H b 151 #[A.fr,A.mode,A.unit,.slice Ac A.Ae.length f,.slice Ad A.Ad.length n,.slice Ae A.lets.length Ah,.slice Af A.Ac.length Ai,.slice Ag A.red.length Aj]) (w0:=BU.drew) ⟨F.o.below (AN _ _).drew,s.o.below (AN _ _).drew,Al⟩ ?_;rintro CB ⟨AV,G,Al⟩;have F:=O AV;have s:=O G;have N:=Al.lt;obtain⟨J,L,M,CC,CD,CF,CH,CI,_⟩:=Al.BF;have Aa:=F.o.Ao.cell (i*4+3);rw[I',Ab rfl,Ab (by rw[BH.o];omega)] at Aa;have Bf:=F.o.Ao.lt;iterate 6 refine GM ?_
     refine Ig ?_;intro K hK;go_at_call 54;go_call ACf B A _ _ _ _ _ _ (Ap hB F.o.AJ.size) s.o BP.o as e B7 ⟨Ao,Aq,As,t4,t5,rfl,G,hb⟩;obtain⟨Ce,Cq,rfl,_⟩:=G.c1.slice;obtain⟨Cf,Cr,rfl,_⟩:=G.c2.slice;obtain⟨Cg,Cs,rfl,_⟩:=G.c3.slice;obtain⟨Ch,Ct,rfl,_⟩:=G.c4.slice;obtain⟨Ci,Cu,rfl,_⟩:=G.c5.slice;refine FT ?_;replace F:=O (F.o.below hb);have An:=O (F.o.bE A0 BO.o G);iterate 1 refine GM ?_
     obtain⟨I,D,Bc,Ba,_⟩:=AS.blk F.o.own;have Bb:=D.lt;obtain⟨DC,E⟩:∃z,I[k*8]? = some z:=⟨_,Cn U⟩;have Bv:=D.cell (k*8);rw[E] at Bv;have CN:=D.frozen (k*8);obtain⟨DD,E⟩:∃z,I[k*8+1]? = some z:=⟨_,Cn U⟩;have Bw:=D.cell (k*8+1);rw[E] at Bw;have CO:=D.frozen (k*8+1);obtain⟨DE,E⟩:∃z,I[k*8+2]? = some z:=⟨_,Cn U⟩;have Bx:=D.cell (k*8+2);rw[E] at Bx;have CQ:=D.frozen (k*8+2);obtain⟨B2,E⟩:∃z,I[k*8+3]? = some z:=⟨_,Cn U⟩;have Aa:=D.cell (k*8+3);rw[E] at Aa;have BY:=D.frozen (k*8+3);obtain⟨B3,E⟩:∃z,I[k*8+4]? = some z:=⟨_,Cn U⟩;have Aw:=D.cell (k*8+4);rw[E] at Aw;have BZ:=D.frozen (k*8+4);obtain⟨DF,E⟩:∃z,I[k*8+5]? = some z:=⟨_,Cn U⟩;have By:=D.cell (k*8+5);rw[E] at By;have CR:=D.frozen (k*8+5);obtain⟨DG,E⟩:∃z,I[k*8+6]? = some z:=⟨_,Cn U⟩;have Bz:=D.cell (k*8+6);rw[E] at Bz;have CS:=D.frozen (k*8+6);obtain⟨DH,E⟩:∃z,I[k*8+7]? = some z:=⟨_,Cn U⟩;have B0:=D.cell (k*8+7);rw[E] at B0;have CT:=D.frozen (k*8+7);refine Ow rfl ?_;intro K hK;go_simp;refine hK _ _ (cF _ _ _ _ _ _ _ _ _ _ _) ?_;refine LU ?_;go_wp2_with fail;go_roundw
     case rel=>exact⟨k+1,A7,U,An.o⟩
     case measure=>exact A5
    .obtain rfl:k=c.2.A0.length:=U;have BX:decide ((c.2.A0.length:Int)<(c.2.A0.length:Int))=false:=AH;have An:=O (F.o.done BN.o BF.o r.o);exact YG
  .obtain rfl:i=x.Ao.length:=U;have dl:decide ((x.Ao.length:Int)<(x.Ao.length:Int))=false:=AH;obtain⟨J,L,M,N⟩:=AC.o.box.blk.y3;obtain⟨P,Q,R,-⟩:=AC.o.box.blk.fz;go_wp2_with fail;go_loopw [62] (λA wr=>∃i:Nat,A=.int .i64 (i:Int)/\i<=x.Bc.length/\EQ B w wr x (.slice Y x.Ao.length d) (.slice AM x.Bc.length AO) (.slice Z x.rat.length AQ)) (λA _=>x.Bc.length-(intOf A).toNat)
   case atStart=>exact⟨0,rfl,Az _,AC.o⟩
   case round=>
    obtain⟨i,rfl,Bi,hb⟩:=hrel;have AC:=O hb;by_cases AY:i<x.Bc.length
    .have dl:=Ar i x.Bc.length;obtain⟨c,W⟩:=BQ x.Bc i AY;have r:=O W;obtain⟨g,V,Bl⟩:=AC.o.box.law.c2.Ch (λ_ _ q=>D3.len q) i c W;have Av:=BS.o g V;subst V;have Cc:c.mem.length<=6:=by
      rcases Ax.o.Bc with h|h
      .exact(h.all i c W).le
      .rw[h] at AY;cases AY
     go_wp2_with fail;refine fM ?_;refine Bn (λH=>EQ B w H x (.slice Y x.Ao.length d) (.slice g x.Bc.length AO) (.slice Z x.rat.length AQ)) (w0:=wr.drew) Di ?_;intro B_ hb;have AC:=O hb;obtain⟨J,L,M,N⟩:=AC.o.box.blk.y3;obtain⟨P,Q,R,-⟩:=AC.o.box.blk.fz;obtain⟨A',T,AZ,AT⟩:=AC.o.box.law.c2.BT (λ_ _ q=>D3.len q) i c r.o;obtain⟨DB,rfl,A3⟩:=AZ;obtain⟨Ck,Cl,rfl⟩:=CG A3;have A9:=AT 4 AD;simp only[A8,Bt] at A9;have BM:=O A3;iterate 9 refine GM ?_
     refine Ig ?_;intro K hK;go_at_call 55;go_call AJD B c.mem _ _ U BM.o as e W1 ⟨A_,rfl,C,hb⟩;obtain⟨Co,Cp,rfl⟩:=CG C;replace C:=F_ C JH;refine FT ?_;replace AC:=O Ij;have An:=O (AC.o.mem Av r.o C);iterate 1 refine R0 ?_
     iterate 1 refine GM ?_
     obtain⟨I,D,Bc,Ba,_⟩:=AS.blk AC.o.box.law.c2;have Bb:=D.lt;obtain⟨B3,E⟩:∃z,I[i*5+4]? = some z:=⟨_,Cn U⟩;have Aw:=D.cell (i*5+4);rw[E] at Aw;have BZ:=D.frozen (i*5+4);refine Um ?_;intro K hK;refine LU ?_;exact YG
    .obtain rfl:i=x.Bc.length:=U;have dl:decide ((x.Bc.length:Int)<(x.Bc.length:Int))=false:=AH;obtain⟨J,L,M,N⟩:=AC.o.box.blk.y3;obtain⟨P,Q,R,-⟩:=AC.o.box.blk.fz;obtain⟨C2,f,n,CY⟩:=AC.o.res.y3;obtain⟨CK,CL,CM,-⟩:=AC.o.res.fz;go_wp2_with fail;refine BE (v:=.agg #[.slice Y x.Ao.length d,.slice AM x.Bc.length AO,.slice Z x.rat.length AQ]) (Ja results19 _ _ (w.heap.size+1) 33 _ (0,0) _ rfl (((AC.o.res.put 0 _).put 1 _).put 2 _) underlying33 rfl zw) rfl ⟨_,_,_,rfl,?_,((AC.o.box.AJ.setCell AH _).setCell AH _).setCell AH _⟩;exact CP.set (CP.set (CP.set AC.o.box.law AC.o.res 0 _) (AC.o.res.put 0 _) 1 _) ((AC.o.res.put 0 _).put 1 _) 2 _
def Dw(x:B6)(s:Int):Int:=if IU x=0 then (if Ha x s then 0 else 1) else IU x
def vD(x:B6)(s:Int)(w:AA)(e:Ending)(A:AA):Prop:=e=.returned (.tuple #[.pointer none,.int .i64 (Dw x s)])/\Below w w A
def bL(B:Nat)(x:B6)(s:Int)(w:AA)(C D E:AB)(M:Cl w)(h:CP B w x C D E)(A:Ho x)(L:Dw x s≠0):
 AI 6 #[s,.agg #[C,D,E]] w (vD x s w):=by
 have AC:=O (FZ.new h);have F:=O M;have G:=O A;have Aq:=O L;have R:=A.Ao.le;obtain⟨N,S,rfl,_⟩:=h.c1.slice;obtain⟨P,T,rfl,_⟩:=h.c2.slice;obtain⟨Q,V,rfl,_⟩:=h.c3.slice;obtain⟨H,I,J,K⟩:=AC.o.blk.y3;go_in;go_wp2_with fail;go_call lD B x _ _ _ _ (F.o.after AC.o.AJ) AC.o.law G.o as e w1 ⟨rfl,hb1⟩;replace AC:=O Bg;by_cases hl:IU x=0
 .have A2:=O hl;rw[hl];obtain⟨H,I,J,K⟩:=AC.o.blk.y3;go_wp2_with fail;go_call lL B x s _ _ _ _ AC.o.law U as e w1 ⟨⟨c,rfl⟩,hb1⟩;replace AC:=O Bg;have hh:Ha x s=false:=by
   exact qG
  have KA:=O hh;rw[hh];go_wp2_with fail;go_ret2;exact⟨wq,AC.o.AJ⟩
 .exact r0
structure Uy(B:Nat)(w X:AA)(x:B6)(s:Int)(b Ak BU am A1:Nat)(t1 t2 t3:AB):Prop where
 blk:AG X b 75 #[s,t1,t2,t3,.pointer Ak,.map (some am),.int .i64 (-1),.pointer A1]
 law:CP B X x t1 t2 t3
 fd:AG X Ak 156 #[.map (some BU)]
 Jp:X.heap[BU]? = some (.map #[] 0)
 JD:X.heap[am]? = some (.map #[] 0)
 De:AG X A1 158 #[AL,(),AL]
 AJ:Below w w X
 lo:w.heap.size<=BU/\BU<Ak/\Ak<am/\am<A1/\A1<b
def AMG(B:Nat)(x:B6)(s:Int)(w:AA)(e:Ending)(J:AA):Prop:=∃A D E C F G H I,e=.returned (.tuple #[.pointer (some ⟨A,0,none⟩),()])/\Uy B w J x s A D E C F G H I
def bK(B:Nat)(x:B6)(s:Int)(w:AA)(W X Y:AB)(k:B<=w.heap.size)(m:Cl w)(h:CP B w x W X Y)(J:Ho x)(he:Dw x s=0):
 AI 6 #[s,.agg #[W,X,Y]] w (AMG B x s w):=by
 have K:IU x=0:=by
  exact po
 have n:Ha x s=true:=by
  unfold Dw at he;rw[Ab K] at he;cases l:Ha x s with
  | true=>rfl
  | false=>rw[l] at he;cases he
 have z:=@run_makeMap prog;have AC:=O (FZ.new h);have Z:=O m;have D:=O J;have a:=O n;have b:=O K;have AD:=J.Ao.le;obtain⟨u,P,rfl,_⟩:=h.c1.slice;obtain⟨v,Q,rfl,_⟩:=h.c2.slice;obtain⟨y,R,rfl,_⟩:=h.c3.slice;obtain⟨E,F,G,I⟩:=AC.o.blk.y3;go_in;go_wp2_with fail;go_call lD B x _ _ _ _ (Z.o.after AC.o.AJ) AC.o.law D.o as A w1 ⟨rfl,hb1⟩;replace AC:=O Bg;rw[b.o];obtain⟨E,F,G,I⟩:=AC.o.blk.y3;go_wp2_with fail;go_call lL B x s _ _ _ _ AC.o.law U as A w1 ⟨⟨c,rfl⟩,hb1⟩;replace AC:=O Bg;rw[a.o];obtain⟨E,F,G,I⟩:=AC.o.blk.y3;go_wp2_with fail;go_call lC B x _ _ _ _ (Ap k AC.o.AJ.size) AC.o.law D.o as A w1 ⟨t1,t2,t3,rfl,C,hb1⟩;have H:=AW AC.o.AJ hb1;have o:=H.size;have d:=O C;obtain⟨L,S,rfl,_⟩:=C.c1.slice;obtain⟨M,T,rfl,_⟩:=C.c2.slice;obtain⟨N,V,rfl,_⟩:=C.c3.slice;go_wp2_with (first|(go_at_call 20;refine(AEA _).mono ?_;rintro A t ⟨rfl,rfl⟩)|(go_at_call 21;refine(lF _).mono ?_;rintro A t ⟨rfl,rfl⟩))
 have e:=H.alloc o (.map #[] 0);have f:=e.alloc AM (.cells #[.map (some w1)] 156);have g:=f.alloc AM (.map #[] 0);have i:=g.alloc AM (.cells #[AL,(),AL] 158);have j:=i.alloc AM (.cells #[s,.slice L x.Ao.length S,.slice M x.Bc.length T,.slice N x.rat.length V,.pointer (some ⟨w1.heap.size+1,0,none⟩),.map (some (w1.heap.size+1+1)),.int .i64 (-1),.pointer (some ⟨w1.heap.size+1+1+1,0,none⟩)] 75);have P:=(AN w1 w1).alloc AK (.map #[] 0);have Q:=P.alloc AH (.cells #[.map (some w1)] 156);have R:=Q.alloc AM (.map #[] 0);have q:=R.alloc AM (.cells #[AL,(),AL] 158);have r:=q.alloc AM (.cells #[s,.slice L x.Ao.length S,.slice M x.Bc.length T,.slice N x.rat.length V,.pointer (some ⟨w1.heap.size+1,0,none⟩),.map (some (w1.heap.size+1+1)),.int .i64 (-1),.pointer (some ⟨w1.heap.size+1+1+1,0,none⟩)] 75);go_ret2;refine⟨w1.heap.size+1+1+1+1,w1.heap.size+1,w1.heap.size,w1.heap.size+1+1,w1.heap.size+1+1+1,_,_,_,rfl,AG.newAt _ _ _ _ AH,d.o.below r,?_,?_,?_,?_,j,U⟩
 .exact p4
 .exact(GI _ _ _ AM).trans ((GI _ _ _ AM).trans ((GI _ _ _ AM).trans ((GI _ _ _ AH).trans (Hf w1 _))))
 .exact(GI _ _ _ AH).trans ((GI _ _ _ AH).trans (by
   have:=Hf ((w1.alloc (.map #[] 0)).alloc (.cells #[.map (some w1)] 156)) (.map #[] 0);simpa using this))
 .exact(AG.newAt _ _ _ _ AH).alloc _
def kC(B:Nat)(x:B6)(s:Int)(w:AA)(C D E:AB)(h:CP B w x C D E)(A:Ho x)(K:Dw x s≠0):
 AI 7 #[s,.agg #[C,D,E]] w (vD x s w):=by
 have AC:=O (FZ.new h);have F:=O A;have Aq:=O K;have P:=A.Ao.le;obtain⟨L,Q,rfl,_⟩:=h.c1.slice;obtain⟨M,R,rfl,_⟩:=h.c2.slice;obtain⟨N,S,rfl,_⟩:=h.c3.slice;obtain⟨G,H,I,J⟩:=AC.o.blk.y3;go_in;go_wp2_with fail;go_call kA B x _ _ _ _ AC.o.law F.o as e w1 ⟨rfl,hb1⟩;replace AC:=O Bg;by_cases hl:IU x=0
 .have A2:=O hl;rw[hl];obtain⟨G,H,I,J⟩:=AC.o.blk.y3;go_wp2_with fail;go_call j7 B x s _ _ _ _ AC.o.law U as e w1 ⟨⟨Y,V,T,X,W,rfl⟩,hb1⟩;replace AC:=O Bg;have hh:Ha x s=false:=by
   exact qG
  have KA:=O hh;rw[hh];go_wp2_with fail;go_ret2;exact⟨wq,AC.o.AJ.alloc AC.o.AJ.size _⟩
 .exact r0
structure Ly(w X:AA)(BO Ak A1:Nat)(ab:Nat->Nat)(p:Nat):Prop where
 ex:∃cs,AG X BO 55 cs/\cs.size=108/\cs[4]? = some (.pointer Ak)/\cs[105]? = some (.int .i64 (-1))/\cs[106]? = some (.pointer A1)/\∀q,q<p->cs[5+q]? = some (.pointer (some ⟨ab q,0,none⟩))
 fd:En X Ak [] AL
 acc:∀q,q<p->HQ X (ab q) AL []
 De:GN w X A1 [] [] 0
 mono:∀q q',q<q'->q'<p->ab q<ab q'
 lt:∀q,q<p->ab q<X.heap.size/\w.heap.size<=ab q
 lo:w.heap.size<=BO/\w.heap.size<=Ak/\w.heap.size<=A1
 AJ:Below w w X
def Ly.start{w A:AA}(C:Below w w A)(st J cs:Array AB)(ts K:TypeId)(D:cs.size=108)(E:cs[4]? = some (.pointer (some ⟨A.heap.size+1,0,none⟩)))(F:cs[105]? = some (.int .i64 (-1)))(G:cs[106]? = some (.pointer (some ⟨A.heap.size+1+1,0,none⟩))):
 Ly w (((((A.alloc (.cells st ts)).alloc (.cells #[AL] 83)).alloc (.cells #[AL,AL,()] 58)).alloc (.cells J K)).alloc (.cells cs 55)) (A.heap.size+1+1+1+1) (A.heap.size+1) (A.heap.size+1+1) (λ_=>0) 0:=by
 have I:=C.size;refine⟨⟨cs,AG.newAt _ _ _ _ AH,D,E,F,G,λB H=>by omega⟩,⟨?_,AS.mt⟩,λB H=>by omega,⟨⟨.slice none 0 0,AL,?_,Ia _ _ _ _,AS.mt⟩⟩,λB L _ h=>by omega,λB h=>by omega,⟨U,U,U⟩,?_⟩
 .exact p4
 .exact((AG.newAt _ _ _ _ AH).alloc _).alloc _
 .exact((((C.alloc I _).alloc AM _).alloc AM _).alloc AM _).alloc AM _
def Ly.next{w B:AA}{F L P p:Nat}{ab:Nat->Nat}(h:Ly w B F L P ab p)(i:p<100):
 Ly w ((B.setCell ⟨F,5+p,none⟩ (.pointer B)).alloc (.cells #[AL] 91)) F L P (λq=>if q=p then B else ab q) (p+1):=by
 obtain⟨C,J,R,S,T,V,W⟩:=h.ex;have Z:=AG.newAt (B.setCell ⟨F,5+p,none⟩ (.pointer B)) B 91 #[AL] AH;have H:AP [F] B ((B.setCell ⟨F,5+p,none⟩ (.pointer B)).alloc (.cells #[AL] 91)):=((AP.refl _ _).setCell AH _).alloc _;have E:∀D K C,AG B D K C->K≠55->D∉[F]:=λD K C A a M=>by
  simp only[Aj,A',A_] at M;subst M;exact a (A.same J)
 have g:=J.lt;have Y:=h.De.ex;refine⟨⟨_,(J.put (5+p) _).alloc _,by simpa using R,?_,?_,?_,λq N=>?_⟩,h.fd.kept H (E _ _ _ h.fd.blk AD) (λD C A=>E _ _ _ A AD) (λD C A=>E _ _ _ A AD),λq N=>?_,?_,λq Q X f=>?_,λq N=>?_,h.lo,?_⟩
 .rw[Nk U];exact S
 .rw[Nk U];exact T
 .rw[Nk U];exact V
 .by_cases I:q=p
  .subst I;rw[Ab rfl,cG U]
  .rw[AU I,Nk U];exact W q U
 .by_cases I:q=p
  .subst I;simp only[CI];exact⟨Z,AS.mt⟩
  .simp only[AU I];have ha:=h.acc q U;exact ha.kept H (E _ _ _ ha.blk AD) (λD C A=>E _ _ _ A AD)
 .obtain⟨d,e,O,b,c⟩:=Y;refine⟨⟨d,e,O.kept H (E _ _ _ O AD),Bl b H (λD C A=>E _ _ _ A AD),c.kept H (λD C A=>E _ _ _ A AD) (λD C A=>E _ _ _ A AD)⟩⟩
 .by_cases G:Q=p
  .subst G;rw[AU U,Ab rfl];exact(h.lt q U).1
  .rw[AU U,AU G];exact h.mono q Q X U
 .by_cases G:q=p
  .rw[Ab G];exact⟨AH,h.AJ.size⟩
  .rw[AU G];have:=h.lt q U;exact⟨AM,this.2⟩
 .exact(h.AJ.setCell (p:=⟨F,5+p,none⟩) h.lo.1 _).alloc (by simpa using h.AJ.size) _
def tx(w:AA)(e:Ending)(C:AA):Prop:=
 ∃A D B ab E,e=.returned (.tuple #[.pointer (some ⟨A,0,none⟩),()])/\EF C A Eh D ab (.pointer (some ⟨B,0,none⟩)) E/\GN w C B [] [] 0/\(∀F∈Gi A D ab,w.heap.size<=F)/\w.heap.size<=B/\Below w w C
def Ly.fin{w F:AA}{D G H:Nat}{ab:Nat->Nat}(A:Ly w F D G H ab 100):tx w (.returned (.tuple #[.pointer D,()])) F:=by
 obtain⟨N,I,T,J,K,L,M⟩:=A.ex;refine⟨D,G,H,ab,N,rfl,⟨I,J,M,K,L,⟨_,A.fd⟩,λB C=>⟨_,A.acc B C⟩,λB E C R U=>?_⟩,A.De,λV S=>?_,A.lo.2.2,A.AJ⟩
 .rcases Nat.lt_trichotomy B E with Q|O|P
  .have:=A.mono B E Q R;omega
  .exact O
  .have:=A.mono E B P C;omega
 .rcases TT.1 S with rfl|rfl|⟨B,C,rfl⟩
  .exact A.lo.1
  .exact A.lo.2.1
  .exact(A.lt B C).2
def iQ:zeroCells55.size=108:=AF
def aw(B:Nat)(x:B6)(s:Int)(w:AA)(N P Q:AB)(h:CP B w x N P Q)(K:Ho x)(he:Dw x s=0):
 AI 7 #[s,.agg #[N,P,Q]] w (tx w):=by
 have L:IU x=0:=by
  exact po
 have C:Ha x s=true:=by
  unfold Dw at he;rw[Ab L] at he;cases C:Ha x s with
  | true=>rfl
  | false=>rw[C] at he;simp at he
 have AC:=O (FZ.new h);have S:=O K;have AD:=K.Ao.le;obtain⟨W,k,rfl,_⟩:=h.c1.slice;obtain⟨X,l,rfl,_⟩:=h.c2.slice;obtain⟨Y,m,rfl,_⟩:=h.c3.slice;obtain⟨F,G,H,J⟩:=AC.o.blk.y3;go_in;go_wp2_with fail;go_call kA B x _ _ _ _ AC.o.law S.o as e w1 ⟨rfl,hb1⟩;replace AC:=O Bg;rw[L];obtain⟨F,G,H,J⟩:=AC.o.blk.y3;go_wp2_with fail;go_call j7 B x s _ _ _ _ AC.o.law U as e w1 ⟨⟨t,o,n,r,q,rfl⟩,hb1⟩;replace AC:=O Bg;obtain⟨F,G,H,J⟩:=AC.o.blk.y3;rw[C];have R:=O AC.o.AJ;go_wp2_with fail;have V:=Ly.start R.o #[.string t,o,.slice n r q] #[AL,AL,AL] ((((((((zeroCells55.setIfInBounds 0 s).setIfInBounds 1 (.slice W x.Ao.length k)).setIfInBounds 2 (.slice X x.Bc.length l)).setIfInBounds 3 (.slice Y x.rat.length m)).setIfInBounds 4 (.pointer (some ⟨w1.heap.size+1,0,none⟩))).setIfInBounds 105 (.int .i64 (-1))).setIfInBounds 106 (.pointer (some ⟨w1.heap.size+1+1,0,none⟩))).setIfInBounds 107 (.pointer (some ⟨w1.heap.size+1+1+1,0,none⟩))) 78 88 (by simp[iQ]) h_ h_ h_;refine Bn (λE=>Ly w E (w1.heap.size+1+1+1+1) (w1.heap.size+1) (w1.heap.size+1+1) (λ_=>0) 0) V ?_;intro E f;have AC:=O f;generalize w1.heap.size+1+1+1+1=i at *;generalize w1.heap.size+1+1=j at *;generalize w1.heap.size+1=d at *;generalize w1.heap.size=AE at *;go_loopw [10] (λD wr=>∃(p:Nat) (ab:Nat->Nat),D=.int .i64 (p:Int)/\p<=100/\Ly w wr i d j ab p) (λD _=>101-(intOf D).toNat)
 case atStart=>exact⟨0,_,rfl,U,AC.o⟩
 case round=>
  obtain⟨p,ab,rfl,z,I⟩:=hrel;have AC:=O I;obtain⟨Z,A,v,_,_,_,_⟩:=I.ex;by_cases y:p<=99
  .have c:=LC p 99;obtain⟨M,g⟩:∃M,Z[5+p]? = some M:=⟨_,Cn U⟩;have u:=A.cell (5+p);rw[g] at u;have AF:=A.frozen (5+p);have AG:=A.lt;have T:=O (AC.o.next U);go_wp2_with fail;go_roundw
   case rel=>exact⟨p+1,_,A7,U,T.o⟩
   case measure=>exact A5
  .have c:=KI p 99;obtain rfl:p=100:=U;go_wp2_with fail;go_ret2;exact AC.o.fin
section
variable{L:List (Int × Int)}{Eg:AB}{Y:AA}
def AAW{C:List (Int × Int)}{n:Int}(h:∀p∈C,1<=p.1/\p.1<=p.2/\p.2<=1000)(E:1<=n)(K:n<=999):∀p∈EU C n,1<=p.1/\p.1<=p.2/\p.2<=1000:=by
 rcases Tc C with rfl|⟨I,F,rfl⟩
 .intro p A;simp[EU] at A;subst A;exact⟨E,AM,AM⟩
 .rw[List.concat_eq_append] at h ⊢;have H:=h F AH;by_cases D:F.2=n
  .rw[Vx D];intro p A;rcases E1.1 A with A|A
   .exact h p (List.mem_append_left _ A)
   .rw[Jv.1 A];exact⟨H.1,AM,AM⟩
  .rw[Vy (λJ M G=>by
    have:=List.append_inj' G rfl;obtain⟨_,B⟩:=this;injection B with B;rw[<-B];exact D)]
   intro p A;rcases E1.1 A with A|A
   .exact h p A
   .rw[Jv.1 A];exact⟨E,AM,AM⟩
def j4:∀(B:Ay) (A:List (Int × Int)),(∀n∈B,1<=n/\n<=999)->(∀p∈A,1<=p.1/\p.1<=p.2/\p.2<=1000)->∀p∈B.foldl EU A,1<=p.1/\p.1<=p.2/\p.2<=1000
 | [],A,_,h=>h
 | n::B,A,hn,h=>j4 B (EU A n) (λD C=>hn D (Dq _ C)) (AAW h (hn n D0).1 (hn n D0).2)
def AAV(A:List (Int × Int))(n:Int):(EU A n).length<=A.length+1:=by
 rcases Tc A with rfl|⟨D,C,rfl⟩
 .simp[EU]
 .rw[List.concat_eq_append];by_cases B:C.2=n
  .rw[Vx B];simp
  .simp[EU,B]
def j3:∀(B:Ay) (A:List (Int × Int)),(B.foldl EU A).length<=A.length+B.length
 | [],A=>AH
 | n::B,A=>by
  have:=j3 B (EU A n);have C:=AAV A n;simp only[Fh,CB];omega
def AAS{K:List Kd}(A:∀x∈K,F7 x)(s:Int):∀p∈DF (C4 K s),1<=p.1/\p.1<=p.2/\p.2<=1000:=j4 _ _ (lk A s) AH
def AAO(K:List Kd)(s:Int):(DF (C4 K s)).length<=K.length:=by
 have A:=j3 (C4 K s) [];have B:(C4 K s).length<=K.length:=iI;simp only[EE] at A;unfold DF;omega
def jY{k:Nat}{p:Int × Int}(h:L[k]? = some p):D6 (L.take (k+1))=D6 (L.take k)+(p.2-p.1):=by
 have A:L.take (k+1)=L.take k++[p]:=vt;rw[A,Vi];simp[D6]
def aS(B:∀p∈L,1<=p.1/\p.1<=p.2/\p.2<=1000):∀k:Nat,0<=D6 (L.take k)/\D6 (L.take k)<=1000*(k:Int)
 | 0=>by simp[D6]
 | k+1=>by
  have C:=aS B k;cases A:L[k]? with
  | none=>
   have:L.take (k+1)=L.take k:=by rw[HB (by have:=List.getElem?_eq_none_iff.1 A;omega),HB (List.getElem?_eq_none_iff.1 A)]
   rw[this];push_cast
   omega
  | some p=>
   rw[jY A];have:=B p (Bu A);push_cast
   omega
def EF.tag{w:AA}{D C:Nat}{i:Ins}{ab:Nat->Nat}{cs:Array AB}(A:EF w D i C ab Eg cs){x:Nat}(F:x∈Gi D C ab):∃t cs,AG w x t cs/\(t=55\/t=83\/t=91):=by
 rcases TT.1 F with rfl|rfl|⟨G,E,rfl⟩
 .exact⟨_,_,A.blk,.inl rfl⟩
 .obtain⟨H,B⟩:=A.fd;exact⟨_,_,B.blk,.inr (.inl rfl)⟩
 .obtain⟨H,B⟩:=A.acc G E;exact⟨_,_,B.blk,.inr (.inr rfl)⟩
structure Kw(w X:AA)(BO Ak A1:Nat)(ab:Nat->Nat)(i:Ins)(a_:List AE):Prop where
 ins:∃cs,EF X BO i Ak ab (.pointer A1) cs
 De:∃B bs fl,GN B X A1 bs a_ fl
 lo:∀x∈Gi BO Ak ab,w.heap.size<=x
 AJ:Below w w X
def Kw.below{w B:AA}{E D F:Nat}{ab:Nat->Nat}{i:Ins}{G:List AE}(A:Kw w B E D F ab i G)(C:Below B B Y):Kw w Y E D F ab i G:=by
 obtain⟨J,M⟩:=A.ins;obtain⟨H,I,K,N⟩:=A.De;exact⟨⟨J,M.below C⟩,⟨H,I,K,N.below C⟩,A.lo,AW A.AJ C⟩
def Kw.next{w J:AA}{F E N:Nat}{ab:Nat->Nat}{i j:Ins}{P:List AE}{K:Array AB}(h:Kw w J F E N ab i P)(I:AP (Gi F E ab) J Y)(W:EF Y F j E ab (.pointer N) K):Kw w Y F E N ab j P:=by
 obtain⟨C,T⟩:=h.ins;obtain⟨Q,R,S,U⟩:=h.De;obtain⟨e,f,O,Z,a⟩:=U.ex;have H:∀D G C,AG J D G C->G≠55->G≠83->G≠91->D∉Gi F E ab:=λD G C B b c d X=>by
  obtain⟨g,K,V,A⟩:=T.tag X;have M:=B.same V;rcases A with A|A|A
  .exact b (M.trans A)
  .exact c (M.trans A)
  .exact d (M.trans A)
 exact⟨⟨K,W⟩,⟨Q,R,S,⟨e,f,O.kept I (H _ _ _ O AD AD AD),Bl Z I (λD C B=>H _ _ _ B AD AD AD),a.kept I (λD C B=>H _ _ _ B AD AD AD) (λD C B=>H _ _ _ B AD AD AD)⟩⟩,h.lo,h.AJ.trans (I.below h.AJ.size h.lo)⟩
def EF.cO{w:AA}{A C:Nat}{i:Ins}{ab:Nat->Nat}{cs:Array AB}(h:EF w A i C ab Eg cs)(u:AB):EF (w.setCell ⟨A,106,none⟩ u) A i C ab u (cs.setIfInBounds 106 u):=by
 obtain⟨F,D⟩:=h.fd;have hk:AP [A] w (w.setCell ⟨A,106,none⟩ u):=(AP.refl _ _).setCell AH _;have hT:∀g B cs,AG w g B cs->B≠55->g∉[A]:=λg B cs hg ht hm=>by
  exact X6
 have E:=(E7.1 h.Nv).1;refine⟨h.blk.put 106 _,?_,λp hp=>?_,?_,?_,⟨F,D.kept hk (hT _ _ _ D.blk AD) (λg cs hg=>hT _ _ _ hg AD) (λg cs hg=>hT _ _ _ hg AD)⟩,λq hq=>?_,h.inj⟩
 .exact pe
 .exact pu
 .rw[Nk AD];exact h.RW
 .rw[cG E]
 .exact rf
def Kw.start{w C:AA}{A G F T B:Nat}{K:Int}{ab:Nat->Nat}{i:Ins}{O:List AE}{J:AE}{cs:Array AB}(h:EF C A i G ab (.pointer T) cs)(P:GN B C F J O K)(M:∀x∈Gi A G ab,w.heap.size<=x)(Q:Below w w C):
 Kw w (C.setCell ⟨A,106,none⟩ (.pointer F)) A G F ab i O:=by
 obtain⟨U,V,N,R,S⟩:=P.ex;have H:AP [A] C (C.setCell ⟨A,106,none⟩ (.pointer F)):=(AP.refl _ _).setCell AH _;have E:∀D I cs,AG C D I cs->I≠55->D∉[A]:=λD I cs hg ht hm=>by
  exact X6
 exact⟨⟨_,h.cO _⟩,⟨B,J,K,⟨U,V,N.kept H (E _ _ _ N AD),Bl R H (λD cs hg=>E _ _ _ hg AD),S.kept H (λD cs hg=>E _ _ _ hg AD) (λD cs hg=>E _ _ _ hg AD)⟩⟩,M,Q.setCell (M A (TT.2 (.inl rfl))) _⟩
def nS{A:List AE}{k:Nat}{r:AE}(C:A[k]? = some r)(i:Ins):foldI (A.drop k) i=match CO i r with|some j=>foldI (A.drop (k+1)) j|none=>none:=by
 obtain⟨D,B⟩:=Cd.1 C;rw[Kk D,B];rfl
def F1(x:B6)(s:Int)(l:AE):Int:=if Dw x s=0 then (if NO s l then 0 else 11) else Dw x s
def tu(x:B6)(s:Int)(l:AE)(w:AA)(e:Ending)(B:AA):Prop:=(∃A,e=.returned (.tuple #[A,.int .i64 (F1 x s l)]))/\Below w w B
def ar{x:B6}{s:Int}{l:AE}{w B:AA}{A:AB}{n:Int}(D:n=F1 x s l)(C:Below w w B):tu x s l w (.returned (.tuple #[A,n])) B:=by subst D;exact⟨⟨A,rfl⟩,C⟩
def TK{x:B6}{s:Int}{l:AE}(h:Dw x s=0)(hb:NO s l=false):11=F1 x s l:=wN
def bd{x:B6}{s:Int}{l:AE}(h:Dw x s=0)(hb:NO s l=true):0=F1 x s l:=wN
def lZ{s:Int}{l:AE}(A:foldI (B0 l) Eh=none):NO s l=false:=by unfold NO;rw[A]
def lY{s:Int}{l:AE}{i:Ins}(A:foldI (B0 l) Eh=some i):NO s l=decide (D6 (DF (C4 i.f s))=(Gg i.f s:Int)):=by unfold NO;rw[A]
def j_(B:Nat)(x:B6)(s:Int)(w:AA)(Ao Aq As At:AB)(l:AE)(h:CP B w x Ao Aq As)(AH:Ho x)(X:Af w w At l)(BJ:l.length<=140737488355328):
 AI 9 #[s,.agg #[Ao,Aq,As],At] w (tu x s l w):=by
 have E:=O (FZ.new h);have D:=O AH;have G:=O X;obtain⟨Bb,Bt,rfl,_⟩:=h.c1.slice;obtain⟨Bc,Bv,rfl,_⟩:=h.c2.slice;obtain⟨Bd,Bw,rfl,_⟩:=h.c3.slice;obtain⟨B4,B7,rfl,_⟩:=X;clear h AH;obtain⟨A2,A3,A6,BF⟩:=E.o.blk.y3;go_in;go_wp2_with fail;clear A2 A3 A6 BF;by_cases he:Dw x s=0
 .refine(aw B x s _ _ _ _ E.o.law D.o he).mono ?_;rintro R BV ⟨Z,N,Bq,ab,AX,rfl,F,BE,Ah,BH,W⟩;have P:=O he;have Ag:=O F;have Eb:=O (AW E.o.AJ W);have AT:Hid (∀x∈Gi Z N ab,w.heap.size<=x):=λx BP=>Ap E.o.AJ.size (Ah x BP);clear he F BE Ah BH W E D;go_wp2_with fail;refine(ABP _ l _ ((G.o.below Eb.o).mono Eb.o.size) BJ).mono ?_;rintro R BX ⟨AM,Be,Bk,rfl,V,_,hb2⟩;replace Ag:=O Yp;replace Eb:=O (AW Eb.o hb2);have AR:=O V;clear V hb2;have K:=Ag.o.blk.cell 106;rw[Ag.o.Nv] at K;have A9:=Ag.o.blk.frozen 106;have M:=Ag.o.blk.lt;have A:=O (Kw.start Ag.o AR.o AT.o Eb.o);go_wp2_with fail;generalize BX.setCell ⟨Z,106,none⟩ (.pointer AM)=Ba at *;clear Ag AR Eb K A9 M AT;have Bp:(B0 l).length<=20000:=(V5 20000 l).1;go_loopw [10] (λJ wr=>∃(C:Nat) (i:Ins),J=.int .i64 (C:Int)/\C<=(B0 l).length/\IA i C/\Kw w wr Z N AM ab i (B0 l)/\Hid (foldI (B0 l) Eh=foldI ((B0 l).drop C) i)) (λJ _=>20001-(intOf J).toNat)
  case atStart=>exact⟨0,Eh,rfl,Az _,IA.zero,A.o,rfl⟩
  case round=>
   clear A;obtain⟨C,i,rfl,AH,Ai,I,d⟩:=hrel;have A:=O I;have D:=O Ai;obtain⟨AX,F⟩:=I.ins;obtain⟨BZ,Bf,Bl,V⟩:=I.De;obtain⟨B5,B8,AL,BR,y⟩:=V.ex;obtain⟨Br,Bs,rfl,Bn⟩:=AS.slice y;clear I Ai V BR;have Ag:=O F;have K:=F.blk.cell 106;rw[F.Nv] at K;have M:=F.blk.lt;have Aj:=AL.g1;have Ak:=AL.lt;clear AL F;by_cases Ae:C<(B0 l).length
   .obtain⟨c,u⟩:=BQ (B0 l) C Ae;have A':=Ar C ((B0 l).length:Int);obtain⟨BN,BO⟩:=(V5 20000 l).2 c (Bu u);obtain⟨g,A_,BU,H,_,BG,_,f,S⟩:=AS.at y ux C c u;injection H with H;subst H;obtain⟨B9,rfl,AJ⟩:=f;have AO:=S 0 AD;simp only[Q9,Ci,A8] at AO;have AF:=O (Af.FI AJ);obtain⟨B1,B2,rfl⟩:=CV AJ;have e:Hid (foldI (B0 l) Eh=match CO i c with|some j=>foldI ((B0 l).drop (C+1)) j|none=>none):=by
     show _=_;rw[d.o,nS u]
    clear u S AJ y d;go_wp2_with fail;refine(ACL wr Z N ab _ _ AX i c C Ag.o D.o U AF.o BN BO).mono ?_;intro R BY BM;obtain⟨rfl,r,n⟩:=BM;clear K M Aj Ak AO;cases ha:CO i c with
    | none=>
     have An:=O (TK (x:=x) (s:=s) P.o (lZ (by rw[e.o,ha])));have Eb:=O (A.o.AJ.trans (r.below A.o.AJ.size A.o.lo));simp only[Option.isSome_none];clear n r ha e A AF Ag;go_wp2_with fail;go_ret2;exact ar An.o Eb.o
    | some j=>
     obtain⟨Bg,AY⟩:=n j ha;have A0:=O (A.o.next r AY);have Ay:=O (D.o.next ha);have Ax:Hid (foldI (B0 l) Eh=foldI ((B0 l).drop (C+1)) j):=by show _=_;rw[e.o,ha]
     simp only[Option.isSome_some];clear n r ha e A AF Ag AY D;go_wp2_with fail;go_roundw
     case rel=>exact⟨C+1,j,A7,U,Ay.o,A0.o,Ax.o⟩
     case measure=>exact A5
   .have AQ:Hid (foldI (B0 l) Eh=some i):=by
     show _=_;rw[d.o,Mg U];rfl
    have A':=A4 C ((B0 l).length:Int);have Bi:decide (C<(B0 l).length)=false:=DI Ae;obtain⟨BC,Ad⟩:=Ag.o.fd;have Q:=Ag.o.blk.cell 4;rw[Ag.o.c4] at Q;have AV:=O Ad;have Bm:i.f.length<=20000:=by have:=D.o.fl;omega
    clear y d Ad;go_wp2_with fail;refine(ABI _ N i.f BC s AV.o D.o.MY U).mono ?_;rintro R BY ⟨v,rfl,k,Aa⟩;obtain⟨L,AZ⟩:∃L,L=DF (C4 i.f s):=⟨_,rfl⟩;have AG:=AAS D.o.MY s;have BK:=AAO i.f s;have AC:=O (lY (s:=s) AQ.o);rw[<-AZ] at k AG BK AC;obtain⟨BS,BT,rfl,Bo⟩:=AS.slice k;replace A:=O (A.o.below Aa);have G:=O k;have z:=O AG;clear K M Aj Ak Q k Aa AZ Ag AQ AV AG;go_wp2_with fail;generalize wr.heap.size=Av at *;go_loopw [11,13] (λa J Au=>∃j:Nat,J=.int .i64 (j:Int)/\a=.int .i64 (D6 (L.take j))/\j<=L.length/\Kw w Au Z N AM ab i (B0 l)/\N4 Av Au L (.slice BS L.length BT)) (λ_ J _=>20001-(intOf J).toNat)
    case atStart=>exact⟨0,rfl,rfl,Az _,A.o,G.o⟩
    case round=>
     clear A G;obtain⟨j,rfl,rfl,n,I,X⟩:=hrel;have A:=O I;have G:=O X;clear I X;by_cases BI:j<L.length
     .obtain⟨p,t⟩:=BQ L j BI;have BA:=Ar j L.length;obtain⟨Bx,By,Bz⟩:=z.o p (Bu t);obtain⟨Al,Am⟩:=aS z.o j;obtain⟨g,A_,BU,H,_,BG,_,f,S⟩:=AS.at G.o (λ_ _ q=>Hk.len q) j p t;injection H with H h6 h7;subst H;subst h7;unfold Hk at f;subst f;obtain⟨AO,B'⟩:=QB S;have An:=O (jY t);clear t S;generalize D6 (L.take j)=B3 at *;go_wp2_with fail;go_quiet (fail)
      go_wp2_with fail;go_roundw
      case rel=>exact⟨j+1,A7,by rw[An.o],U,A.o.below (Do DL _),AS.kept G.o (S:=[]) (AP.of_below (Do DL _)) CE BW⟩
      case measure=>exact A5
     .obtain rfl:j=L.length:=U;have AK:L.take L.length=L:=F6;rw[AK];obtain⟨Bh,T⟩:=A.o.ins;obtain⟨BD,Ac⟩:=T.fd;have Q:=T.blk.cell 4;rw[T.c4] at Q;have M:=T.blk.lt;have A1:=O Ac;obtain⟨Al,Am⟩:=aS z.o L.length;rw[AK] at Al Am;clear T Ac AK;have Bj:=A4 L.length L.length;go_wp2_with fail;refine(ABM _ N i.f BD s A1.o D.o.MY U).mono ?_;rintro R B_ ⟨rfl,Ab⟩;have Eb:=O (AW A.o.AJ Ab);clear Ab Q M;by_cases hq:D6 L=(Gg i.f s:Int)
      .have An:=O (bd (x:=x) P.o (by rw[AC.o];exact CA hq));have BB:(D6 L !=(Gg i.f s:Int))=false:=by simp[hq]
       exact qg
      .have An:=O (TK (x:=x) P.o (by rw[AC.o];exact DI hq));have BB:(D6 L !=(Gg i.f s:Int))=true:=E8.2 hq;exact qg
 .refine(kC B x s _ _ _ _ E.o.law D.o he).mono ?_;rintro R BV ⟨rfl,W⟩;have P:Hid (Dw x s=F1 x s l):=wo;have BA:(Dw x s==0)=false:=Aw.2 he;have Eb:=O (AW E.o.AJ W);clear he W E D;go_wp2_with fail;go_ret2;exact ar P.o Eb.o
end
