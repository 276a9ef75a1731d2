import Derived.Test.YtcpcgpbohiineaaGreatDoorY12
namespace Go.Proofs.YtcpcgpbohiineaaGreatDoor
open Go.RowKit Go.Proofs.Tryz
set_option linter.all false
set_option maxRecDepth 100000
set_option maxHeartbeats 4000000
def oz(d:Int)(h:0<=d/\d<=73048)(w:AA):AI 171 #[d] w (BX (.bool true) w):=by
 have A:decide (0<=d)=true:=CA h.1;have B:decide (d<=73048)=true:=CA h.2;exact FA
def yX(d:Int)(h:1900<=d/\d<=2099)(w:AA):AI 306 #[d] w (BX (.bool true) w):=by
 have A:decide (1900<=d)=true:=CA h.1;have B:decide (d<=2099)=true:=CA h.2;exact FA
def yY(y:Int)(f:EP)(w:AA)(I:Cl w)(h:1900<=y/\y<=2099)(H:Ej f 2=true)(L:1<=f.n):
 AI 227 #[.agg #[y,f.n,f.d]] w (Ca true w):=by
 have J:=Ar 0 f.n;have E:=O I;have G:Below w w (w.alloc (.cells #[y,f.n,f.d] 209)):=(AN _ _).alloc AK _;have C:=O (AG.new w 209 #[y,f.n,f.d]);have A:=O G;go_in;go_wp2_with fail;go_call lI f 2 _ (E.o.after A.o) H as F w1 ⟨s,rfl,hb1⟩;have D:=O (C.o.below hb1 AH);have B:=O (AW A.o hb1);obtain⟨N,P,K⟩:=D.o.y2;go_wp2_with (go_at_call 306;refine(yX y h _).mono ?_;rintro F M ⟨rfl,rfl⟩)
 go_ret;exact⟨rfl,B.o⟩
def bh{B:Nat}{n:Int}(A:Ee B n=true):(NP B).any (λp=>p.2==n)=true:=by
 unfold Ee at A;rw[At] at A;exact A.2
def AFo{m:Int}(A:1<=m/\m<=4):IS.any (λp=>p.2==m)=true:=by
 rcases (show m=1\/m=2\/m=3\/m=4 by omega) with rfl|rfl|rfl|rfl<;>decide
structure P9(B:Nat)(W X:AA)(x:Ah)(b:Nat)(s1 s2 s3 s4 As:AB)(q t:Nat)(cs:Array AB):Prop where
 box:DA B W X x b s1 s2 s3 s4 As
 var:AG X q t cs
def P9.below{B:Nat}{W A D:AA}{x:Ah}{b:Nat}{F G H I J:AB}{q t:Nat}{cs:Array AB}(C:P9 B W A x b F G H I J q t cs)(E:Below A A D):P9 B W D x b F G H I J q t cs:=
 ⟨C.box.below E,C.var.below E C.var.lt⟩
def DA.var{B:Nat}{W A:AA}{x:Ah}{b:Nat}{C D E F G:AB}(h:DA B W A x b C D E F G)(t:Nat)(cs:Array AB):P9 B W (A.alloc (.cells cs t)) x b C D E F G A t cs:=
 ⟨h.below C8,AG.new A t cs⟩
def ACa(B:Nat)(x:Ah)(w:AA)(Au Av Aw Ax Ay:AB)(v:Cl w)(h:B5 B w x Au Av Aw Ax Ay)(BR:IF x=true):
 AI 162 #[.agg #[x.fr,x.mode,x.unit,Au,Av,Aw,Ax,Ay]] w (Ca true w):=by
 have BN:=Sa BR;obtain⟨⟨BH,BI⟩,⟨BJ,BM⟩,⟨Bx,By⟩,Bz,B0,B1,B2,B3,BS,BT,BU,BV,BW⟩:=BN;obtain⟨X,n,rfl,_⟩:=h.c1.slice;obtain⟨Y,r,rfl,_⟩:=h.c2.slice;obtain⟨Z,s,rfl,_⟩:=h.c3.slice;obtain⟨d,t,rfl,_⟩:=h.c4.slice;obtain⟨f,u,rfl,_⟩:=h.c5.slice;have AC:=O (DA.new h);have AJ:=O v;have A3:=O BS;have A6:=O BT;have A9:=O BU;have A_:=O BV;have A':=O BW;obtain⟨Bd,BP,BG⟩:=Xa IS AD AD x.mode (AFo ⟨BJ,BM⟩);have A2:=O BG;have Bo:=A4 6 x.Ae.length;have Bp:=A4 20 x.Ad.length;have Bq:=A4 10 x.lets.length;have Br:=A4 5 x.Ac.length;have Bs:=A4 5 x.red.length;have BB:=A4 x.unit 1;have BC:=A4 100000 x.unit;go_in;go_wp2_with fail;refine DB [2,5,9] [0,1,2,3,4,6,7,8,5,9,10,11,12,13,14,15,16,17,18,19,20,21,22,23] (w.heap.size+1) AF AF rfl AD AF BK ?_;refine Ea ?_;refine Bn (λG=>DA B w G x w (.slice X x.Ae.length n) (.slice Y x.Ad.length r) (.slice Z x.lets.length s) (.slice d x.Ac.length t) (.slice f x.red.length u)) Di ?_;intro T W;have AC:=O W;have AW:w.heap.size<w.heap.size+1:=U;have Nc:w.heap.size+1<=T.heap.size:=AC.o.blk.lt;generalize w.heap.size+1=AS at *;obtain⟨b0,b1,b2,b3,b4,b5,Bw,Bv,hbl⟩:=AC.o.blk.BF;refine Cq ?_;intro K hK;go_at_call 171;go_call oz _ ⟨BH,BI⟩ _ as e w' ⟨rfl,rfl⟩;refine hK _ _ AS AK DL ?_;refine Cq ?_;intro K hK;go_at_call 225;go_call AFm _ as e W1 ⟨gt,rfl,V,hb1⟩;refine hK _ _ W1 Yz (hb1.mono Nc) ?_;replace AC:=O Bg;have F:=O V;obtain⟨b0,b1,b2,b3,b4,b5,Bw,Bv,hbl⟩:=AC.o.blk.BF;have AY:=F.o.lt;refine Cq ?_;intro K hK;go_at_call 224;go_call A2.o gt _ F.o as e W2 ⟨rfl,hb1⟩;refine hK _ _ W2 hb1.size hb1 ?_;replace AC:=O Bg;have Aa:(Bd==[])=false:=by simpa using BP
 unfold AR;obtain⟨b0,b1,b2,b3,b4,b5,Bw,Bv,hbl⟩:=AC.o.blk.BF;refine HM ?_;go_wp2_with fail;go_loopw [68] (λE wr=>∃i:Nat,E=.int .i64 (i:Int)/\i<=x.Ae.length/\DA B w wr x w (.slice X x.Ae.length n) (.slice Y x.Ad.length r) (.slice Z x.lets.length s) (.slice d x.Ac.length t) (.slice f x.red.length u)) (λE _=>x.Ae.length-(intOf E).toNat)
 case atStart=>exact⟨0,rfl,Az _,AC.o⟩
 case' round=>
  obtain⟨i,rfl,hi,Q⟩:=hrel;have AC:=O Q;obtain⟨b0,b1,b2,b3,b4,b5,Bw,Bv,hbl⟩:=AC.o.blk.BF
 by_cases hlt:i<x.Ae.length
 .skip
  have dl:=Ar i x.Ae.length;obtain⟨c,D⟩:=BQ x.Ae i hlt;obtain⟨N,h2,AT⟩:=A3.o c (Bu D);obtain⟨g,P,AU⟩:=AC.o.lists.c1.Ch (λ_ _ q=>FX.len q) i c D;subst P;have L:=O D;obtain⟨AP,cV,AL⟩:=Xa GD AD AD c.kind (bh N);have AG:=O AL;have BB:=A4 c.limit 0;have BC:=A4 73049 c.limit;have Aa:(AP==[])=false:=gO;obtain⟨AE,v,R,A⟩:=AC.o.lists.c1.BT (λ_ _ q=>FX.len q) i c L.o;obtain rfl:AE=[.int .i64 c.kind,.int .i64 c.limit]:=R;obtain⟨AM,AO⟩:=QB A;go_wp2_with fail;refine DB [0,3] [1,2,0,3,4,5,6,7,8,9,10,11,12,13,14] (wr.heap.size+1) AF AF rfl AD AF BK ?_;refine Ea ?_;refine Bn (λG=>P9 B w G x w _ _ _ _ _ wr 206 #[c.kind,c.limit]) ((AC.o.var 206 #[c.kind,c.limit]).below (AN _ _).drew) ?_;intro T W;have CC:=O W;have AW:wr.heap.size<wr.heap.size+1:=U;have Nc:wr.heap.size+1<=T.heap.size:=CC.o.var.lt;generalize wr.heap.size+1=AS at *;have AQ:=CC.o.var.cell 0;have y:=CC.o.var.lt;simp only[CH,A8] at AQ;refine Cq ?_;intro K hK;go_at_call 226;go_call AGd _ as e W1 ⟨gt,rfl,V,hb1⟩;refine hK _ _ W1 Yz (hb1.mono Nc) ?_;replace CC:=O Pr;have F:=O V;have AY:=F.o.lt;refine Cq ?_;intro K hK;go_at_call 224;go_call AG.o gt _ F.o as e W2 ⟨rfl,hb1⟩;refine hK _ _ W2 hb1.size hb1 ?_;replace CC:=O Pr;have Af:=CC.o.var.g1;have y:=CC.o.var.lt;unfold AR;refine HM ?_;have AC:=O CC.o.box;exact Lu
 .skip
  obtain rfl:i=x.Ae.length:=U;have dl:decide ((x.Ae.length:Int)<(x.Ae.length:Int))=false:=AH;go_wp2_with fail;go_loopw [91] (λE wr=>∃i:Nat,E=.int .i64 (i:Int)/\i<=x.Ad.length/\DA B w wr x w (.slice X x.Ae.length n) (.slice Y x.Ad.length r) (.slice Z x.lets.length s) (.slice d x.Ac.length t) (.slice f x.red.length u)) (λE _=>x.Ad.length-(intOf E).toNat)
  case atStart=>exact⟨0,rfl,Az _,AC.o⟩
  case' round=>
   obtain⟨i,rfl,hi,Q⟩:=hrel;have AC:=O Q;obtain⟨b0,b1,b2,b3,b4,b5,Bw,Bv,hbl⟩:=AC.o.blk.BF
  by_cases hlt:i<x.Ad.length
  .skip
   have dl:=Ar i x.Ad.length;obtain⟨c,D⟩:=BQ x.Ad i hlt;obtain⟨N,h2,AT,BD⟩:=A6.o c (Bu D);obtain⟨g,P,AU⟩:=AC.o.lists.c2.Ch (λ_ _ q=>Fj.len q) i c D;subst P;have L:=O D;obtain⟨AE,v,R,A⟩:=AC.o.lists.c2.BT (λ_ _ q=>Fj.len q) i c L.o;obtain rfl:AE=[.int .i64 c.year,.int .i64 c.f.n,.int .i64 c.f.d]:=R;obtain⟨AM,AO,AV⟩:=Z3 A;have CC:=O (AC.o.var 209 #[c.year,c.f.n,c.f.d]);have Af:=CC.o.var.cell 1;go_wp2_with fail;go_call yY c.year c.f _ (AJ.o.after CC.o.box.AJ) ⟨N,h2⟩ AT BD as en w3 ⟨rfl,hb1⟩;replace AC:=O Yx;exact UN
  .skip
   obtain rfl:i=x.Ad.length:=U;have dl:decide ((x.Ad.length:Int)<(x.Ad.length:Int))=false:=AH;go_wp2_with fail;go_loopw [102] (λE wr=>∃i:Nat,E=.int .i64 (i:Int)/\i<=x.lets.length/\DA B w wr x w (.slice X x.Ae.length n) (.slice Y x.Ad.length r) (.slice Z x.lets.length s) (.slice d x.Ac.length t) (.slice f x.red.length u)) (λE _=>x.lets.length-(intOf E).toNat)
   case atStart=>exact⟨0,rfl,Az _,AC.o⟩
   case' round=>
    obtain⟨i,rfl,hi,Q⟩:=hrel;have AC:=O Q;obtain⟨b0,b1,b2,b3,b4,b5,Bw,Bv,hbl⟩:=AC.o.blk.BF
   by_cases hlt:i<x.lets.length
   .skip
    have dl:=Ar i x.lets.length;obtain⟨c,D⟩:=BQ x.lets i hlt;obtain⟨N,h2⟩:=A9.o c (Bu D);obtain⟨g,P,AU⟩:=AC.o.lists.c3.Ch (λ_ _ q=>D9.len q) i c D;subst P;have L:=O D;obtain⟨AE,v,R,A⟩:=AC.o.lists.c3.BT (λ_ _ q=>D9.len q) i c L.o;obtain⟨A1,rfl,S⟩:=R;obtain⟨x0,x1,x2,x3,Bk,I,J,H,rfl⟩:=S.BS;have C:=O S;obtain⟨AM,AO,AV,Ab,Ac,Ad,Ae⟩:=KJ A;have CC:=O (AC.o.var 215 #[AR c.name,x0,x1,x2,x3,AR Bk,.slice I J H]);have BF:Below wr wr (wr.alloc (.cells #[AR c.name,x0,x1,x2,x3,AR Bk,.slice I J H] 215)):=(AN _ _).alloc AK _;replace C:=O (C.o.stay BF);go_wp2_with fail;go_call bI c.name _ N as en w3 ⟨rfl,rfl⟩;go_wp2_with fail;go_call Qa _ c.body _ _ (AJ.o.after CC.o.box.AJ) C.o h2 as en w4 ⟨rfl,hb1⟩;replace AC:=O Yx;exact UN
   .skip
    obtain rfl:i=x.lets.length:=U;have dl:decide ((x.lets.length:Int)<(x.lets.length:Int))=false:=AH;go_wp2_with fail;go_loopw [120] (λE wr=>∃i:Nat,E=.int .i64 (i:Int)/\i<=x.Ac.length/\DA B w wr x w (.slice X x.Ae.length n) (.slice Y x.Ad.length r) (.slice Z x.lets.length s) (.slice d x.Ac.length t) (.slice f x.red.length u)) (λE _=>x.Ac.length-(intOf E).toNat)
    case atStart=>exact⟨0,rfl,Az _,AC.o⟩
    case' round=>
     obtain⟨i,rfl,hi,Q⟩:=hrel;have AC:=O Q;obtain⟨b0,b1,b2,b3,b4,b5,Bw,Bv,hbl⟩:=AC.o.blk.BF
    by_cases hlt:i<x.Ac.length
    .skip
     have dl:=Ar i x.Ac.length;obtain⟨c,D⟩:=BQ x.Ac i hlt;obtain⟨N,h2,AT⟩:=A_.o c (Bu D);obtain⟨g,P,AU⟩:=AC.o.lists.c4.Ch (λ_ _ q=>D4.len q) i c D;subst P;have L:=O D;obtain⟨AP,cV,AL⟩:=Xa F5 AD AD c.CN (bh N);have AG:=O AL;have Aa:(AP==[])=false:=gO;obtain⟨AE,v,R,A⟩:=AC.o.lists.c4.BT (λ_ _ q=>D4.len q) i c L.o;obtain⟨A1,B8,rfl,S,At⟩:=R;obtain⟨x0,x1,x2,x3,Bk,I,J,H,rfl⟩:=S.BS;obtain⟨Aj,Ak,Al,Am,An,Aq,As,Ao,rfl⟩:=At.BS;have C:=O S;have M:=O At;have AM:=A 0 AD;have AO:=A 1 AD;have AV:=A 2 AD;have Ab:=A 3 AD;have Ac:=A 4 AD;have Ad:=A 5 AD;have Ae:=A 6 AD;have Ba:=A 7 AD;have Bb:=A 8 AD;have Bc:=A 9 AD;have BX:=A 10 AD;have BY:=A 11 AD;have BZ:=A 12 AD;simp only[Ci,DC,Dg,A8,Bt] at AM AO AV Ab Ac Ad Ae Ba Bb Bc BX BY BZ;have AX:=C.o;have BE:=M.o;go_wp2_with fail;refine DB [0,3,8,14] [1,2,0,3,4,5,6,7,8,9,10,11,12,13,14,15,16] (wr.heap.size+1) AF AF rfl AD AF BK ?_;refine Ea ?_;refine Bn (λG=>P9 B w G x w _ _ _ _ _ wr 218 #[c.CN,x0,x1,x2,x3,AR Bk,.slice I J H,Aj,Ak,Al,Am,AR An,.slice Aq As Ao]/\Ai (λg=>B<=g) G c.cond [.int .i64 x0,.int .i64 x1,.int .i64 x2,.int .i64 x3,AR Bk,.slice I J H]/\Ai (λg=>B<=g) G c.pay [.int .i64 Aj,.int .i64 Ak,.int .i64 Al,.int .i64 Am,AR An,.slice Aq As Ao]) ⟨((AC.o.var 218 #[c.CN,x0,x1,x2,x3,AR Bk,.slice I J H,Aj,Ak,Al,Am,AR An,.slice Aq As Ao]).below (AN _ _).drew),(AX.stay C8).stay (AN _ _).drew,(BE.stay C8).stay (AN _ _).drew⟩ ?_;rintro T ⟨W,AZ,BO⟩;have CC:=O W;have C:=O AZ;have M:=O BO;have AW:wr.heap.size<wr.heap.size+1:=U;have Nc:wr.heap.size+1<=T.heap.size:=CC.o.var.lt;generalize wr.heap.size+1=AS at *;have AQ:=CC.o.var.cell 0;have y:=CC.o.var.lt;simp only[CH,A8] at AQ;refine Cq ?_;intro K hK;go_at_call 229;go_call pI _ as e W1 ⟨gt,rfl,V,hb1⟩;refine hK _ _ W1 Yz (hb1.mono Nc) ?_;replace CC:=O Pr;replace C:=O (C.o.stay hb1);replace M:=O (M.o.stay hb1);have F:=O V;have AY:=F.o.lt;refine Cq ?_;intro K hK;go_at_call 224;go_call AG.o gt _ F.o as e W2 ⟨rfl,hb1⟩;refine hK _ _ W2 hb1.size hb1 ?_;replace CC:=O Pr;replace C:=O (C.o.stay hb1);replace M:=O (M.o.stay hb1);have Af:=CC.o.var.g1;have Bi:=CC.o.var.g2;have Bj:=CC.o.var.g3;have Bl:=CC.o.var.g4;have Ag:=CC.o.var.g5;have Bm:=CC.o.var.g6;have y:=CC.o.var.lt;unfold AR at Ag ⊢;refine Cq ?_;intro K hK;go_at_call 228;go_call Qa _ c.cond _ _ (AJ.o.after CC.o.box.AJ) C.o h2 as e W3 ⟨rfl,hb1⟩;refine Ru ?_;replace CC:=O Pr;replace M:=O (M.o.stay hb1);have B4:=CC.o.var.g7;have B6:=CC.o.var.g8;have B7:=CC.o.var.g9;have Be:=CC.o.var.cell 10;have A0:=CC.o.var.cell 11;have Bf:=CC.o.var.cell 12;have y:=CC.o.var.lt;simp only[CH,A8,Bt] at Be A0 Bf;unfold AR at A0;refine Cq ?_;intro K hK;go_at_call 228;go_call Qa _ c.pay _ _ (AJ.o.after CC.o.box.AJ) M.o AT as e BA ⟨rfl,hb1⟩;refine hK _ _ BA hb1.size hb1 ?_;have AC:=O Yx;refine HM ?_;exact Lu
    .skip
     obtain rfl:i=x.Ac.length:=U;have dl:decide ((x.Ac.length:Int)<(x.Ac.length:Int))=false:=AH;go_wp2_with fail;go_loopw [145] (λE wr=>∃i:Nat,E=.int .i64 (i:Int)/\i<=x.red.length/\DA B w wr x w (.slice X x.Ae.length n) (.slice Y x.Ad.length r) (.slice Z x.lets.length s) (.slice d x.Ac.length t) (.slice f x.red.length u)) (λE _=>x.red.length-(intOf E).toNat)
     case atStart=>exact⟨0,rfl,Az _,AC.o⟩
     case' round=>
      obtain⟨i,rfl,hi,Q⟩:=hrel;have AC:=O Q;obtain⟨b0,b1,b2,b3,b4,b5,Bw,Bv,hbl⟩:=AC.o.blk.BF
     by_cases hlt:i<x.red.length
     .skip
      have dl:=Ar i x.red.length;obtain⟨c,D⟩:=BQ x.red i hlt;obtain⟨N,h2⟩:=A'.o c (Bu D);obtain⟨g,P,AU⟩:=AC.o.lists.c5.Ch (λ_ _ q=>EO.len q) i c D;subst P;have L:=O D;obtain⟨AP,cV,AL⟩:=Xa F5 AD AD c.CN (bh N);have AG:=O AL;have Aa:(AP==[])=false:=gO;obtain⟨AE,v,R,A⟩:=AC.o.lists.c5.BT (λ_ _ q=>EO.len q) i c L.o;obtain⟨A1,rfl,S⟩:=R;obtain⟨x0,x1,x2,x3,Bk,I,J,H,rfl⟩:=S.BS;have C:=O S;obtain⟨AM,AO,AV,Ab,Ac,Ad,Ae⟩:=KJ A;have AX:=C.o;go_wp2_with fail;refine DB [0,3,8] [1,2,0,3,4,5,6,7,8,9,10] (wr.heap.size+1) AF AF rfl AD AF BK ?_;refine Ea ?_;refine Bn (λG=>P9 B w G x w _ _ _ _ _ wr 221 #[c.CN,x0,x1,x2,x3,AR Bk,.slice I J H]/\Ai (λg=>B<=g) G c.H5 [.int .i64 x0,.int .i64 x1,.int .i64 x2,.int .i64 x3,AR Bk,.slice I J H]) ⟨((AC.o.var 221 #[c.CN,x0,x1,x2,x3,AR Bk,.slice I J H]).below (AN _ _).drew),(AX.stay C8).stay (AN _ _).drew⟩ ?_;rintro T ⟨W,AZ⟩;have CC:=O W;have C:=O AZ;have AW:wr.heap.size<wr.heap.size+1:=U;have Nc:wr.heap.size+1<=T.heap.size:=CC.o.var.lt;generalize wr.heap.size+1=AS at *;have AQ:=CC.o.var.cell 0;have y:=CC.o.var.lt;simp only[CH,A8] at AQ;refine Cq ?_;intro K hK;go_at_call 229;go_call pI _ as e W1 ⟨gt,rfl,V,hb1⟩;refine hK _ _ W1 Yz (hb1.mono Nc) ?_;replace CC:=O Pr;replace C:=O (C.o.stay hb1);have F:=O V;have AY:=F.o.lt;refine Cq ?_;intro K hK;go_at_call 224;go_call AG.o gt _ F.o as e W2 ⟨rfl,hb1⟩;refine hK _ _ W2 hb1.size hb1 ?_;replace CC:=O Pr;replace C:=O (C.o.stay hb1);have Af:=CC.o.var.g1;have Bi:=CC.o.var.g2;have Bj:=CC.o.var.g3;have Bl:=CC.o.var.g4;have Ag:=CC.o.var.g5;have Bm:=CC.o.var.g6;have y:=CC.o.var.lt;unfold AR at Ag ⊢;refine Cq ?_;intro K hK;go_at_call 228;go_call Qa _ c.H5 _ _ (AJ.o.after CC.o.box.AJ) C.o h2 as e W3 ⟨rfl,hb1⟩;refine Ru ?_;have AC:=O Yx;refine HM ?_;exact Lu
     .exact YS
def ACh(B:Nat)(x:CL)(w:AA)(v:AB)(G:Cl w)(h:Dh B w x.A0 v)(f:KO x=true):
 AI 95 #[.agg #[AR x.name,x.cur,v]] w (Ca true w):=by
 obtain⟨d,AG,AJ,AM,AO,k⟩:=Sj f;obtain⟨a,c,rfl,AF⟩:=h.slice;have AC:=O (JQ.new (x:=x) h);have K:=O k;have H:=O G;have J:=O (λw=>bI x.name w d);have u:=A4 x.cur 1;have y:=A4 999 x.cur;have z:=A4 x.A0.length 1;have AD:=A4 6 x.A0.length;unfold AR at AC ⊢;obtain⟨M,N,P,X⟩:=AC.o.blk.y3;go_in;go_wp2_with (go_at_call 161;refine(J.o _).mono ?_;rintro AE Af ⟨rfl,rfl⟩)
 go_loopw [34] (λA wr=>∃i:Nat,A=.int .i64 (i:Int)/\i<=x.A0.length/\JQ B w wr x w (.slice a x.A0.length c)) (λA _=>x.A0.length-(intOf A).toNat)
 case atStart=>exact⟨0,rfl,Az _,AC.o⟩
 case round=>
  obtain⟨i,rfl,hi,Y⟩:=hrel;have AC:=O Y;unfold AR at AC;obtain⟨M,N,P,X⟩:=AC.o.blk.y3;by_cases hlt:i<x.A0.length
  .have dl:=Ar i x.A0.length;obtain⟨A,D⟩:=BQ x.A0 i hlt;obtain⟨g,W,AL⟩:=AS.Ch AC.o.A0 (λ_ _ E=>E.len) i A D;subst W;obtain⟨Ae,G,e,Z⟩:=AS.BT AC.o.A0 (λ_ _ E=>E.len) i A D;obtain⟨AZ,Aa,Ab,Ac,Ad,rfl,C⟩:=e;have L:=O (K.o A (Bu D));obtain⟨n,Q,rfl,_⟩:=C.c1.slice;obtain⟨q,R,rfl,_⟩:=C.c2.slice;obtain⟨r,S,rfl,_⟩:=C.c3.slice;obtain⟨s,T,rfl,_⟩:=C.c4.slice;obtain⟨t,V,rfl,_⟩:=C.c5.slice;obtain⟨AP,AQ,AT,AU,AV,AW,AX,AY⟩:=VN Z;have hal:Below wr wr (wr.alloc (.cells #[A.fr,A.mode,A.unit,.slice n A.Ae.length Q,.slice q A.Ad.length R,.slice r A.lets.length S,.slice s A.Ac.length T,.slice t A.red.length V] 151)):=(AN _ _).alloc AK _;have I:=O (C.below hal);have F:=O Hn;go_wp2_with fail;go_call ACa B A _ _ _ _ _ _ (H.o.after F.o.AJ) I.o L.o as en w3 ⟨rfl,hb1⟩;replace AC:=O (F.o.below hb1);exact Lu
  .exact rt
