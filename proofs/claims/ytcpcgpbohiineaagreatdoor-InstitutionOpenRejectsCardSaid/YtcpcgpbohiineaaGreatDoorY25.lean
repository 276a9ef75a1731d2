import Derived.Test.YtcpcgpbohiineaaGreatDoorY20
import Derived.Test.YtcpcgpbohiineaaGreatDoorY22
namespace Go.Proofs.YtcpcgpbohiineaaGreatDoor
open Go.RowKit Go.Proofs.Tryz
set_option linter.all false
set_option maxRecDepth 100000
set_option maxHeartbeats 4000000
section
open Go.Maps (Keyed)
variable{a b:AA}
section
variable {B:Nat} {w w':AA} {BO:Nat} {s:Int} {i:Ins} {g:Cs}
def Cr.feed{G:List Kd}{H:Int->Int->AB}(h:Cr B w BO s i g)(K:Dj w' g.Ak g.BU G H (g.c+1))(J:AP [g.BU] w w'):Cr B w' BO s ⟨G,i.a,i.last⟩ { g with V:=H,c:=g.c+1 }:=by
 have I:∀C E D,AG w C E D->C∉[g.BU]:=λC E D F=>by
  have:=F.IR h.fd.map.isMap;exact E_
 have A:=h.CK.kept J (λC E D F _=>I C E D F) (by simpa using Ne.symm h.fa) (λp L=>by simpa using (h.CK.mm p L).2);exact⟨h.blk.kept J (I _ _ _ h.blk),K,⟨A.map,A.acc,A.no,A.lo,A.ap,A.mm⟩,h.lo,h.fa⟩
def Cr.xi(A:Cr B w BO s i g)(D:AP [g.BU] w w'):Wr B w w':=⟨[g.BU],D,λI C=>by
 simp only[Aj,A',A_] at C;subst C;exact A.lo.2.2,λG H F E _=>by
 have:=E.IR A.fd.map.isMap;simpa using this⟩
def Cr.month(h:Cr B w BO s i g)(n:Int):Cr B (w.setCell ⟨BO,6,none⟩ n) BO s ⟨i.f,i.a,n⟩ g/\Wr B w (w.setCell ⟨BO,6,none⟩ n):=by
 have G:AP [BO] w (w.setCell ⟨BO,6,none⟩ n):=(AP.refl _ _).setCell AH _;have E:∀A D C,AG w A D C->D≠75->A∉[BO]:=λA D C hq ht hm=>by
  exact rG
 have F:∀b,(∃K I,w.heap[b]? = some (.map K I))->b∉[BO]:=λb hb hm=>by
  exact q8
 refine⟨⟨?_,h.fd.kept G (E _ _ _ h.fd.blk AD) (F _ h.fd.map.isMap) (λA C hq=>E _ _ _ hq AD),h.CK.kept G (λA D C hq ht=>E A D C hq Zx) (F _ h.CK.map.isMap) (λp L=>F _ (h.CK.acc p L).map.isMap),h.lo,h.fa⟩,[BO],G,λM H=>?_,λA D C hq ht=>E A D C hq (λJ=>ht (.inl J))⟩
 .have:=h.blk.put 6 n;simpa[Wo] using this
 .simp only[Aj,A',A_] at H;subst H;exact h.lo.1
def Cr.post{p:Nat}{Z:List A6}{Y:AB}(h:Cr B w BO s i g)(u:B<=w.heap.size)(N:g.has p=true)(ha:HR w' (g.ab p) (g.BV p) Y Z)(M:AP (g.ab p::g.BV p::EV (g.Ce p)) w w')(W:∀q,Y.ownBlock=some q->q∈EV (g.Ce p)\/w.heap.size<=q):
 Cr B w' BO s ⟨i.f,λq=>if q=p then Z else i.a q,i.last⟩ { g with Ce:=λq=>if q=p then Y else g.Ce q }/\Wr B w w':=by
 have H:=h.CK.acc p N;obtain⟨x,y,k⟩:=h.CK.lo.2 p N;have V:∀q,(g.Ce p).ownBlock=some q->∃G,AG w q 167 G:=λq C=>by
  obtain⟨AE,_,R⟩:=H.row;rcases R.2 with ⟨D,_⟩|⟨E,m,cur,D,_,A,_⟩
  .rw[D] at C;cases C
  .rw[D] at C;injection C with C;subst C;exact⟨_,A⟩
 have P:∀q J G,AG w q J G->J≠231->J≠167->q∉g.ab p::g.BV p::EV (g.Ce p):=λq J G C r t hm=>by
  rcases Aj.1 hm with rfl|hm
  .exact r (C.same H.blk)
  .rcases Aj.1 hm with rfl|hm
   .exact C.IR H.map.isMap rfl
   .obtain⟨c,L⟩:=V q R6;exact t (C.same L)
 have U:∀b,(∃o n,w.heap[b]? = some (.map o n))->b≠g.BV p->b∉g.ab p::g.BV p::EV (g.Ce p):=λb e Q hm=>by
  rcases Aj.1 hm with rfl|hm
  .exact H.blk.IR e rfl
  .rcases Aj.1 hm with rfl|hm
   .exact Q rfl
   .obtain⟨c,L⟩:=V b R6;exact L.IR e rfl
 have l:=h.CK.mm p N;refine⟨⟨h.blk.kept M (P _ _ _ h.blk AD AD),h.fd.kept M (P _ _ _ h.fd.blk AD AD) (U _ h.fd.map.isMap l.2.symm) (λq G C=>P _ _ _ C AD AD),⟨h.CK.map.keep (M.block _ h.CK.map.lt (U _ h.CK.map.isMap l.1.symm)),λq C=>?_,λq C=>?_,⟨h.CK.lo.1,λq C=>?_⟩,λq X C f Q=>?_,h.CK.mm⟩,h.lo,h.fa⟩,_,M,λE A=>?_,λq J G C j=>P q J G C (λD=>j (.inr (.inl D))) (λD=>j (.inr (.inr D)))⟩
 .by_cases D:q=p
  .subst D;simp only[CI];exact ha
  .simp only[AU D];have O:=h.CK.acc q C;obtain⟨S,T,K⟩:=h.CK.ap q p C N D;refine O.kept M (λhm=>?_) (U _ O.map.isMap T) (λE A hm=>?_)
   .rcases Aj.1 hm with hm|hm
    .exact S hm
    .rcases Aj.1 hm with hm|hm
     .exact O.blk.IR H.map.isMap hm
     .obtain⟨c,L⟩:=V _ R6;exact absurd (O.blk.same L) AD
   .obtain⟨AE,_,R⟩:=O.row;rcases Aj.1 hm with rfl|hm
    .rcases R.2 with ⟨D,_⟩|⟨AF,m,cur,D,_,v,_⟩
     .rw[D] at A;cases A
     .rw[D] at A;injection A with A;subst A;exact absurd (AG.same v H.blk) AD
    .rcases Aj.1 hm with rfl|hm
     .exact bX R H.map.isMap A.symm
     .exact K E A R6
 .have D:q≠p:=by rintro rfl;rw[N] at C;cases C
  simp only[AU D];exact h.CK.no q C
 .obtain⟨z,AA,AC⟩:=h.CK.lo.2 q C;refine⟨z,AA,λE A=>?_⟩;by_cases D:q=p
  .subst D;simp only[CI] at A;rcases W E A with F|F
   .exact k E (KY.1 F)
   .exact Ap u F
  .simp only[AU D] at A;exact AC E A
 .obtain⟨S,T,K⟩:=h.CK.ap q X C f Q;refine⟨S,T,λE A I=>?_⟩;by_cases D:q=p
  .subst D;simp only[CI,AU (Ne.symm Q)] at A I;rcases W E A with F|F
   .exact K E (KY.1 F) I
   .have:=(h.CK.acc X f).HU I;omega
  .simp only[AU D] at A;by_cases d:X=p
   .subst d;simp only[CI] at I;rcases W E I with F|F
    .exact K E A (KY.1 F)
    .have:=(h.CK.acc q C).HU A;omega
   .simp only[AU d] at I;exact K E A I
 .rcases Aj.1 A with rfl|A
  .exact x
  .rcases Aj.1 A with rfl|A
   .exact y
   .exact k E (KY.1 A)
end
def Wr.trans{B:Nat}{c:AA}(I:Wr B a b)(M:∀q t cs,AG a q t cs->¬Wp t->AG b q t cs)(k:Wr B b c):Wr B a c:=by
 obtain⟨G,J,K,L⟩:=I;obtain⟨H,N,O,P⟩:=k;refine⟨G++H,(J.wide (λ_ A=>List.mem_append_left _ A)).trans (N.wide (λ_ A=>List.mem_append_right _ A)),λF C=>?_,λq t cs E D A=>?_⟩
 .rcases E1.1 C with C|C
  .exact K F C
  .exact O F C
 .rcases E1.1 A with A|A
  .exact L q t cs E D A
  .exact P q t cs (M q t cs E D) D A
def Wr.blk{B:Nat}(C:Wr B a b){q:Nat}{t:TypeId}{cs:Array AB}(A:AG a q t cs)(F:¬Wp t):AG b q t cs:=by
 obtain⟨G,D,_,E⟩:=C;exact A.kept D (E q t cs A F)
def Wr.then{B:Nat}{c:AA}(A:Wr B a b)(k:Wr B b c):Wr B a c:=A.trans (λ_ _ _ C D=>A.blk C D) k
def Sk{B A D n C:Nat}{w:AA}{l:AE}(h:Af B w (.slice (some ⟨A,D,none⟩) n C) l)(E:l.length=n)(k m:Nat)(F:k+m=n):Af B w (.slice (some ⟨A,D+k,none⟩) m (C-k)) (l.drop k):=by
 subst E;have:=h.sub (n:=k) (k:=m) U;rwa [HB AM] at this
def bj{r:AE}{k:Nat}{y:UInt8}(C:r[k]? = some y):AQ ((r.drop k).take 1)=(y.toNat:Int):=by
 obtain⟨D,rfl⟩:=Cd.1 C;have A:(r.drop k).take 1=[r[k]]:=by rw[Kk D];rfl
 rw[A];simp[AQ]
end
section
open Go.Maps (Keyed)
variable{r:AE}{w':AA}
def K7(B:Nat)(C:Nat)(s:Int)(i:Ins)(g:Cs)(r:AE)(w:AA)(e:Ending)(w':AA):Prop:=
 match CO i r with
 | some D=>e=.returned ()/\∃A,Cr B w' C s D A/\A.n<=g.n+1/\A.c<=g.c+1/\Wr B w w'/\(r.head? = some 1->A.A1=g.A1/\A.t1=g.t1/\A.t2=g.t2/\A.t3=g.t3)
 | none=>(∃c,c≠0/\e=.returned (.int .i64 c))/\Wr B w w'
def Tt{B D:Nat}{s:Int}{i:Ins}{g:Cs}{w:AA}{c:Int}(A:CO i r=none)(C:c≠0)(hw:Wr B w w'):K7 B D s i g r w (.returned c) w':=by
 unfold K7;rw[A];exact⟨⟨c,C,rfl⟩,hw⟩
def cS{B C:Nat}{s:Int}{i j:Ins}{g A:Cs}{w:AA}(D:CO i r=some j)(E:Cr B w' C s j A)(H:A.n<=g.n+1)(F:A.c<=g.c+1)(hw:Wr B w w')(G:r.head? = some 1->A.A1=g.A1/\A.t1=g.t1/\A.t2=g.t2/\A.t3=g.t3:=by exact λ_=>⟨rfl,rfl,rfl,rfl⟩):K7 B C s i g r w (.returned ()) w':=by
 unfold K7;rw[D];exact⟨rfl,A,E,H,F,hw,G⟩
def AKC{w:AA}{D o b:Nat}{u:AB}(E:w.cell? ⟨D,o,none⟩=some u)(A:∃C B,w.heap[b]? = some (.map C B)):D≠b:=by
 rintro rfl;obtain⟨C,B,A⟩:=A;simp[World.cell?,A] at E
def AG'(B:Nat)(w:AA)(G:Nat)(s:Int)(i:Ins)(g:Cs)(l o n m k:Nat)(b:AE)(h:Cr B w G s i g)(AM:B<=w.heap.size)(X:IA i k)(AQ:g.c<=20000)(T:Af w w (.slice (some ⟨l,o,none⟩) n m) (1::b))(F:b.length+1=n)(AL:2<=n)(AR:n<=400):
 AI 26 #[.pointer G,.slice (some ⟨l,o,none⟩) n m] w (K7 B G s i g (1::b) w):=by
 have f:=Sk T F 1 (n-1) U;obtain⟨_,_,AB,Y,j⟩:=id T;injection AB with e1 e2 e3;subst e1 e3;clear e2;obtain⟨_,_,D,AS,Z⟩:=j AH;injection D with D;injection D with e4 e5;subst e4 e5;have W:=Z 0 1 rfl;rw[Ci] at W;have x:=O f;have Ag:=O h;have u:=O X;have AC:=O F;simp only[CB] at Y;rw[F] at Y;have AO:b.length<=400:=U;have AJ:=Ar 1 n;clear T j Z h X f F;obtain⟨J,K,L,M,N,P,Q,R,S⟩:=Ag.o.blk.BF;clear J K L M R;go_in;go_wp2_with fail;clear W;refine QE [g.BU] [6] [0,1,2,3,4,5,6,7] AF AF rfl (by decide) AF (λ_ _ _ _ _ h=>h) ?_;refine Hm ?_;replace Ag:=O Ys;have C:=O Yr;have AT:w.heap.size=w.drew.heap.size:=rfl;generalize w.drew=AG at *;clear N P Q S;obtain⟨J,K,L,M,N,P,Q,R,S⟩:=Ag.o.blk.BF;clear J K L M R;have e:G≠g.BU:=Ag.o.blk.IR Ag.o.fd.map.isMap;iterate 6 refine Fk ?_
 refine J6 ?_;intro V hK;go_simp;go_at_call 61;refine(AEQ _ g.Ak g.BU i.f g.V g.c _ b Ag.o.fd u.o.Oi ((x.o.below C.o).mono C.o.size) U U).mono ?_;intro D w' A;unfold SR at A;clear N P Q S;cases hadd:Dr i.f b with
 | none=>
  rw[hadd] at A;obtain⟨⟨AU,d,rfl⟩,hb⟩:=A;have H:Hid (CO i (1::b)=none):=Zj;have v:=O d;have I:=O (Wr.of_below (B:=B) (AW C.o hb));refine FT ?_;clear hK V hadd d hb Ag e;refine fJ ?_;go_wp2_with fail;go_ret;exact Tt H.o v.o I.o
 | some y=>
  rw[hadd] at A;obtain⟨rfl,AD,c,E⟩:=A;have H:Hid (CO i (1::b)=some ⟨y,i.a,i.last⟩):=Zj;have t:=O (Ag.o.feed c E);have I:=O ((Wr.of_below C.o).then (Ag.o.xi E));refine hK _ _ E ?_;clear hK V hadd Ag e c E;refine fJ ?_;go_wp2_with fail;go_ret;exact cS H.o t.o Up AK I.o
end
section
open Go.Maps (Keyed)
def AG_(B:Nat)(w:AA)(u:Nat)(s:Int)(i:Ins)(g:Cs)(K v A7 k:Nat)(b:AE)(h:Cr B w u s i g)(Bf:B<=w.heap.size)(Av:IA i k)(Bh:k<=20000)(Bg:g.n<=20000)(R:Af w w (.slice (some ⟨K,v,none⟩) 13 A7) (2::b))(hn:b.length=12):
 AI 26 #[.pointer u,.slice (some ⟨K,v,none⟩) 13 A7] w (K7 B u s i g (2::b) w):=by
 have J:(2::b).length=13:=by simp[hn]
 obtain⟨_,_,BW,BV,S⟩:=id R;injection BW with e1 e2 e3;subst e1 e3;obtain⟨_,_,A,AS,P⟩:=S AH;injection A with A;injection A with e4 e5;subst e4 e5;rw[J] at BV;obtain⟨H,AV⟩:∃T,(2::b)[1]? = some T:=⟨_,BL U⟩;obtain⟨x,AX⟩:∃T,(2::b)[4]? = some T:=⟨_,BL U⟩;obtain⟨y,AY⟩:∃T,(2::b)[5]? = some T:=⟨_,BL U⟩;have Am:=P 0 2 rfl;have BT:=P 1 H AV;have j:=P 4 x AX;have AJ:=P 5 y AY;rw[Ci] at Am;have Ay:I1 (2::b)=⟨AQ (((2::b).drop 2).take 2),(x.toNat:Int),(y.toNat:Int),AQ (((2::b).drop 6).take 2),AQ ((2::b).drop 8)⟩:=by
  unfold I1;rw[bj AX,bj AY]
 have A2:Gb (2::b)=H.toNat:=by unfold Gb;rw[bj AV];simp
 have N:CO i (2::b)=if 1<=H.toNat/\H.toNat<=99 then (EI (i.a H.toNat) (I1 (2::b))).map (λAZ=>⟨i.f,λp=>if p=H.toNat then AZ else i.a p,i.last⟩) else none:=by
  rw[Xk,IZ,A2];simp[hn]
 have D:=O N;have M:=O Ay;have L:=O (np J);have c:=O (Sk R J 2 11 U);have d:=O (Sk R J 6 7 U);have e:=O (Sk R J 8 5 U);have X:Hid (2<=((2::b).drop 2).length):=Zf;have Y:Hid (2<=((2::b).drop 6).length):=Zf;have Z:Hid (((2::b).drop 8).length<=6):=Zf;have Ba:=E5 H;have A9:=E5 x;have BA:=E5 y;have Ag:=O h;have Ae:=O Av;clear R S P h Av AV AX AY Ay A2 N e2 J hn;have BC:Hid ((2::b).head? = some 1->False):=by
  show(2::b).head? = some 1->False;simp
 generalize 2::b=F at *;generalize H.toNat=p at *;generalize x.toNat=Aa at *;generalize y.toNat=Ac at *;obtain⟨BJ,BK,BM,BN,BO,BP,BQ,BR,BS⟩:=Ag.o.blk.BF;clear BJ BK BM BN BR;by_cases AL:p<1
 .have AK:=Ar p 1;have An:Hid (CO i F=none):=by show _=_;rw[D.o,AU U]
  clear D M L c d e X Y Z AL;exact qb
 .by_cases Aq:99<p
  .have AK:=A4 p 1;have Ao:=Ar 99 p;have An:Hid (CO i F=none):=by show _=_;rw[D.o,AU U]
   clear D M L c d e X Y Z AL Aq;exact qb
  .have AK:=A4 p 1;have Ao:=A4 99 p;have An:Hid (CO i F=(EI (i.a p) (I1 F)).map (λAZ=>⟨i.f,λq=>if q=p then AZ else i.a q,i.last⟩)):=by show _=_;rw[D.o,Ab U]
   have Bi:p<=99:=U;clear D AL Aq;go_in;go_wp2_with fail;clear Am BT AK Ao Ba;have A1:=AKC j Ag.o.CK.map.isMap;refine MB ([g.am]) [2,5,16,19] [0,1,3,4,6,7,8,9,10,11,12,13,14,15,17,18,2,5,16,19,20] [21,22] (Fr 21 2) AF AF rfl (by decide) (by decide) AF AF AF (λ_ _ _ _ _ h=>h) ?_;refine Pn ?_;replace Ag:=O Ys;have E:=O Yr;replace j:w.drew.cell? ⟨K,v+4,none⟩=some (.int .u8 (Aa:Int)):=j;replace AJ:w.drew.cell? ⟨K,v+5,none⟩=some (.int .u8 (Ac:Int)):=AJ;replace AS:K<w.drew.heap.size:=AS;have t:w.heap.size=w.drew.heap.size:=rfl;generalize w.drew=BH at *;clear BO BP BQ BS;iterate 16 refine H' ?_
   have BE:=O A9;have BF:=O BA;clear j AJ A9 BA;refine FU ?_;intro I C;go_simp;go_at_call 62;refine(AES B BH u s i g p Ag.o U U U).mono ?_;rintro A f ⟨Be,rfl,Az,Aw,BY,BX,G⟩;refine C _ _ G ?_;clear C I;have r:∀o:Nat,∀AG:Addr,some (⟨K,o,none⟩:Addr)=some AG->AG.block∉[g.am]:=λo AG A=>by
    injection A with A;subst A;simpa using A1
   have Ah:=O ((c.o.below E.o).Ta G E.o.size (r _));have Ai:=O ((d.o.below E.o).Ta G E.o.size (r _));have Ak:=O ((e.o.below E.o).Ta G E.o.size (r _));have AT:w.heap.size<=f.heap.size:=Ap E.o.size G.size;have Au:B<=f.heap.size:=by have:=G.size;omega
   have W:Hid (Wr B w f):=(Wr.of_below E.o).then ⟨[g.am],G,(λBl S=>by
    simp only[Aj,A',A_] at S;subst S;exact Ag.o.CK.lo.1),λq Bj Bd BZ _=>by
    have:=BZ.IR Ag.o.CK.map.isMap;simpa using this⟩
   replace Ag:=O Aw;have Ad:=O Az;clear c d e r G Aw Az A1 E t AS;refine FU ?_;intro I C;go_simp;go_at_call 64;refine(VY _ _ _ f Ah.o X.o).mono ?_;rintro A BI ⟨rfl,hb2⟩;refine C _ _ R5 ?_;clear C I Ah X;refine FU ?_;intro I C;go_simp;go_at_call 64;refine(VY _ _ _ BI (Ai.o.below (hb2.mono AT)) Y.o).mono ?_;rintro A AD ⟨rfl,l⟩;refine C _ _ (AP.of_below l) ?_;clear C I Ai Y;refine FU ?_;intro I C;go_simp;go_at_call 65;refine(AHB _ _ _ AD ((Ak.o.below (hb2.mono AT)).below (l.mono (Ap AT hb2.size))) Z.o).mono ?_;rintro A Bb ⟨rfl,rfl⟩;refine C _ _ OB ?_;clear C I Ak Z;have V:=O (AW hb2 l);clear hb2 l;obtain⟨A5,AO⟩:∃z,z=AQ ((F.drop 2).take 2):=⟨_,rfl⟩;obtain⟨A6,AR⟩:∃z,z=AQ ((F.drop 6).take 2):=⟨_,rfl⟩;obtain⟨Al,AM⟩:∃z,z=AQ (F.drop 8):=⟨_,rfl⟩;rw[<-AO,<-AR,<-AM];rw[<-AO,<-AR,<-AM] at M;rw[M.o] at An L;clear AO AR AM;iterate 1 refine H' ?_
   refine KT ?_;replace Ag:=O (Ag.o.below V.o);replace W:=O (W.o.then (Wr.of_below V.o));have BU:B<=AD.heap.size:=Ap Au V.o.size;have D:=O (ADI AD _ _ _ _ ⟨A5,(Aa:Int),(Ac:Int),A6,Al⟩ (Ag.o.CK.acc p Ad.o) (Ae.o.RP p) L.o (by have:=Ae.o.al p;omega));clear L M V Au;go_wp2_with fail;rw[BE.o,BF.o];refine D.o.mono ?_;intro A Bc Q;unfold Ry at Q;cases hadd:EI (i.a p) ⟨A5,(Aa:Int),(Ac:Int),A6,Al⟩ with
   | none=>
    rw[hadd] at Q;obtain⟨⟨z,t,rfl⟩,Ax⟩:=Q;have AB:Hid (CO i F=none):=vn;have BG:=O t;have AC:=O (W.o.then (Wr.of_below Ax));clear hadd t Ax Ag D An;go_wp2_with fail;go_ret;exact Tt AB.o BG.o AC.o
   | some BB=>
    rw[hadd] at Q;obtain⟨rfl,Bk,N,A0,A3⟩:=Q;have AB:Hid (CO i F=some ⟨i.f,λq=>if q=p then BB else i.a q,i.last⟩):=vn;obtain⟨As,At⟩:=Ag.o.post BU Ad.o N A0 A3;have BD:=O As;have AC:=O (W.o.then At);clear hadd Ag D An N A0 A3 As At;go_wp2_with fail;go_ret;exact cS AB.o BD.o BY (by rw[BX];omega) AC.o (λh=>(BC.o h).elim)
end
def bb{a b:Bool}(A:(a&&b)=false):a=false\/a=true/\b=false:=by cases a<;>cases b<;>simp_all
def AHA(w:AA)(Q I K n J:Nat)(t:UInt8)(b:AE)(G:Af w w (.slice (some ⟨I,K,none⟩) n J) (t::b))(F:b.length+1=n)
 (A:(decide ((1:Int)<(n:Int))&&((t.toNat:Int)==1))=false)(B:(((n:Int)==13)&&((t.toNat:Int)==2))=false)(C:(((n:Int)==3)&&((t.toNat:Int)==3))=false):
 AI 26 #[.pointer Q,.slice (some ⟨I,K,none⟩) n J] w (BX (.int .i64 11) w):=by
 obtain⟨_,_,P,D,H⟩:=id G;injection P with e1 e2 e3;subst e1 e3;clear e2;obtain⟨_,_,e,W,E⟩:=H AH;injection e with e;injection e with e4 e5;subst e4 e5;have O:=E 0 t rfl;rw[Ci] at O;simp only[CB] at D;rw[F] at D;have V:0<n:=U;clear G H E F;generalize t.toNat=X at *;rcases bb A with L|⟨L,R⟩<;>rcases bb B with M|⟨M,S⟩<;>rcases bb C with N|⟨N,T⟩
 all_goals
  clear A B C;go_in;go_wp2_with fail;go_ret;exact⟨rfl,rfl⟩
def AG9(B:Nat)(w:AA)(X:Nat)(s:Int)(i:Ins)(g:Cs)(m o n:Nat)(b:AE)(h:Cr B w X s i g)(W:Af w w (.slice (some ⟨m,o,none⟩) 3 n) (3::b))(hn:b.length=2):
 AI 26 #[.pointer X,.slice (some ⟨m,o,none⟩) 3 n] w (K7 B X s i g (3::b) w):=by
 have V:(3::b).length=3:=by simp[hn]
 obtain⟨_,_,y,x,k⟩:=id W;injection y with e1 e2 e3;subst e1 e3;clear e2;obtain⟨_,_,K,AB,j⟩:=k AH;injection K with K;injection K with e4 e5;subst e4 e5;rw[V] at x;have f:=j 0 3 rfl;rw[Ci] at f;have R:CO i (3::b)=if AQ b<=2399 then some ⟨i.f,i.a,AQ b⟩ else none:=by rw[Xj];simp[hn]
 have e:=O (Sk W V 1 2 U);have d:Hid (2<=((3::b).drop 1).length):=Zf;have a:Hid (((3::b).drop 1).take 2=b):=by show _=_;simp only[Qz,Nh];exact HB U
 obtain⟨A,T⟩:∃A,A=AQ b:=⟨_,rfl⟩;have Z:=O T;have v:=Ou b U;rw[<-T] at v R;clear T;have L:=O R;have Ag:=O h;clear W k j h R V hn;generalize 3::b=l at *;obtain⟨D,E,F,G,H,I,M,J,P⟩:=Ag.o.blk.BF;have N:=Ag.o.blk.frozen 6;clear D E F G H I J;go_in;go_wp2_with fail;refine(VY _ _ _ w e.o d.o).mono ?_;rintro K t ⟨rfl,hb2⟩;rw[a.o,<-Z.o];have Y:=O hb2;replace Ag:=O Yp;have r:=O (e.o.below hb2);clear M P N;obtain⟨D,E,F,G,H,I,M,J,P⟩:=Ag.o.blk.BF;have N:=Ag.o.blk.frozen 6;clear D E F G H I J hb2 f;by_cases C:A<=2399
 .have Q:Hid (CO i l=some ⟨i.f,i.a,A⟩):=by show _=_;rw[L.o,Ab C]
  have u:decide (A<=2399)=true:=CA C;clear L C;go_wp2_with fail;refine(VY _ _ _ t r.o d.o).mono ?_;rintro K z ⟨rfl,S⟩;rw[a.o,<-Z.o];replace Ag:=O (Ag.o.below S);have q:=O (Wr.of_below (B:=B) (AW Y.o S));clear M P N;obtain⟨D,E,F,G,H,I,M,J,P⟩:=Ag.o.blk.BF;have N:=Ag.o.blk.frozen 6;have c:=O (Ag.o.month A);clear D E F G H I J S;go_wp2_with fail;go_ret;exact cS Q.o c.o.1 Up Up (q.o.then c.o.2)
 .have Q:Hid (CO i l=none):=by show _=_;rw[L.o,AU C]
  have u:decide (A<=2399)=false:=DI C;clear L C;go_wp2_with fail;go_ret;exact Tt Q.o AD (Wr.of_below Y.o)
def nA(B:Nat)(w:AA)(E:Nat)(s:Int)(i:Ins)(g:Cs)(k:Nat)(v:AB)(r:AE)(h:Cr B w E s i g)(S:B<=w.heap.size)(T:IA i k)(c:k<=20000)(b:g.n<=20000)(a:g.c<=20000)(G:Af w w v r)(Q:1<=r.length)(R:r.length<=400):
 AI 26 #[.pointer E,v] w (K7 B E s i g r w):=by
 obtain⟨A,C,rfl⟩:∃A C,r=A::C:=by cases r with|nil=>simp at Q|cons A C=>exact⟨A,C,rfl⟩
 obtain⟨j,J,rfl,m,f⟩:=id G;obtain⟨I,K,rfl,_⟩:=f AH;obtain⟨D,hn⟩:∃D,C.length+1=D:=⟨_,rfl⟩;have d:(A::C).length=D:=gY;rw[d] at G Q R ⊢;have M:∀H:Nat,H<256->A≠UInt8.ofNat H->((A.toNat:Int)==(H:Int))=false:=λH l e=>Aw.2 (λL=>e (by
  have Y:A.toNat=H:=U;rw[<-Y];simp))
 have no:CO i (A::C)=none->(decide ((1:Int)<(D:Int))&&((A.toNat:Int)==1))=false->(((D:Int)==13)&&((A.toNat:Int)==2))=false->(((D:Int)==3)&&((A.toNat:Int)==3))=false->
  AI 26 #[.pointer E,.slice (some ⟨I,K,none⟩) D J] w (K7 B E s i g (A::C) w):=λZ V W X=>(AHA w E I K D J A C G hn V W X).mono (by
  rintro L n ⟨rfl,rfl⟩;exact Tt Z AD (Wr.of_below DL))
 by_cases N:A=1
 .subst N;by_cases F:C=[]
  .subst F;obtain rfl:D=1:=by simpa using hn.symm
   exact no (by rw[d_,eD (by simp[CR])];rfl) AH AH AH
  .have:C.length≠0:=λL=>F (Jw L);exact AG' B w E s i g I K D J k C h S T a G hn U R
 .by_cases O:A=2
  .subst O;by_cases F:C.length=12
   .obtain rfl:D=13:=U;exact AG_ B w E s i g I K J k C h S T c b G F
   .exact no (by rw[Xk,IZ];simp[F]) AH AM AH
  .by_cases P:A=3
   .subst P;by_cases F:C.length=2
    .obtain rfl:D=3:=U;exact AG9 B w E s i g I K J C h G F
    .exact no (by rw[Xj];simp[F]) AH AH AM
   .exact no (by simp[CO,N,O,P]) (by rw[show((A.toNat:Int)==1)=false from M 1 U N];simp) (by rw[show((A.toNat:Int)==2)=false from M 2 U O];simp) (by rw[show((A.toNat:Int)==3)=false from M 3 U P];simp)
