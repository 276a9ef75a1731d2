import Derived.Test.YtcpcgpbohiineaaGreatDoorY17
import Derived.Test.YtcpcgpbohiineaaGreatDoorY18
namespace Go.Proofs.YtcpcgpbohiineaaGreatDoor
open Go.RowKit Go.Proofs.Tryz
set_option linter.all false
set_option maxRecDepth 100000
set_option maxHeartbeats 4000000
def AD4(t:AE)(d:Int)(w:AA)(D:1<=d)(E:d<=4):AI 311 #[.agg #[.string ⟨t.toArray⟩,d]] w (Ca false w):=by
 have B:=A4 d 1;have C:=A4 4 d;have A:Below w w (w.alloc (.cells #[.string ⟨t.toArray⟩,d] 326)):=(AN _ _).alloc AK _;go_in;go_wp2_with fail;go_ret;exact⟨rfl,A⟩
def ADY(B:Nat)(A:Env)(D:BH)(E:Nat)(N:Hq A)(w:AA):fe (λW=>Below w w W/\CQ B W A (.slice D A.length E)) D A.length E:=by
 rintro W ⟨J,F⟩ i P;obtain⟨C,H⟩:=BQ A i P;obtain⟨I,M,Q,O,R,S⟩:=F.cells i C H;obtain⟨K,L⟩:=N C (Bu H);refine⟨I,_,_,M,Q,O,R,S,(AD4 C.1 C.2 W K L).mono ?_⟩;rintro T U ⟨rfl,G⟩;exact⟨rfl,AW J G,F.below G⟩
def lV(P:Nat->Prop)(B:Nat)(A:Env)(v:AB)(G:A.length<=1000)(L:Hq A)(e:AY)(x:Int)(w:AA)(C:List AB)(F:Cl w)(he:CQ B w A v)(h:Ai P w e C)(hv:e.BY=true)(N:C5 A e=some x):
 AI 234 #[.agg C.toArray,v] w (Pm x w):=by
 obtain⟨D,E,rfl,_⟩:=AS.slice he;have Ag:=O (λw C he h=>AD3 P B A D E G e x w C he h xS N);have J:=O (λw C F h=>Qa P e w C F h hv);have H:=O (λw K=>AKB _ D A.length E (ADY B A D E L w) G w K);obtain⟨Q,R,S,T,U,W,X,V,rfl⟩:=h.BS;have AC:=O (Bd.new h);have Aq:=O R4;have I:=O (F.after AC.o.AJ);obtain⟨b0,b1,b2,b3,b4,b5,hbl⟩:=AC.o.blk.y6;go_in;go_wp2_with fail;go_call J.o _ _ I.o AC.o.tree as en w1 ⟨rfl,hb1⟩;replace AC:=O Bg;replace Aq:=O Ik;go_wp2_with fail;go_call H.o _ ⟨AN _ _,Aq.o⟩ as en w2 ⟨rfl,hb1,M⟩;replace AC:=O Bg;replace Aq:=O M;obtain⟨b0,b1,b2,b3,b4,b5,hbl⟩:=AC.o.blk.y6;exact r9
def ADy(s:AE)(w:AA)(A:Cl w)(C:FJ s=true):AI 231 #[.string ⟨s.toArray⟩] w (Ca true w):=by
 have D:(AY.name s).BY=true:=by
  unfold AY.BY;simp[AY.depth,AY.size,AY.DG,C]
 have B:Hid (∀w,Cl w->AI 228 #[.agg #[.int .i64 2,(),(),(),.string ⟨s.toArray⟩,AL]] w (Ca true w)):=λw A=>Qa (λ_=>False) (AY.name s) w _ A ZB D;go_in;go_wp2_with fail;refine(B.o _ A).mono ?_;exact ee
def ADR(P:Nat->Prop)(B:Nat)(A:Env)(v:AB)(I:A.length<=1000)(H:Hq A)(e:AY)(x:Int)(w:AA)(C:List AB)(D:Cl w)(he:CQ B w A v)(h:Ai P w e C)(J:Dk A e x=true):
 AI 168 #[.agg C.toArray,v,x] w (Yq w):=by
 obtain⟨K,L⟩:=l7 J;have G:=O (λw C D he h=>lV P B A v I H e x w C D he h K L);obtain⟨M,N,rfl,_⟩:=AS.slice he;obtain⟨R,S,T,U,V,X,Y,W,rfl⟩:=h.BS;have AC:=O (Bd.new h);have E:=O R4;have F:=O (D.after AC.o.AJ);obtain⟨b0,b1,b2,b3,b4,b5,hbl⟩:=AC.o.blk.y6;have Q:(x==x)=true:=AH;go_in;go_wp2_with fail;go_call G.o _ _ F.o E.o AC.o.tree as en w1 ⟨rfl,hb1⟩;exact UQ
def ADo(t s:AE)(d:Int)(b:Nat)(C D E F G H:AB)(w:AA)(A:AG w b 215 #[.string ⟨s.toArray⟩,C,D,E,F,G,H])(J:(t==s)=false):AI 233 #[.agg #[.string ⟨t.toArray⟩,d],.pointer b] w (Ca false w):=by
 have I:=A.lt;have B:=A.cell 0;simp only[CH,A8] at B;have hal:Below w w (w.alloc (.cells #[.string ⟨t.toArray⟩,d] 326)):=(AN _ _).alloc AK _;exact UO
def ADX(B:Nat)(A:Env)(E:BH)(F:Nat)(s:AE)(V:A.any (λp=>p.1==s)=false)(b:Nat)(I J K L M N:AB)(w:AA)(a:b<w.heap.size):fc (.pointer b) (λW=>Below w w W/\CQ B W A (.slice E A.length F)/\AG W b 215 #[.string ⟨s.toArray⟩,I,J,K,L,M,N]) E A.length F:=by
 rintro W ⟨P,G,C⟩ i S;obtain⟨p,H⟩:=BQ A i S;obtain⟨O,Q,T,R,X,Y⟩:=G.cells i p H;have U:(p.1==s)=false:=by
  cases h:p.1==s with
  | false=>rfl
  | true=>
   have:A.any (λp=>p.1==s)=true:=Nl.2 ⟨p,Bu H,h⟩;rw[V] at this;cases this
 refine⟨O,_,_,Q,T,R,X,Y,(ADo p.1 s p.2 b I J K L M N W C U).mono ?_⟩;rintro Z c ⟨rfl,D⟩;exact⟨rfl,AW P D,G.below D,C.below D C.lt⟩
def ADn(B:Nat)(l:List Fm)(env:Env)(w:AA)(v:AB)(Q:Cl w)(h:AS B w 215 7 (D9 (λg=>B<=g) w) l v)(AR:l.length<=10)(F:G5 l []=some env):
 AI 163 #[v] w (vQ env w):=by
 obtain⟨a,S,rfl,AT⟩:=h.slice;have AC:Hid (K2 B w w l (.slice a l.length S)):=⟨AN _ _,h⟩;have A2:=O F;have AQ:=A4 10 l.length;have M:=O Q;go_in;go_wp2_with fail;go_loopw [4,16] (λAO L wr=>∃(i:Nat) (CZ:Env),L=.int .i64 (i:Int)/\i<=l.length/\K2 B w wr l (.slice a l.length S)/\CQ w wr CZ AO/\Hid (G5 (l.drop i) CZ=some env)/\Hid (CZ.map (·.1)=(l.take i).map (·.name))/\Hid (Hq CZ)/\Hid (CZ.length=i)) (λ_ L _=>l.length-(intOf L).toNat)
 case atStart=>exact⟨0,[],rfl,Az _,AC.o,AS.mt,A2.o,rfl,O Y2,rfl⟩
 case round=>
  obtain⟨i,CZ,rfl,hi,A,P,A2,An,U6,ZL⟩:=hrel;have AC:=O A;have Aq:=O P;obtain⟨T,V,rfl,AW⟩:=AS.slice P;by_cases hlt:i<l.length
  .have dl:=Ar i l.length;obtain⟨c,hc⟩:=BQ l i hlt;have k:l.drop i=c::l.drop (i+1):=by
    exact qy
   have F:=A2.o;rw[k] at F;obtain⟨r,s,t,u,d,y,z⟩:=WS F;have W:=O r;have X:=O s;have Y:=O t;have Yw:=O u;have Yv:=O y;have vL:=O z;obtain⟨g,Z,AU⟩:=AC.o.ls.Ch (λ_ _ G=>D9.len G) i c hc;subst Z;have HC:=O hc;obtain⟨AX,Q,q,f⟩:=AC.o.ls.BT (λ_ _ G=>D9.len G) i c HC.o;obtain⟨Aa,rfl,R⟩:=q;obtain⟨x0,x1,x2,x3,Bk,J,K,I,rfl⟩:=R.BS;have C:=O R;obtain⟨E,AD,AE,AF,AJ,AL,AM⟩:=KJ f;go_wp2_with fail;have hal:Below wr wr (wr.alloc (.cells #[.string ⟨c.name.toArray⟩,x0,x1,x2,x3,.string ⟨Bk.toArray⟩,.slice J K I] 215)):=(AN _ _).alloc AK _;have A:=AG.new wr 215 #[.string ⟨c.name.toArray⟩,x0,x1,x2,x3,.string ⟨Bk.toArray⟩,.slice J K I];replace AC:=O Hn;replace Aq:=O Uq;replace C:=O (C.o.stay hal);generalize wr.alloc (.cells #[.string ⟨c.name.toArray⟩,x0,x1,x2,x3,.string ⟨Bk.toArray⟩,.slice J K I] 215)=AP at *;generalize wr.heap.size=b at *;have D:=A.lt;have E:=A.cell 0;simp only[CH,A8] at E;refine(bJ c.name _).mono ?_;unfold L3;rw[W.o];rintro N H ⟨rfl,rfl⟩;go_wp2_with fail;go_call ADy c.name _ (M.o.after AC.o.AJ) X.o as N H ⟨rfl,hb1⟩;replace AC:=O Bg;replace Aq:=O Ik;replace C:=O (C.o.stay hb1);replace A:=A.below hb1 D;replace D:=A.lt;go_wp2_with fail;go_call AKA _ _ T CZ.length V (ADX w CZ T V c.name Y.o b _ _ _ _ _ _ H D) VD H ⟨AN _ _,Aq.o,A⟩ as N w2 ⟨rfl,hb1,n,e⟩;replace AC:=O Bg;replace Aq:=O n;replace C:=O (C.o.stay hb1);have A:=e;have D:=A.lt;obtain⟨E,AD,AE,AF,AJ,AL,AM,_⟩:=A.ST;go_wp2_with fail;go_call lV _ w CZ _ VD U6.o c.body d _ _ (M.o.after AC.o.AJ) Aq.o C.o Yw.o Yv.o as en w3 ⟨rfl,hb3⟩;replace AC:=O fp;replace Aq:=O (Aq.o.below hb3);replace A:=A.below hb3 D;replace D:=A.lt;have E:=A.cell 0;simp only[CH,A8] at E;obtain⟨us,GF,hown⟩:=Aq.o;have AV:=AC.o.AJ.size;exact tn
  .exact sq
def ACe(n m:Int)(B D:AB)(b:Nat)(w:AA)(A:AG w b 206 #[m,D])(F:(n==m)=false):AI 165 #[.agg #[n,B],.pointer b] w (Ca false w):=by
 have E:=A.lt;have C:=A.cell 0;simp only[CH,A8] at C;have hal:Below w w (w.alloc (.cells #[n,B] 206)):=(AN _ _).alloc AK _;exact UO
def ADW(B:Nat)(L:AA)(x:Ah)(E g n i c:Nat)(I V X Y Z:AB)(m:Int)(J:AB)(b:Nat)(w:AA)(S:I=.slice g n c)(O:i<=c)(e:E<w.heap.size)(f:b<w.heap.size)(j:i<=x.Ae.length)(P:∀(k:Nat) (a:M7),k<i->x.Ae[k]? = some a->(a.kind==m)=false):
 fb (.pointer b) (λW=>Below w w W/\DA B L W x E I V X Y Z/\AG W b 206 #[m,J]) (some ⟨g,0,none⟩) i c:=by
 subst S;rintro W ⟨M,F,A⟩ k R;obtain⟨a,ha⟩:=BQ x.Ae k U;obtain⟨D,N,H,G⟩:=F.lists.c1.BT (λ_ _ T=>FX.len T) k a ha;have Q:=FX.len H;have hh:D[0]? = some (a.kind:AB):=by rw[show D=_ from H];rfl
 match D,Q,hh with
 | [z0,K],_,hh=>
  obtain rfl:z0=.int .i64 a.kind:=gL;refine⟨g,_,K,rfl,O,N,G 0 AD,G 1 AD,(ACe a.kind m K J b W A (P k a R ha)).mono ?_⟩;rintro d o ⟨rfl,C⟩;exact⟨rfl,AW M C,F.below C,A.below C A.lt⟩
def ACd(n m:Int)(B F G H I J K L M C D E O S T U V W X Y Z P Q R:AB)(b:Nat)(w:AA)(A:AG w b 218 #[m,O,S,T,U,V,W,X,Y,Z,P,Q,R])(c:(n==m)=false):AI 167 #[.agg #[n,B,F,G,H,I,J,K,L,M,C,D,E],.pointer b] w (Ca false w):=by
 have a:=A.lt;have N:=A.cell 0;simp only[CH,A8] at N;have hal:Below w w (w.alloc (.cells #[n,B,F,G,H,I,J,K,L,M,C,D,E] 218)):=(AN _ _).alloc AK _;exact UO
def ADV(B:Nat)(j:AA)(x:Ah)(E g n i c:Nat)(z AC AE H AF:AB)(m:Int)(J N O P Q R S T V K L M:AB)(b:Nat)(w:AA)(v:H=.slice g n c)(r:i<=c)(AI:E<w.heap.size)(AJ:b<w.heap.size)(AK:i<=x.Ac.length)(s:∀(k:Nat) (a:K9),k<i->x.Ac[k]? = some a->(a.CN==m)=false):
 fZ (.pointer b) (λW=>Below w w W/\DA B j W x E z AC AE H AF/\AG W b 218 #[m,J,N,O,P,Q,R,S,T,V,K,L,M]) (some ⟨g,0,none⟩) i c:=by
 subst v;rintro W ⟨o,F,C⟩ k u;obtain⟨a,ha⟩:=BQ x.Ac k U;obtain⟨I,q,G,A⟩:=F.lists.c4.BT (λ_ _ y=>D4.len y) k a ha;have t:=D4.len G;have hh:I[0]? = some (a.CN:AB):=by obtain⟨AL,AN,rfl,_⟩:=G;rfl
 match I,t,hh with
 | [z0,X,z2,z3,z4,z5,d,e,f,z9,Y,Z,z12],_,hh=>
  obtain rfl:z0=.int .i64 a.CN:=gL;refine⟨g,_,X,z2,z3,z4,z5,d,e,f,z9,Y,Z,z12,rfl,r,q,A 0 AD,A 1 AD,A 2 AD,A 3 AD,A 4 AD,A 5 AD,A 6 AD,A 7 AD,A 8 AD,A 9 AD,A 10 AD,A 11 AD,A 12 AD,(ACd a.CN m X z2 z3 z4 z5 d e f z9 Y Z z12 J N O P Q R S T V K L M b W C (s k a u ha)).mono ?_⟩;rintro AH AM ⟨rfl,D⟩;exact⟨rfl,AW o D,F.below D,C.below D C.lt⟩
def ACc(n m:Int)(B C D E F G I J K L M N:AB)(b:Nat)(w:AA)(A:AG w b 221 #[m,I,J,K,L,M,N])(P:(n==m)=false):AI 170 #[.agg #[n,B,C,D,E,F,G],.pointer b] w (Ca false w):=by
 have O:=A.lt;have H:=A.cell 0;simp only[CH,A8] at H;have hal:Below w w (w.alloc (.cells #[n,B,C,D,E,F,G] 221)):=(AN _ _).alloc AK _;exact UO
def ADU(B:Nat)(R:AA)(x:Ah)(E g n i c:Nat)(f j o q H:AB)(m:Int)(J K L M N O:AB)(b:Nat)(w:AA)(d:H=.slice g n c)(V:i<=c)(s:E<w.heap.size)(t:b<w.heap.size)(u:i<=x.red.length)(X:∀(k:Nat) (a:Kx),k<i->x.red[k]? = some a->(a.CN==m)=false):
 fY (.pointer b) (λW=>Below w w W/\DA B R W x E f j o q H/\AG W b 221 #[m,J,K,L,M,N,O]) (some ⟨g,0,none⟩) i c:=by
 subst d;rintro W ⟨S,F,C⟩ k Z;obtain⟨a,ha⟩:=BQ x.red k U;obtain⟨I,T,G,A⟩:=F.lists.c5.BT (λ_ _ e=>EO.len e) k a ha;have Y:=EO.len G;have hh:I[0]? = some (a.CN:AB):=by obtain⟨v,rfl,_⟩:=G;rfl
 match I,Y,hh with
 | [z0,P,z2,z3,z4,z5,Q],_,hh=>
  obtain rfl:z0=.int .i64 a.CN:=gL;refine⟨g,_,P,z2,z3,z4,z5,Q,rfl,V,T,A 0 AD,A 1 AD,A 2 AD,A 3 AD,A 4 AD,A 5 AD,A 6 AD,(ACc a.CN m P z2 z3 z4 z5 Q J K L M N O b W C (X k a Z ha)).mono ?_⟩;rintro r y ⟨rfl,D⟩;exact⟨rfl,AW S D,F.below D,C.below D C.lt⟩
def ks(B:Nat)(x:Ah)(E:Env)(w:AA)(Ay A0 A1 A2 A3:AB)(Q:Cl w)(h:B5 B w x Ay A0 A1 A2 A3)(BI:IF x=true)(L:eV x E):
 AI 96 #[.agg #[x.fr,x.mode,x.unit,Ay,A0,A1,A2,A3]] w (Yq w):=by
 have AF:=Sa BI;have BU:=AF.l1;have BV:=AF.l2;have BJ:=AF.l3;have BX:=AF.FK;have BY:=AF.TY;have BD:E.length<=1000:=by
  have:=mM _ _ _ L.lets;simp at this;omega
 have BC:Hq E:=mN _ _ _ Y2 L.lets;obtain⟨AU,n,rfl,_⟩:=h.c1.slice;obtain⟨AV,Aa,rfl,_⟩:=h.c2.slice;obtain⟨AW,Ab,rfl,_⟩:=h.c3.slice;obtain⟨AX,r,rfl,_⟩:=h.c4.slice;obtain⟨AZ,s,rfl,_⟩:=h.c5.slice;have AC:=O (DA.new h);have AT:=O Q;have T:=O L;have Ae:=O (λ(A_:AY) (A9:Int) (BR:AA) (Aj:AB) (Ak:List AB) Q BB h BF=>ADR (λg=>B<=g) w E Aj BD BC A_ A9 BR Ak Q BB h BF);obtain⟨b0,b1,b2,b3,b4,b5,Bw,Bv,hbl⟩:=AC.o.blk.BF;go_in;go_wp2_with fail;go_call ADn B x.lets E _ _ (AT.o.after AC.o.AJ) AC.o.lists.c3 BJ T.o.lets as t w1 ⟨Aj,rfl,K,hb1⟩;have BG:=AC.o.AJ.size;replace AC:=O Bg;have Aq:Hid (CQ w w1 E Aj):=AS.lower K BG BW;obtain⟨Ac,Ad,rfl,_⟩:=AS.slice K;obtain⟨b0,b1,b2,b3,b4,b5,Bw,Bv,hbl⟩:=AC.o.blk.BF;go_wp2_with fail;go_loopw [28] (λD wr=>∃i:Nat,D=.int .i64 (i:Int)/\i<=x.Ae.length/\DA B w wr x w (.slice (AU) x.Ae.length n) (.slice (AV) x.Ad.length Aa) (.slice AW x.lets.length Ab) (.slice (AX) x.Ac.length r) (.slice (AZ) x.red.length s)/\CQ w wr E (.slice Ac E.length Ad)) (λD _=>x.Ae.length-(intOf D).toNat)
 case atStart=>exact⟨0,rfl,Az _,AC.o,Aq.o⟩
 case' round=>
  obtain⟨i,rfl,hi,A,K⟩:=hrel;have AC:=O A;have Aq:=O K;obtain⟨b0,b1,b2,b3,b4,b5,Bw,Bv,hbl⟩:=AC.o.blk.BF
 by_cases hlt:i<x.Ae.length
 .skip
  have dl:=Ar i x.Ae.length;obtain⟨c,J⟩:=BQ x.Ae i hlt;obtain⟨g,V,Ag⟩:=AC.o.lists.c1.Ch (λ_ _ q=>FX.len q) i c J;subst V;have F:=O J;obtain⟨AR,Q,W,C⟩:=AC.o.lists.c1.BT (λ_ _ q=>FX.len q) i c F.o;obtain rfl:AR=[.int .i64 c.kind,.int .i64 c.limit]:=W;obtain⟨M,N⟩:=QB C;go_wp2_with fail;have hal:Below wr wr (wr.alloc (.cells #[c.kind,c.limit] 206)):=(AN _ _).alloc AK _;have A:=AG.new wr 206 #[c.kind,c.limit];replace AC:=O Hn;replace Aq:=O Uq;generalize wr.alloc (.cells #[c.kind,c.limit] 206)=G at *;generalize wr.heap.size=b at *;have u:=A.lt;have v:=AC.o.blk.lt;refine(AJ' _ _ _ i n (ADW B w x w g x.Ae.length i n _ _ _ _ _ c.kind _ b G rfl U v u U (λH a AE ha=>Aw.2 (T.o.Ae H i a c AE ha F.o))) U _ ⟨AN _ _,AC.o,A⟩).mono ?_;rintro t A4 ⟨rfl,hb1,y,z⟩;replace AC:=O y;replace Aq:=O Ik;have A:=z;exact Pe
 .skip
  obtain rfl:i=x.Ae.length:=U;have dl:decide ((x.Ae.length:Int)<(x.Ae.length:Int))=false:=AH;go_wp2_with fail;go_loopw [43] (λD wr=>∃i:Nat,D=.int .i64 (i:Int)/\i<=x.Ad.length/\DA B w wr x w (.slice (AU) x.Ae.length n) (.slice (AV) x.Ad.length Aa) (.slice AW x.lets.length Ab) (.slice (AX) x.Ac.length r) (.slice (AZ) x.red.length s)/\CQ w wr E (.slice Ac E.length Ad)) (λD _=>x.Ad.length-(intOf D).toNat)
  case atStart=>exact⟨0,rfl,Az _,AC.o,Aq.o⟩
  case' round=>
   obtain⟨i,rfl,hi,A,K⟩:=hrel;have AC:=O A;have Aq:=O K;obtain⟨b0,b1,b2,b3,b4,b5,Bw,Bv,hbl⟩:=AC.o.blk.BF
  by_cases hlt:i<x.Ad.length
  .skip
   have dl:=Ar i x.Ad.length;obtain⟨c,J⟩:=BQ x.Ad i hlt;obtain⟨g,V,Ag⟩:=AC.o.lists.c2.Ch (λ_ _ q=>Fj.len q) i c J;subst V;have F:=O J;obtain⟨AR,Q,W,C⟩:=AC.o.lists.c2.BT (λ_ _ q=>Fj.len q) i c F.o;obtain rfl:AR=[.int .i64 c.year,.int .i64 c.f.n,.int .i64 c.f.d]:=W;obtain⟨M,N,R⟩:=Z3 C;go_wp2_with fail;have hal:Below wr wr (wr.alloc (.cells #[c.year,c.f.n,c.f.d] 209)):=(AN _ _).alloc AK _;have A:=AG.new wr 209 #[c.year,c.f.n,c.f.d];replace AC:=O Hn;replace Aq:=O Uq;generalize wr.alloc (.cells #[c.year,c.f.n,c.f.d] 209)=G at *;generalize wr.heap.size=b at *;have u:=A.lt;have v:=AC.o.blk.lt;obtain⟨b0,b1,b2,b3,b4,b5,Bw,Bv,hbl⟩:=AC.o.blk.BF;have BO:=A.cell 0;simp only[CH,A8] at BO;by_cases BE:i=0
   .subst BE;have A':decide ((0:Int)<((0:Nat):Int))=false:=AD;go_region
    have Hy:Below G G G.drew:=(AN _ _).drew;replace AC:=O R3;replace Aq:=O (Aq.o.below Hy);go_wp2_with fail;go_roundw
    case rel=>exact⟨1,rfl,U,AC.o,Aq.o⟩
    case measure=>exact A5
   .have A':=Ar 0 i;obtain⟨H,rfl⟩:∃H,i=H+1:=⟨i-1,U⟩;obtain⟨P,Av⟩:∃P,x.Ad[H]? = some P:=⟨_,BL U⟩;have BT:decide (c.year<=P.year)=false:=DI (by have:=T.o.Ad H P c Av F.o;omega);obtain⟨BP,Q,BH,BA⟩:=AC.o.lists.c2.BT (λ_ _ q=>Fj.len q) H P Av;obtain rfl:BP=[.int .i64 P.year,.int .i64 P.f.n,.int .i64 P.f.d]:=BH;have BN:=BA 0 AD;simp only[Ci,A8] at BN;go_region
    have Hy:Below G G G.drew:=(AN _ _).drew;replace AC:=O R3;replace Aq:=O (Aq.o.below Hy);go_wp2_with fail;go_roundw
    case rel=>exact⟨H+1+1,A7,U,AC.o,Aq.o⟩
    case measure=>exact A5
  .skip
   obtain rfl:i=x.Ad.length:=U;have dl:decide ((x.Ad.length:Int)<(x.Ad.length:Int))=false:=AH;go_wp2_with fail;go_loopw [66] (λD wr=>∃i:Nat,D=.int .i64 (i:Int)/\i<=x.Ac.length/\DA B w wr x w (.slice (AU) x.Ae.length n) (.slice (AV) x.Ad.length Aa) (.slice AW x.lets.length Ab) (.slice (AX) x.Ac.length r) (.slice (AZ) x.red.length s)/\CQ w wr E (.slice Ac E.length Ad)) (λD _=>x.Ac.length-(intOf D).toNat)
   case atStart=>exact⟨0,rfl,Az _,AC.o,Aq.o⟩
   case' round=>
    obtain⟨i,rfl,hi,A,K⟩:=hrel;have AC:=O A;have Aq:=O K;obtain⟨b0,b1,b2,b3,b4,b5,Bw,Bv,hbl⟩:=AC.o.blk.BF
   by_cases hlt:i<x.Ac.length
   .skip
    have dl:=Ar i x.Ac.length;obtain⟨c,J⟩:=BQ x.Ac i hlt;obtain⟨g,V,Ag⟩:=AC.o.lists.c4.Ch (λ_ _ q=>D4.len q) i c J;subst V;have F:=O J;obtain⟨BK,BM⟩:=T.o.nP c (Bu F.o);have Af:=O BK;have A6:=O BM;obtain⟨AR,Q,W,C⟩:=AC.o.lists.c4.BT (λ_ _ q=>D4.len q) i c F.o;obtain⟨Ak,Ba,rfl,L,Ax⟩:=W;obtain⟨x0,x1,x2,x3,Bk,f,k,e,rfl⟩:=L.BS;obtain⟨Al,Am,An,Ao,Ap,At,Au,As,rfl⟩:=Ax.BS;have I:=O L;have S:=O Ax;have M:=C 0 AD;have N:=C 1 AD;have R:=C 2 AD;have X:=C 3 AD;have Y:=C 4 AD;have Z:=C 5 AD;have d:=C 6 AD;have AO:=C 7 AD;have AP:=C 8 AD;have AQ:=C 9 AD;have AJ:=C 10 AD;have AL:=C 11 AD;have AM:=C 12 AD;simp only[Ci,DC,Dg,A8,Bt] at M N R X Y Z d AO AP AQ AJ AL AM;go_wp2_with fail;have hal:Below wr wr (wr.alloc (.cells #[c.CN,x0,x1,x2,x3,.string ⟨Bk.toArray⟩,.slice f k e,Al,Am,An,Ao,.string ⟨Ap.toArray⟩,.slice At Au As] 218)):=(AN _ _).alloc AK _;have A:=AG.new wr 218 #[c.CN,x0,x1,x2,x3,.string ⟨Bk.toArray⟩,.slice f k e,Al,Am,An,Ao,.string ⟨Ap.toArray⟩,.slice At Au As];replace AC:=O Hn;replace Aq:=O Uq;replace I:=O (I.o.stay hal);replace S:=O (S.o.stay hal);generalize wr.alloc (.cells #[c.CN,x0,x1,x2,x3,.string ⟨Bk.toArray⟩,.slice f k e,Al,Am,An,Ao,.string ⟨Ap.toArray⟩,.slice At Au As] 218)=G at *;generalize wr.heap.size=b at *;have u:=A.lt;have v:=AC.o.blk.lt;refine(AJ9 _ _ _ i r (ADV B w x w g x.Ac.length i r _ _ _ _ _ c.CN _ _ _ _ _ _ _ _ _ _ _ _ b G rfl U v u U (λH a AE ha=>Aw.2 (T.o.Ac H i a c AE ha F.o))) U _ ⟨AN _ _,AC.o,A⟩).mono ?_;rintro t A4 ⟨rfl,hb1,y,z⟩;replace AC:=O y;replace Aq:=O Ik;have A:=z;replace I:=O (I.o.stay hb1);replace S:=O (S.o.stay hb1);have Ai:=A.lt;have M:=A.cell 0;have N:=A.cell 1;have R:=A.cell 2;have X:=A.cell 3;have Y:=A.cell 4;have Z:=A.cell 5;have d:=A.cell 6;have AO:=A.cell 7;have AP:=A.cell 8;have AQ:=A.cell 9;have AJ:=A.cell 10;have AL:=A.cell 11;have AM:=A.cell 12;simp only[CH,A8,Bt] at M N R X Y Z d AO AP AQ AJ AL AM;go_wp2_with fail;go_call Ae.o c.cond 1 _ _ _ (AT.o.after AC.o.AJ) Aq.o I.o Af.o as t BS ⟨rfl,hb1⟩;replace AC:=O Bg;replace Aq:=O Ik;replace S:=O (S.o.stay hb1);replace A:=A.below hb1 Ai;have Ai:=A.lt;have M:=A.cell 0;have N:=A.cell 1;have R:=A.cell 2;have X:=A.cell 3;have Y:=A.cell 4;have Z:=A.cell 5;have d:=A.cell 6;have AO:=A.cell 7;have AP:=A.cell 8;have AQ:=A.cell 9;have AJ:=A.cell 10;have AL:=A.cell 11;have AM:=A.cell 12;simp only[CH,A8,Bt] at M N R X Y Z d AO AP AQ AJ AL AM;go_wp2_with fail;go_call Ae.o c.pay 4 _ _ _ (AT.o.after AC.o.AJ) Aq.o S.o A6.o as t BZ ⟨rfl,hb1⟩;replace AC:=O Bg;replace Aq:=O Ik;exact Pe
   .skip
    obtain rfl:i=x.Ac.length:=U;have dl:decide ((x.Ac.length:Int)<(x.Ac.length:Int))=false:=AH;go_wp2_with fail;go_loopw [95] (λD wr=>∃i:Nat,D=.int .i64 (i:Int)/\i<=x.red.length/\DA B w wr x w (.slice (AU) x.Ae.length n) (.slice (AV) x.Ad.length Aa) (.slice AW x.lets.length Ab) (.slice (AX) x.Ac.length r) (.slice (AZ) x.red.length s)/\CQ w wr E (.slice Ac E.length Ad)) (λD _=>x.red.length-(intOf D).toNat)
    case atStart=>exact⟨0,rfl,Az _,AC.o,Aq.o⟩
    case' round=>
     obtain⟨i,rfl,hi,A,K⟩:=hrel;have AC:=O A;have Aq:=O K;obtain⟨b0,b1,b2,b3,b4,b5,Bw,Bv,hbl⟩:=AC.o.blk.BF
    by_cases hlt:i<x.red.length
    .skip
     have dl:=Ar i x.red.length;obtain⟨c,J⟩:=BQ x.red i hlt;obtain⟨g,V,Ag⟩:=AC.o.lists.c5.Ch (λ_ _ q=>EO.len q) i c J;subst V;have F:=O J;have Af:=O (T.o.kT c (Bu F.o));obtain⟨AR,Q,W,C⟩:=AC.o.lists.c5.BT (λ_ _ q=>EO.len q) i c F.o;obtain⟨Ak,rfl,L⟩:=W;obtain⟨x0,x1,x2,x3,Bk,f,k,e,rfl⟩:=L.BS;have I:=O L;obtain⟨M,N,R,X,Y,Z,d⟩:=KJ C;go_wp2_with fail;have hal:Below wr wr (wr.alloc (.cells #[c.CN,x0,x1,x2,x3,.string ⟨Bk.toArray⟩,.slice f k e] 221)):=(AN _ _).alloc AK _;have A:=AG.new wr 221 #[c.CN,x0,x1,x2,x3,.string ⟨Bk.toArray⟩,.slice f k e];replace AC:=O Hn;replace Aq:=O Uq;replace I:=O (I.o.stay hal);generalize wr.alloc (.cells #[c.CN,x0,x1,x2,x3,.string ⟨Bk.toArray⟩,.slice f k e] 221)=G at *;generalize wr.heap.size=b at *;have u:=A.lt;have v:=AC.o.blk.lt;refine(AJ8 _ _ _ i s (ADU B w x w g x.red.length i s _ _ _ _ _ c.CN _ _ _ _ _ _ b G rfl U v u U (λH a AE ha=>Aw.2 (T.o.red H i a c AE ha F.o))) U _ ⟨AN _ _,AC.o,A⟩).mono ?_;rintro t A4 ⟨rfl,hb1,y,z⟩;replace AC:=O y;replace Aq:=O Ik;have A:=z;replace I:=O (I.o.stay hb1);have Ai:=A.lt;obtain⟨M,N,R,X,Y,Z,d,_⟩:=A.ST;go_wp2_with fail;go_call Ae.o c.H5 2 _ _ _ (AT.o.after AC.o.AJ) Aq.o I.o Af.o as t BS ⟨rfl,hb1⟩;replace AC:=O Bg;replace Aq:=O Ik;exact Pe
    .exact YS
def ACr(B:Nat)(x:CL)(w:AA)(v:AB)(E:Cl w)(h:Dh B w x.A0 v)(AM:NH x=true):
 AI 45 #[.agg #[AR x.name,x.cur,v]] w (td w):=by
 have F:=aT AM;have r:=Sj F.ok;obtain⟨a,c,rfl,AT⟩:=h.slice;have AC:=O (JQ.new (x:=x) h);have u:=O r.A0;have e:=O F;have M:=O E;have t:=O (λw v E h=>ACh B x w v E h F.ok);have AW:=r.l2;unfold AR at AC ⊢;obtain⟨J,N,P,V⟩:=AC.o.blk.y3;go_in;go_wp2_with fail;go_call t.o _ _ (M.o.after AC.o.AJ) AC.o.A0 as en w1 ⟨rfl,hb1⟩;replace AC:=O Bg;obtain⟨J,N,P,V⟩:=AC.o.blk.y3;go_wp2_with fail;go_loopw [13] (λA wr=>∃i:Nat,A=.int .i64 (i:Int)/\i<=x.A0.length/\JQ B w wr x w (.slice a x.A0.length c)) (λA _=>x.A0.length-(intOf A).toNat)
 case atStart=>exact⟨0,rfl,Az _,AC.o⟩
 case round=>
  obtain⟨i,rfl,hi,L⟩:=hrel;have AC:=O L;unfold AR at AC;obtain⟨J,N,P,V⟩:=AC.o.blk.y3;by_cases hlt:i<x.A0.length
  .have dl:=Ar i x.A0.length;obtain⟨A,G⟩:=BQ x.A0 i hlt;obtain⟨g,AE,AV⟩:=AS.Ch AC.o.A0 (λ_ _ H=>H.len) i A G;subst AE;obtain⟨At,E,AO,AF⟩:=AS.BT AC.o.A0 (λ_ _ H=>H.len) i A G;obtain⟨An,Ao,Ap,Aq,As,rfl,D⟩:=AO;have A2:=O D;have y:=O G;have n:=O (u.o A (Bu G));obtain⟨q,F⟩:=jA (e.o.A0 A (Bu G));have f:=O F;obtain⟨W,K,rfl,_⟩:=D.c1.slice;obtain⟨X,Q,rfl,_⟩:=D.c2.slice;obtain⟨Y,R,rfl,_⟩:=D.c3.slice;obtain⟨Z,S,rfl,_⟩:=D.c4.slice;obtain⟨d,T,rfl,_⟩:=D.c5.slice;obtain⟨AX,AY,AZ,Aa,Ab,Ac,Ad,Ae⟩:=VN AF;go_wp2_with fail;have hal:Below wr wr (wr.alloc (.cells #[A.fr,A.mode,A.unit,.slice W A.Ae.length K,.slice X A.Ad.length Q,.slice Y A.lets.length R,.slice Z A.Ac.length S,.slice d A.red.length T] 151)):=(AN _ _).alloc AK _;have L:=AG.new wr 151 #[A.fr,A.mode,A.unit,.slice W A.Ae.length K,.slice X A.Ad.length Q,.slice Y A.lets.length R,.slice Z A.Ac.length S,.slice d A.red.length T];replace AC:=O Hn;replace A2:=O (A2.o.below hal);generalize wr.alloc (.cells #[A.fr,A.mode,A.unit,.slice W A.Ae.length K,.slice X A.Ad.length Q,.slice Y A.lets.length R,.slice Z A.Ac.length S,.slice d A.red.length T] 151)=C at *;generalize wr.heap.size=b at *;have AU:=L.lt;obtain⟨J,N,P,V⟩:=AC.o.blk.y3;unfold AR at J;obtain⟨Af,Ag,Ah,Ai,Aj,Ak,Al,Am,_⟩:=L.BF;by_cases AL:i=0
   .subst AL;have z:decide ((0:Int)<((0:Nat):Int))=false:=AD;go_region
    have Hy:Below C C C.drew:=(AN _ _).drew;replace AC:=O R3;replace A2:=O Y1;go_wp2_with fail;go_call ks B A q _ _ _ _ _ _ (M.o.after AC.o.AJ) A2.o n.o f.o as en w3 ⟨rfl,hb1⟩;replace AC:=O Bg;exact Rn
   .have z:=Ar 0 i;obtain⟨k,rfl⟩:∃k,i=k+1:=⟨i-1,U⟩;obtain⟨I,s⟩:∃I,x.A0[k]? = some I:=⟨_,BL U⟩;have K:decide (A.fr<=I.fr)=false:=DI (by have:=e.o.fr k I A s y.o;omega);obtain⟨Au,E,AP,AJ⟩:=AS.BT AC.o.A0 (λ_ _ H=>H.len) k I s;obtain⟨_,_,_,_,_,rfl,_⟩:=AP;have AQ:=AJ 0 AD;simp only[Ci,A8] at AQ;go_region
    have Hy:Below C C C.drew:=(AN _ _).drew;replace AC:=O R3;replace A2:=O Y1;go_wp2_with fail;go_call ks B A q _ _ _ _ _ _ (M.o.after AC.o.AJ) A2.o n.o f.o as en w3 ⟨rfl,hb1⟩;replace AC:=O Bg;exact Rq
  .exact rq
structure Ub(r:Em):Prop where
 fr:0<=r.fr/\r.fr<=73048
 min:0<=r.min/\r.min<=73049
 post:0<=r.post/\r.post<=73049
 sub:0<=r.sub/\r.sub<=100
 ne:0<r.mem.length
 le:r.mem.length<=6
 mem:∀(i:Nat) (m:Int),r.mem[i]? = some m->0<=m/\m<=5
 inc:∀(i:Nat) (a b:Int),r.mem[i]? = some a->r.mem[i+1]? = some b->a<b
structure Pb(l:List Em):Prop where
 ne:0<l.length
 le:l.length<=8
 hd:∀r,l[0]? = some r->r.fr=0
 all:∀(i:Nat) (r:Em),l[i]? = some r->Ub r
 inc:∀(i:Nat) (a b:Em),l[i]? = some a->l[i+1]? = some b->a.fr<b.fr
structure ALs(r:Rat):Prop where
 cur:1<=r.cur/\r.cur<=999
 Fd:r.Fd=0\/r.Fd=1150
 Ht:GT r.num r.den=true
 num:1<=r.num/\r.num<=1000000
 den:1<=r.den/\r.den<=1000000
structure YW(l:List Rat):Prop where
 le:l.length<=40
 all:∀(i:Nat) (r:Rat),l[i]? = some r->ALs r
 inc:∀(i:Nat) (a b:Rat),l[i]? = some a->l[i+1]? = some b->a.cur<b.cur\/a.cur=b.cur/\a.Fd<b.Fd
def AFu{k:Nat}{l:Ay}(B:l=[0,1,2]\/l=[0,1]):(0<l.length)/\l.length<=6/\(∀(i:Nat) (m:Int),l[i]? = some m->0<=m/\m<=5)/\(∀(i:Nat) (a b:Int),l[i]? = some a->l[i+1]? = some b->a<b):=by
 rcases B with rfl|rfl
 .refine⟨AD,AD,λi m h=>?_,λi a b h A=>?_⟩
  .have:=Bu h;simp at this;omega
  .rcases i with _|_|_|i<;>simp at h A<;>omega
 .refine⟨AD,AD,λi m h=>?_,λi a b h A=>?_⟩
  .have:=Bu h;simp at this;omega
  .rcases i with _|_|i<;>simp at h A<;>omega
def AH1(n:Ay):0<=H0 n/\H0 n<=73049:=by
 unfold H0;omega
def Vz(n:Ay)(fr post A:Int)(m:Ay)(E:0<=fr/\fr<=73048)(F:0<=post/\post<=73049)(G:0<=A/\A<=100)(H:m=[0,1,2]\/m=[0,1]):Ub ⟨fr,H0 n,post,A,m⟩:=by
 obtain⟨B,C,c,D⟩:=AFu (k:=0) H;exact⟨E,AH1 n,F,G,B,C,c,D⟩
def jK{a b:Em}(C:a.fr=0)(ha:Ub a)(F:Ub b)(D:a.fr<b.fr):Pb [a,b]:=by
 refine⟨AH,AH,λE h=>?_,λA E h=>?_,λA G H h B=>?_⟩
 .cases h;exact C
 .rcases A with _|_|A<;>simp at h<;>subst h<;>assumption
 .rcases A with _|_|A<;>simp at h B
  subst h B;exact D
def jL(n:Ay):Pb (VZ n):=by
 unfold VZ;have B:=Vz n 0 730 25 [0,1,2] AD AD AD (.inl rfl);split
 .refine⟨AH,AH,λD h=>?_,λA D h=>?_,λA E F h C=>?_⟩
  .cases h;rfl
  .rcases A with _|A<;>simp at h
   subst h;exact B
  .rcases A with _|A<;>simp at h C
 .split
  .exact jK rfl (Vz n _ _ _ _ AD AD AD (.inr rfl)) (Vz n _ _ _ _ AD AD AD (.inl rfl)) (by show(0:Int)<35000;decide)
  .exact jK rfl B (Vz n _ _ _ _ AD AD AD (.inr rfl)) (by show(0:Int)<36000;decide)
def kg:YW Jc:=by
 refine⟨AD,λA E h=>?_,λA C D h B=>?_⟩
 .rcases A with _|_|_|_|A<;>simp[Jc] at h<;>subst h<;>exact⟨AD,AD,AD,AD,AD⟩
 .rcases A with _|_|_|_|A<;>simp[Jc] at h B<;>subst h B<;>decide
def bD(x A:Int)(w:AA)(h:0<=x/\x<=A):AI 172 #[x,A] w (BX (.bool true) w):=by
 have B:decide (0<=x)=true:=CA h.1;have C:decide (x<=A)=true:=CA h.2;exact FA
structure KH(B:Nat)(W X:AA)(r:Em)(b:Nat)(v:AB):Prop where
 AJ:Below W W X
 blk:AG X b 128 #[r.fr,r.min,r.post,r.sub,v]
 mem:X.ownsRow B 3 1 v r.mem.length (r.mem.map (Value.int .i64))
def KH.below{B:Nat}{W C E:AA}{r:Em}{b:Nat}{v:AB}(A:KH B W C r b v)(D:Below C C E):KH B W E r b v:=
 ⟨AW A.AJ D,A.blk.below D A.blk.lt,IQ A.mem D (λG F=>HU A.mem F.symm)⟩
def KH.new{B:Nat}{W:AA}{r:Em}{v:AB}(h:W.ownsRow B 3 1 v r.mem.length (r.mem.map (Value.int .i64))):KH B W (W.alloc (.cells #[r.fr,r.min,r.post,r.sub,v] 128)) r W v:=
 have A:=(AN W W).alloc AK (.cells #[r.fr,r.min,r.post,r.sub,v] 128);⟨A,AG.new W _ _,IQ h A (λD C=>HU h C.symm)⟩
def KH.cells{B:Nat}{W A:AA}{r:Em}{b:Nat}{a:BH}{n c:Nat}(h:KH B W A r b (.slice a n c))(J:n=r.mem.length)(i:Nat)(m:Int)(D:r.mem[i]? = some m):∃g,a=some ⟨g,0,none⟩/\n<=c/\g<A.heap.size/\A.cell? ⟨g,i,none⟩=some (m:AB):=by
 have G:i<r.mem.length:=(Cd.1 D).1;obtain⟨g,H,C,I,E,F⟩:=ml h.mem U;simp only[Km] at C;obtain⟨rfl,C,rfl⟩:=C;refine⟨g,rfl,U,E,?_⟩;rw[F i G,D];rfl
def kt(B:Nat)(r:Em)(w:AA)(v:AB)(h:w.ownsRow B 3 1 v r.mem.length (r.mem.map (Value.int .i64)))(L:Ub r):
 AI 97 #[.agg #[r.fr,r.min,r.post,r.sub,v]] w (Ca true w):=by
 have AC:=O (KH.new h);obtain⟨a,c,rfl⟩:=CG h;have A:=O L;have j:=L.le;obtain⟨M,N,P,Q,R,T⟩:=AC.o.blk.DY;go_in;go_wp2_with (first|(go_at_call 171;refine(oz _ A.o.fr _).mono ?_;rintro E H ⟨rfl,rfl⟩)|(go_at_call 172;refine(bD _ _ _ (by first|exact A.o.min|exact A.o.post|exact A.o.sub)).mono ?_;rintro E H ⟨rfl,rfl⟩))
 go_loopw [30] (λI wr=>∃i:Nat,I=.int .i64 (i:Int)/\i<=r.mem.length/\KH B w wr r w (.slice a r.mem.length c)) (λI _=>r.mem.length-(intOf I).toNat)
 case atStart=>exact⟨0,rfl,Az _,AC.o⟩
 case round=>
  obtain⟨i,rfl,f,V⟩:=hrel;have AC:=O V;obtain⟨M,N,P,Q,R,T⟩:=AC.o.blk.DY;by_cases X:i<r.mem.length
  .have dl:=Ar i r.mem.length;obtain⟨D,G⟩:=BQ r.mem i X;obtain⟨Z,F,g,e,n⟩:=AC.o.cells rfl i D G;subst F;have J:=O (A.o.mem i D G);by_cases W:i=0
   .subst W;have S:decide ((0:Int)<((0:Nat):Int))=false:=AD;go_wp2_with (go_at_call 172;refine(bD _ _ _ J.o).mono ?_;rintro E H ⟨rfl,rfl⟩)
    exact qK
   .have S:=Ar 0 i;obtain⟨k,rfl⟩:∃k,i=k+1:=⟨i-1,U⟩;obtain⟨C,K⟩:∃C,r.mem[k]? = some C:=⟨_,BL U⟩;obtain⟨d,F,_,_,m⟩:=AC.o.cells rfl k C K;cases F;have Y:decide (D<=C)=false:=DI (by have:=A.o.inc k C D K G;omega);go_wp2_with (go_at_call 172;refine(bD _ _ _ J.o).mono ?_;rintro E H ⟨rfl,rfl⟩)
    exact qP
  .obtain rfl:i=r.mem.length:=U;have dl:decide ((r.mem.length:Int)<(r.mem.length:Int))=false:=AH;exact Pg
section
attribute [local irreducible] Cu
def Yh(w:AA)(e:Ending)(A:AA):Prop:=e=.returned ()/\Below w w A
structure Mq(B:Nat)(W X:AA)(l:List Em)(v:AB):Prop where
 AJ:Below W W X
 ls:AS B X 128 5 (D3 B X) l v
def Mq.below{B:Nat}{W A C:AA}{l:List Em}{v:AB}(h:Mq B W A l v)(hb:Below A A C):Mq B W C l v:=
 ⟨AW h.AJ hb,h.ls.below hb (λ_ _ D=>D.kept (S:=[]) CX CE)⟩
def ACn(B:Nat)(l:List Em)(w:AA)(v:AB)(h:AS B w 128 5 (D3 B w) l v)(G:Pb l):
 AI 46 #[v] w (Yh w):=by
 obtain⟨a,R,rfl,AP⟩:=h.slice;have AC:Hid (Mq B w w l (.slice a l.length R)):=⟨AN _ _,h⟩;have AR:=G.le;have n:=G.ne;have AL:=A4 8 l.length;have AM:((l.length:Int)==0)=false:=Aw.2 U;obtain⟨N,L⟩:=BQ l 0 n;obtain⟨g,W,AQ⟩:=AC.o.ls.Ch (λ_ _ q=>D3.len q) 0 N L;subst W;obtain⟨s,Q,M,J⟩:=AC.o.ls.BT (λ_ _ q=>D3.len q) 0 N L;obtain⟨t,rfl,_⟩:=M;have S:=J 0 AD;simp only[Ci,A8,O6,G.hd N L] at S;have By:=O G;go_in;go_wp2_with fail;go_loopw [20] (λP wr=>∃i:Nat,P=.int .i64 (i:Int)/\i<=l.length/\Mq B w wr l (.slice g l.length R)) (λP _=>l.length-(intOf P).toNat)
 case atStart=>exact⟨0,rfl,Az _,AC.o⟩
 case round=>
  obtain⟨i,rfl,hi,A⟩:=hrel;have AC:=O A;by_cases hlt:i<l.length
  .have dl:=Ar i l.length;obtain⟨c,X⟩:=BQ l i hlt;have HC:=O X;obtain⟨s,Q,M,J⟩:=AC.o.ls.BT (λ_ _ q=>D3.len q) i c HC.o;obtain⟨t,rfl,d⟩:=M;have U2:=O d;obtain⟨S,AT,AU,AV,AW⟩:=xe J;obtain⟨C,D,rfl⟩:=CG U2.o;go_wp2_with fail;have hal:Below wr wr (wr.alloc (.cells #[c.fr,c.min,c.post,c.sub,.slice C c.mem.length D] 128)):=(AN _ _).alloc AK _;have A:=AG.new wr 128 #[c.fr,c.min,c.post,c.sub,.slice C c.mem.length D];replace AC:=O Hn;replace U2:=O (IQ U2.o hal vK);generalize wr.alloc (.cells #[c.fr,c.min,c.post,c.sub,.slice C c.mem.length D] 128)=W1 at *;generalize wr.heap.size=b at *;have F:=A.lt;obtain⟨E,u,y,AE,AJ,_⟩:=A.DY;by_cases Z:i=0
   .subst Z;have V:decide ((0:Int)<((0:Nat):Int))=false:=AD;have H:=O (λI h=>kt B c I (.slice C c.mem.length D) h (By.o.all _ c HC.o));refine uV ?_;go_big_quiet_step (fail)
    refine Cj ?_;refine HK ?_;intro K hK;go_at_call 97;go_call H.o _ uu as e W3 ⟨rfl,hb1⟩;refine Ru ?_;have hb1:=(AN W1 W1).drew.trans hb1;replace AC:=O Bg;replace A:=A.below hb1 F;have F:=A.lt;have E:=A.cell 0;simp only[CH,A8] at E;refine Yc ?_;exact Rn
   .have V:=Ar 0 i;obtain⟨k,rfl⟩:∃k,i=k+1:=⟨i-1,U⟩;obtain⟨c',hc'⟩:∃c',l[k]? = some c':=⟨_,BL U⟩;have T:=O hc';have AO:decide (c.fr<=c'.fr)=false:=DI wt;have H:=O (λI h=>kt B c I (.slice C c.mem.length D) h (By.o.all _ c HC.o));refine uV ?_;go_big_quiet_step (fail)
    refine Cj ?_;refine HK ?_;intro K hK;go_at_call 97;go_call H.o _ uu as e W3 ⟨rfl,hb1⟩;refine Ru ?_;have hb1:=(AN W1 W1).drew.trans hb1;replace AC:=O Bg;replace A:=A.below hb1 F;have F:=A.lt;have E:=A.cell 0;simp only[CH,A8] at E;obtain⟨AX,Q,f,Y⟩:=AC.o.ls.BT (λ_ _ q=>D3.len q) k c' T.o;obtain⟨_,rfl,_⟩:=f;have r:=Y 0 AD;simp only[Ci,A8] at r;refine Yc ?_;exact Rq
  .exact er
end
def ACb(m:Int)(h:m=0\/m=1150)(w:AA):AI 238 #[m] w (BX (.bool true) w):=by
 exact qZ
def ADg(y m:Int)(h:(y=1900/\m=1)\/(y=1995/\m=11))(w:AA):AI 239 #[y,m] w λe A=>∃d:Int,0<d/\e=.returned d/\Below w w A:=by
 have B:Below w w (w.alloc (.cells #[.int .i64 31,.int .i64 28,.int .i64 31,.int .i64 30,.int .i64 31,.int .i64 30,.int .i64 31,.int .i64 31,.int .i64 30,.int .i64 31,.int .i64 30,.int .i64 31] 3)):=(AN _ _).alloc AK _;rcases h with ⟨rfl,rfl⟩|⟨rfl,rfl⟩;all_goals
  go_in;go_wp2_with fail;go_ret;exact⟨_,AD,rfl,(AN _ _).alloc AK _⟩
def ADh(m:Int)(h:m=0\/m=1150)(w:AA):AI 173 #[m] w λe A=>∃d:Int,0<d/\e=.returned d/\Below w w A:=by
 rcases h with rfl|rfl;all_goals
  go_in;go_wp2_with (go_at_call 238;refine(ACb _ AD _).mono ?_;rintro e A ⟨rfl,rfl⟩)
  go_call ADg _ _ AD _ as e A ⟨d,hd,rfl,hb⟩;go_wp2;go_ret;exact⟨d,hd,rfl,hb⟩
def ADf(m:Int)(A:m=0\/m=1150)(w:AA):AI 99 #[m] w (Ca true w):=by
 go_in;go_wp2_with fail;go_call ADh m A _ as e w' ⟨d,hd,rfl,hb⟩;have B:decide (0<d)=true:=CA hd;go_wp2;go_ret;exact⟨rfl,hb⟩
def ACs(m:Int)(h:1<=m/\m<=1000000)(w:AA):AI 101 #[m] w (BX (.bool true) w):=by
 have A:decide (1<=m)=true:=CA h.1;have B:decide (m<=1000000)=true:=CA h.2;exact FA
def AEG(m:Int)(h:1<=m/\m<=999)(w:AA):AI 98 #[m] w (BX (.bool true) w):=by
 have A:decide (1<=m)=true:=CA h.1;have B:decide (m<=999)=true:=CA h.2;exact FA
structure Pi(B:Nat)(W X:AA)(l:List Rat)(v:AB):Prop where
 AJ:Below W W X
 ls:AS B X 121 4 FR l v
def Pi.below{B:Nat}{W A C:AA}{l:List Rat}{v:AB}(h:Pi B W A l v)(D:Below A A C):Pi B W C l v:=
 ⟨AW h.AJ D,h.ls.below D BW⟩
def ADH(B:Nat)(l:List Rat)(w:AA)(v:AB)(h:AS B w 121 4 FR l v)(L:YW l):
 AI 47 #[v] w (Yh w):=by
 obtain⟨a,M,rfl,n⟩:=h.slice;have AC:Hid (Pi B w w l (.slice a l.length M)):=⟨AN _ _,h⟩;have r:=L.le;have d:=A4 40 l.length;have F:=O L;go_in;go_wp2_with fail;go_loopw [10] (λH wr=>∃i:Nat,H=.int .i64 (i:Int)/\i<=l.length/\Pi B w wr l (.slice a l.length M)) (λH _=>l.length-(intOf H).toNat)
 case atStart=>exact⟨0,rfl,Az _,AC.o⟩
 case round=>
  obtain⟨i,rfl,hi,I0⟩:=hrel;have AC:=O I0;by_cases hlt:i<l.length
  .have dl:=Ar i l.length;obtain⟨c,C⟩:=BQ l i hlt;have N:=O C;obtain⟨g,R,q⟩:=AC.o.ls.Ch (λ_ _ D=>FR.len D) i c C;subst R;obtain⟨W,hg,T,hcc⟩:=AC.o.ls.BT (λ_ _ D=>FR.len D) i c C;obtain rfl:W=[.int .i64 c.cur,.int .i64 c.Fd,.int .i64 c.num,.int .i64 c.den]:=T;obtain⟨s,t,u,y⟩:=LD hcc;have E:=O (F.o.all i c C);have I:=O (λw=>AHn c.num c.den w);rw[(F.o.all i c C).Ht] at I;go_wp2_with (go_at_call 98;refine(AEG _ E.o.cur _).mono ?_;rintro G Y ⟨rfl,rfl⟩)
   have hal:Below wr wr (wr.alloc (.cells #[c.cur,c.Fd,c.num,c.den] 121)):=(AN _ _).alloc AK _;have I0:=AG.new wr 121 #[c.cur,c.Fd,c.num,c.den];replace AC:=O Hn;generalize wr.alloc (.cells #[c.cur,c.Fd,c.num,c.den] 121)=Z at *;generalize wr.heap.size=b at *;go_call ADf _ E.o.Fd _ as G W2 ⟨rfl,hb1⟩;replace AC:=O Bg;replace I0:=I0.below hb1 I0.lt;have hbl:=I0.lt;obtain⟨b0,b1,b2,b3,_⟩:=I0.y4;go_wp2_with fail;go_call I.o _ as G W3 ⟨rfl,hb1⟩;replace AC:=O Bg;replace I0:=I0.below hb1 I0.lt;have hbl:=I0.lt;obtain⟨b0,b1,b2,b3,_⟩:=I0.y4;go_wp2_with (go_at_call 101;refine(ACs _ (by first|exact E.o.num|exact E.o.den) _).mono ?_;rintro G Y ⟨rfl,rfl⟩)
   by_cases S:i=0
   .subst S;have P:decide ((0:Int)<((0:Nat):Int))=false:=AD;go_region
    replace AC:=O Di;exact Rn
   .have P:=Ar 0 i;obtain⟨k,rfl⟩:∃k,i=k+1:=⟨i-1,U⟩;obtain⟨A,J⟩:∃A,l[k]? = some A:=⟨_,BL U⟩;have ce:=F.o.inc k A c J N.o;have e:=A4 c.cur A.cur;obtain⟨X,hg,V,K⟩:=AC.o.ls.BT (λ_ _ D=>FR.len D) k A J;obtain rfl:X=[.int .i64 A.cur,.int .i64 A.Fd,.int .i64 A.num,.int .i64 A.den]:=V;have p0:=K 0 AD;have p1:=K 1 AD;simp only[Ci,A8,Bt] at p0 p1;by_cases hcc:A.cur=c.cur
    .have Q:(A.cur==c.cur)=true:=ZV;have f:=KI c.Fd A.Fd;exact qz
    .have Q:(A.cur==c.cur)=false:=ZV;exact qz
  .exact er
section
attribute [local irreducible] Cu
def AAa(B:Nat)(l:List Em)(w:AA)(v:AB)(h:AS B w 128 5 (D3 B w) l v)(E:Pb l):
 AI 57 #[v] w (Yh w):=by
 obtain⟨a,F,rfl,AP⟩:=h.slice;have A2:Hid (Mq B w w l (.slice a l.length F)):=⟨AN _ _,h⟩;have AU:=E.le;have n:=E.ne;have t:=A4 8 l.length;have u:((l.length:Int)==0)=false:=Aw.2 U;obtain⟨P,M⟩:=BQ l 0 n;obtain⟨g,hag,AR⟩:=A2.o.ls.Ch (λ_ _ q=>D3.len q) 0 P M;subst hag;obtain⟨r,R,N,J⟩:=A2.o.ls.BT (λ_ _ q=>D3.len q) 0 P M;obtain⟨s,rfl,_⟩:=N;have q0:=J 0 AD;simp only[Ci,A8,O6,E.hd P M] at q0;have By:=O E;go_in;go_wp2_with fail;go_loopw [3] (λA wr=>∃i:Nat,A=.int .i64 (i:Int)/\i<=l.length/\Mq B w wr l (.slice g l.length F)) (λA _=>l.length-(intOf A).toNat)
 case atStart=>exact⟨0,rfl,Az _,A2.o⟩
 case round=>
  obtain⟨i,rfl,AQ,C⟩:=hrel;have A2:=O C;by_cases Z:i<l.length
  .have dl:=Ar i l.length;obtain⟨c,I⟩:=BQ l i Z;have HC:=O I;have CM:=O (By.o.all i c I);have AT:=(By.o.all i c I).le;obtain⟨r,R,N,J⟩:=A2.o.ls.BT (λ_ _ q=>D3.len q) i c HC.o;obtain⟨s,rfl,d⟩:=N;have Q:=O d;obtain⟨q0,AV,AW,AX,AY⟩:=xe J;obtain⟨G,H,rfl⟩:=CG Q.o;go_wp2_with fail;have AC:=O (KH.new Q.o);have V:Below wr wr (wr.alloc (.cells #[c.fr,c.min,c.post,c.sub,.slice G c.mem.length H] 128)):=(AN _ _).alloc AK _;replace A2:=O (A2.o.below V);generalize wr.alloc (.cells #[c.fr,c.min,c.post,c.sub,.slice G c.mem.length H] 128)=W1 at *;have AE:decide (c.min<0)=false:=DI (by have:=CM.o.min;omega);have AG:decide (73049<c.min)=false:=DI (by have:=CM.o.min;omega);have AJ:decide (c.post<0)=false:=DI (by have:=CM.o.post;omega);have AL:decide (73049<c.post)=false:=DI (by have:=CM.o.post;omega);have AM:decide (c.sub<0)=false:=DI (by have:=CM.o.sub;omega);have AO:decide (100<c.sub)=false:=DI (by have:=CM.o.sub;omega);obtain⟨b0,b1,b2,b3,b4,hbl⟩:=AC.o.blk.DY;by_cases X:i=0
   .subst X;have T:decide ((0:Int)<((0:Nat):Int))=false:=AD;refine uh ?_;go_big_quiet_step (fail)
    refine Cj ?_;refine Ov ?_;go_big_quiet_step (fail)
    refine Cj ?_;refine HK ?_;intro K hK;go_at_call 109;go_call aF c.fr CM.o.fr _ as e W3 ⟨rfl,hb1⟩;refine Ru ?_;have hb1:=(AN W1 W1).drew.trans hb1;replace AC:=O Bg;replace A2:=O Y8;obtain⟨b0,b1,b2,b3,b4,hbl⟩:=AC.o.blk.DY;iterate 46 refine DD ?_
    refine Dl ?_;go_wp2_with fail;go_loopw [5] (λA D=>∃j:Nat,A=.int .i64 (j:Int)/\j<=c.mem.length/\KH B wr D c wr (.slice G c.mem.length H)/\Mq B w D l (.slice g l.length F)) (λA _=>c.mem.length-(intOf A).toNat)
    case atStart=>exact⟨0,rfl,Az _,AC.o,A2.o⟩
    case round=>
     obtain⟨j,rfl,Y,C,L⟩:=hrel;have AC:=O C;have A2:=O L;obtain⟨b0,b1,b2,b3,b4,hbl⟩:=AC.o.blk.DY;by_cases nH:j<c.mem.length
     .exact tz
     .obtain rfl:j=c.mem.length:=U;have XP:decide ((c.mem.length:Int)<(c.mem.length:Int))=false:=AH;go_wp2_with fail;go_roundw
      case rel=>exact⟨1,rfl,U,A2.o⟩
      case measure=>exact A5
   .have T:=Ar 0 i;obtain⟨k,rfl⟩:∃k,i=k+1:=⟨i-1,U⟩;obtain⟨c',hc'⟩:∃c',l[k]? = some c':=⟨_,BL U⟩;have S:=O hc';have y:decide (c.fr<=c'.fr)=false:=DI wt;refine uh ?_;go_big_quiet_step (fail)
    refine Cj ?_;refine Ov ?_;go_big_quiet_step (fail)
    refine Cj ?_;refine HK ?_;intro K hK;go_at_call 109;go_call aF c.fr CM.o.fr _ as e W3 ⟨rfl,hb1⟩;refine Ru ?_;have hb1:=(AN W1 W1).drew.trans hb1;replace AC:=O Bg;replace A2:=O Y8;obtain⟨b0,b1,b2,b3,b4,hbl⟩:=AC.o.blk.DY;obtain⟨AZ,R,f,W⟩:=A2.o.ls.BT (λ_ _ q=>D3.len q) k c' S.o;obtain⟨_,rfl,_⟩:=f;have p0:=W 0 AD;simp only[Ci,A8] at p0;iterate 46 refine DD ?_
    refine Dl ?_;go_wp2_with fail;go_loopw [5] (λA D=>∃j:Nat,A=.int .i64 (j:Int)/\j<=c.mem.length/\KH B wr D c wr (.slice G c.mem.length H)/\Mq B w D l (.slice g l.length F)) (λA _=>c.mem.length-(intOf A).toNat)
    case atStart=>exact⟨0,rfl,Az _,AC.o,A2.o⟩
    case round=>
     obtain⟨j,rfl,Y,C,L⟩:=hrel;have AC:=O C;have A2:=O L;obtain⟨b0,b1,b2,b3,b4,hbl⟩:=AC.o.blk.DY;by_cases nH:j<c.mem.length
     .exact tz
     .obtain rfl:j=c.mem.length:=U;have XP:decide ((c.mem.length:Int)<(c.mem.length:Int))=false:=AH;go_wp2_with fail;go_roundw
      case rel=>exact⟨k+1+1,A7,U,A2.o⟩
      case measure=>exact A5
  .obtain rfl:i=l.length:=U;have dl:decide ((l.length:Int)<(l.length:Int))=false:=AH;go_wp2_with fail;go_ret;exact⟨rfl,A2.o.AJ⟩
end
section
attribute [local irreducible] Cu
def AAI(m:Int)(h:m=0\/m=1150)(w:AA):AI 110 #[m] w (BX (.bool true) w):=by
 exact qZ
def AA9(B:Nat)(l:List Rat)(w:AA)(v:AB)(h:AS B w 121 4 FR l v)(N:YW l):
 AI 58 #[v] w (Yh w):=by
 obtain⟨a,P,rfl,AJ⟩:=h.slice;have AC:Hid (Pi B w w l (.slice a l.length P)):=⟨AN _ _,h⟩;have AM:=N.le;have f:=A4 40 l.length;have I:=O N;go_in;go_wp2_with fail;go_loopw [3] (λJ wr=>∃i:Nat,J=.int .i64 (i:Int)/\i<=l.length/\Pi B w wr l (.slice a l.length P)) (λJ _=>l.length-(intOf J).toNat)
 case atStart=>exact⟨0,rfl,Az _,AC.o⟩
 case round=>
  obtain⟨i,rfl,hi,C⟩:=hrel;have AC:=O C;by_cases hlt:i<l.length
  .have dl:=Ar i l.length;obtain⟨c,H⟩:=BQ l i hlt;have G:=O H;obtain⟨g,V,AL⟩:=AC.o.ls.Ch (λ_ _ q=>FR.len q) i c H;subst V;have D:=O (I.o.all i c H);have K:=O (λw=>ax c.num c.den w);rw[(I.o.all i c H).Ht] at K;have s:decide (c.cur<1)=false:=DI (by have:=D.o.cur;omega);have t:decide (999<c.cur)=false:=DI (by have:=D.o.cur;omega);have u:decide (c.num<1)=false:=DI (by have:=D.o.num;omega);have y:decide (1000000<c.num)=false:=DI (by have:=D.o.num;omega);have AE:decide (1000000<c.den)=false:=DI (by have:=D.o.den;omega);obtain⟨F,hg,E,hcc⟩:=AC.o.ls.BT (λ_ _ q=>FR.len q) i c G.o;obtain rfl:F=[.int .i64 c.cur,.int .i64 c.Fd,.int .i64 c.num,.int .i64 c.den]:=E;obtain⟨q0,q1,q2,q3⟩:=LD hcc;go_wp2_with fail;have hal:Below wr wr (wr.alloc (.cells #[c.num,c.den] 119)):=(AN _ _).alloc AK _;have C:=AG.new wr 119 #[c.num,c.den];replace AC:=O Hn;generalize wr.alloc (.cells #[c.num,c.den] 119)=d at *;generalize wr.heap.size=b at *;obtain⟨F,hg,E,hcc⟩:=AC.o.ls.BT (λ_ _ q=>FR.len q) i c G.o;obtain rfl:F=[.int .i64 c.cur,.int .i64 c.Fd,.int .i64 c.num,.int .i64 c.den]:=E;obtain⟨q0,q1,q2,q3⟩:=LD hcc;have W:=C.lt;obtain⟨Q,R,_⟩:=C.y2;go_call AAI _ D.o.Fd _ as e W2 ⟨rfl,rfl⟩;go_wp2_with fail;go_call K.o _ as e W3 ⟨rfl,hb1⟩;replace AC:=O Bg;replace C:=C.below hb1 C.lt;obtain⟨F,hg,E,hcc⟩:=AC.o.ls.BT (λ_ _ q=>FR.len q) i c G.o;obtain rfl:F=[.int .i64 c.cur,.int .i64 c.Fd,.int .i64 c.num,.int .i64 c.den]:=E;obtain⟨q0,q1,q2,q3⟩:=LD hcc;have W:=C.lt;obtain⟨Q,R,_⟩:=C.y2;go_wp2_with fail;by_cases X:i=0
   .subst X;have S:decide ((0:Int)<((0:Nat):Int))=false:=AD;refine uo ?_;replace AC:=O Di;exact Rn
   .have S:=Ar 0 i;obtain⟨k,rfl⟩:∃k,i=k+1:=⟨i-1,U⟩;obtain⟨A,L⟩:∃A,l[k]? = some A:=⟨_,BL U⟩;have ce:=I.o.inc k A c L G.o;have n:=A4 c.cur A.cur;obtain⟨Z,_,Y,M⟩:=AC.o.ls.BT (λ_ _ q=>FR.len q) k A L;obtain rfl:Z=[.int .i64 A.cur,.int .i64 A.Fd,.int .i64 A.num,.int .i64 A.den]:=Y;have p0:=M 0 AD;have p1:=M 1 AD;simp only[Ci,A8,Bt] at p0 p1;by_cases hcc:A.cur=c.cur
    .have T:(A.cur==c.cur)=true:=ZV;have r:=KI c.Fd A.Fd;exact q9
    .have T:(A.cur==c.cur)=false:=ZV;exact q9
  .exact er
end
section
attribute [local irreducible] Cu
structure tc(l:List (Int × CL)):Prop where
 le:l.length<=6
 all:∀(i:Nat) (p:Int × CL),l[i]? = some p->0<=p.1/\p.1<=5/\NH p.2=true
 inc:∀(i:Nat) (a b:Int × CL),l[i]? = some a->l[i+1]? = some b->a.1<b.1
structure Ho(X:B6):Prop where
 Ao:tc X.Ao
 Bc:Pb X.Bc\/X.Bc=[]
 rat:YW X.rat
def IU(A:B6):Int:=if A.Bc=[] then 1 else 0
def ja(n:Ay):tc (KN n):=by
 refine⟨by simp[KN],λA p h=>?_,λA C D h B=>?_⟩
 .rcases A with _|_|_|A<;>simp[KN] at h<;>subst h<;>exact⟨AH,AH,yq n _⟩
 .rcases A with _|_|A<;>simp[KN] at h B<;>subst h B<;>simp
def cB(n:Ay):Ho (Bp n):=⟨ja n,.inl (jL n),kg⟩
def AGW(n:Ay):Ho { Bp n with Bc:=[] }:=⟨ja n,.inr rfl,kg⟩
def mS(n:Ay):IU (Bp n)=0:=AU (λA=>by have:=(jL n).ne;rw[show VZ n=[] from A] at this;cases this)
def SH(x:Int)(w:AA)(e:Ending)(A:AA):Prop:=e=.returned x/\Below w w A
def ACp(a:BH)(c:Nat)(w:AA):AI 46 #[.slice a 0 c] w (SH 1 w):=by
 go_in;go_wp2_with fail;exact eF
def AAc(a:BH)(c:Nat)(w:AA):AI 57 #[.slice a 0 c] w (SH 1 w):=by
 go_in;go_wp2_with fail;exact eF
def ACo(B:Nat)(l:List Em)(w:AA)(v:AB)(h:AS B w 128 5 (D3 B w) l v)(ht:Pb l\/l=[]):
 AI 46 #[v] w (SH (if l=[] then 1 else 0) w):=by
 rcases ht with ht|rfl
 .rw[AU vJ];exact ACn B l w v h ht
 .obtain⟨A,c,rfl,_⟩:=h.slice;exact ACp A c w
def AAb(B:Nat)(l:List Em)(w:AA)(v:AB)(h:AS B w 128 5 (D3 B w) l v)(ht:Pb l\/l=[]):
 AI 57 #[v] w (SH (if l=[] then 1 else 0) w):=by
 rcases ht with ht|rfl
 .rw[AU vJ];exact AAa B l w v h ht
 .obtain⟨A,c,rfl,_⟩:=h.slice;exact AAc A c w
structure FZ(B:Nat)(W X:AA)(x:B6)(b:Nat)(v1 v2 v3:AB):Prop where
 AJ:Below W W X
 blk:AG X b 33 #[v1,v2,v3]
 law:CP B X x v1 v2 v3
def FZ.below{B:Nat}{W C E:AA}{x:B6}{b:Nat}{F G H:AB}(A:FZ B W C x b F G H)(D:Below C C E):FZ B W E x b F G H:=
 ⟨AW A.AJ D,A.blk.below D A.blk.lt,A.law.below D⟩
def FZ.new{B:Nat}{W:AA}{x:B6}{A C D:AB}(h:CP B W x A C D):FZ B W (W.alloc (.cells #[A,C,D] 33)) x W A C D:=
 have E:=(AN W W).alloc AK (.cells #[A,C,D] 33);⟨E,AG.new W _ _,h.below E⟩
def lD(B:Nat)(x:B6)(w:AA)(Y Z d:AB)(J:Cl w)(h:CP B w x Y Z d)(S:Ho x):
 AI 17 #[.agg #[Y,Z,d]] w (SH (IU x) w):=by
 have AC:=O (FZ.new h);have f:=O J;have GO:=O S;have Aa:=S.Ao.le;obtain⟨P,V,rfl,_⟩:=h.c1.slice;obtain⟨Q,W,rfl,_⟩:=h.c2.slice;obtain⟨R,X,rfl,_⟩:=h.c3.slice;obtain⟨b0,b1,b2,hbl⟩:=AC.o.blk.y3;go_in;go_wp2_with fail;go_loopw [13] (λC wr=>∃i:Nat,C=.int .i64 (i:Int)/\i<=x.Ao.length/\FZ B w wr x w (.slice P x.Ao.length V) (.slice Q x.Bc.length W) (.slice R x.rat.length X)) (λC _=>x.Ao.length-(intOf C).toNat)
 case atStart=>exact⟨0,rfl,Az _,AC.o⟩
 case round=>
  obtain⟨i,rfl,s,D⟩:=hrel;have AC:=O D;obtain⟨b0,b1,b2,hbl⟩:=AC.o.blk.y3;by_cases K:i<x.Ao.length
  .skip
   have dl:=Ar i x.Ao.length;obtain⟨c,A⟩:=BQ x.Ao i K;have HC:=O A;obtain⟨g,H,u⟩:=AC.o.law.c1.Ch (λ_ _ q=>Cz.len q) i c A;subst H;obtain⟨v,y,T⟩:=GO.o.Ao.all i c A;obtain⟨AT,J,M,I⟩:=AC.o.law.c1.BT (λ_ _ q=>Cz.len q) i c HC.o;obtain⟨AV,rfl,L⟩:=M;obtain⟨AQ,rfl,E⟩:=L;obtain⟨F,G,rfl,_⟩:=AS.slice E;have CT:=O E;obtain⟨AL,N,AM,AO⟩:=LD I;unfold AR at N;have AX:=A4 c.1 0;have AY:=KI 6 c.1;go_wp2_with fail;have hal:Below wr wr (wr.alloc (.cells #[c.1,.string ⟨c.2.name.toArray⟩,.int .i64 c.2.cur,.slice F c.2.A0.length G] 126)):=(AN _ _).alloc AK _;have D:=AG.new wr 126 #[c.1,.string ⟨c.2.name.toArray⟩,.int .i64 c.2.cur,.slice F c.2.A0.length G];replace AC:=O Hn;generalize wr.alloc (.cells #[c.1,.string ⟨c.2.name.toArray⟩,.int .i64 c.2.cur,.slice F c.2.A0.length G] 126)=W1 at *;generalize wr.heap.size=b at *;obtain⟨b0,b1,b2,hbl⟩:=AC.o.blk.y3;have AZ:=D.lt;have AP:=D.cell 0;simp only[CH,A8] at AP;by_cases t:i=0
   .subst t;have n:decide ((0:Int)<((0:Nat):Int))=false:=AD;refine uY ?_;replace AC:=O Di;exact Rn
   .have n:=Ar 0 i;obtain⟨k,rfl⟩:∃k,i=k+1:=⟨i-1,U⟩;obtain⟨c',hc'⟩:∃c',x.Ao[k]? = some c':=⟨_,BL U⟩;have AW:decide (c.1<=c'.1)=false:=DI w9;obtain⟨Ac,_,AE,r⟩:=AC.o.law.c1.BT (λ_ _ q=>Cz.len q) k c' hc';obtain⟨_,rfl,_⟩:=AE;have AJ:=r 0 AD;simp only[Ci,A8] at AJ;refine uY ?_;replace AC:=O Di;exact Rq
  .skip
   obtain rfl:i=x.Ao.length:=U;have dl:decide ((x.Ao.length:Int)<(x.Ao.length:Int))=false:=AH;go_wp2_with fail;go_loopw [46] (λC wr=>∃i:Nat,C=.int .i64 (i:Int)/\i<=x.Ao.length/\FZ B w wr x w (.slice P x.Ao.length V) (.slice Q x.Bc.length W) (.slice R x.rat.length X)) (λC _=>x.Ao.length-(intOf C).toNat)
   case atStart=>exact⟨0,rfl,Az _,AC.o⟩
   case round=>
    obtain⟨i,rfl,s,D⟩:=hrel;have AC:=O D;obtain⟨b0,b1,b2,hbl⟩:=AC.o.blk.y3;by_cases K:i<x.Ao.length
    .skip
     have dl:=Ar i x.Ao.length;obtain⟨c,A⟩:=BQ x.Ao i K;have HC:=O A;obtain⟨g,H,u⟩:=AC.o.law.c1.Ch (λ_ _ q=>Cz.len q) i c A;subst H;obtain⟨v,y,T⟩:=GO.o.Ao.all i c A;obtain⟨AT,J,M,I⟩:=AC.o.law.c1.BT (λ_ _ q=>Cz.len q) i c HC.o;obtain⟨AV,rfl,L⟩:=M;obtain⟨AQ,rfl,E⟩:=L;obtain⟨F,G,rfl,_⟩:=AS.slice E;have CT:=O E;obtain⟨AL,N,AM,AO⟩:=LD I;unfold AR at N;go_wp2_with fail;have hal:Below wr wr (wr.alloc (.cells #[c.1,.string ⟨c.2.name.toArray⟩,.int .i64 c.2.cur,.slice F c.2.A0.length G] 126)):=(AN _ _).alloc AK _;replace AC:=O Hn;replace CT:=O (Dh.below CT.o hal);refine(ACr B c.2 _ _ (f.o.after AC.o.AJ) CT.o T).mono ?_;exact qH
    .skip
     obtain rfl:i=x.Ao.length:=U;have dl:decide ((x.Ao.length:Int)<(x.Ao.length:Int))=false:=AH;go_wp2_with fail;go_call ACo B x.Bc _ _ AC.o.law.c2 GO.o.Bc as e w1 ⟨rfl,hb1⟩;replace AC:=O Bg;obtain⟨b0,b1,b2,hbl⟩:=AC.o.blk.y3;by_cases ht0:x.Bc=[]
     .exact qf
     .rw[AU ht0];have Aq:=O (show IU x=0 from AU ht0);go_wp2_with fail;refine(ADH B x.rat _ _ AC.o.law.c3 GO.o.rat).mono ?_;exact qq
def kA(B:Nat)(x:B6)(w:AA)(W X Y:AB)(h:CP B w x W X Y)(Q:Ho x):
 AI 22 #[.agg #[W,X,Y]] w (SH (IU x) w):=by
 have AC:=O (FZ.new h);have GO:=O Q;have AP:=Q.Ao.le;obtain⟨M,S,rfl,_⟩:=h.c1.slice;obtain⟨N,T,rfl,_⟩:=h.c2.slice;obtain⟨P,V,rfl,_⟩:=h.c3.slice;obtain⟨b0,b1,b2,hbl⟩:=AC.o.blk.y3;go_in;go_wp2_with fail;go_loopw [3] (λD wr=>∃i:Nat,D=.int .i64 (i:Int)/\i<=x.Ao.length/\FZ B w wr x w (.slice M x.Ao.length S) (.slice N x.Bc.length T) (.slice P x.rat.length V)) (λD _=>x.Ao.length-(intOf D).toNat)
 case atStart=>exact⟨0,rfl,Az _,AC.o⟩
 case round=>
  obtain⟨i,rfl,n,G⟩:=hrel;have AC:=O G;obtain⟨b0,b1,b2,hbl⟩:=AC.o.blk.y3;by_cases I:i<x.Ao.length
  .skip
   have dl:=Ar i x.Ao.length;obtain⟨c,C⟩:=BQ x.Ao i I;have HC:=O C;obtain⟨g,F,r⟩:=AC.o.law.c1.Ch (λ_ _ A=>Cz.len A) i c C;subst F;obtain⟨s,t,R⟩:=GO.o.Ao.all i c C;obtain⟨AK,f,K,H⟩:=AC.o.law.c1.BT (λ_ _ A=>Cz.len A) i c HC.o;obtain⟨AL,rfl,J⟩:=K;obtain⟨AJ,rfl,E⟩:=J;obtain⟨AF,AG,rfl,_⟩:=AS.slice E;have CT:=O E;obtain⟨y,L,z,AE⟩:=LD H;unfold AR at L;have AN:=A4 c.1 0;have AO:=KI 6 c.1;by_cases q:i=0
   .subst q;have Z:decide ((0:Int)<((0:Nat):Int))=false:=AD;exact Rn
   .have Z:=Ar 0 i;obtain⟨k,rfl⟩:∃k,i=k+1:=⟨i-1,U⟩;obtain⟨c',hc'⟩:∃c',x.Ao[k]? = some c':=⟨_,BL U⟩;have AM:decide (c.1<=c'.1)=false:=DI w9;obtain⟨AQ,_,u,d⟩:=AC.o.law.c1.BT (λ_ _ A=>Cz.len A) k c' hc';obtain⟨_,rfl,_⟩:=u;have v:=d 0 AD;simp only[Ci,A8] at v;exact Rq
  .skip
   obtain rfl:i=x.Ao.length:=U;have dl:decide ((x.Ao.length:Int)<(x.Ao.length:Int))=false:=AH;go_wp2_with fail;go_loopw [5] (λD wr=>∃i:Nat,D=.int .i64 (i:Int)/\i<=x.Ao.length/\FZ B w wr x w (.slice M x.Ao.length S) (.slice N x.Bc.length T) (.slice P x.rat.length V)) (λD _=>x.Ao.length-(intOf D).toNat)
   case atStart=>exact⟨0,rfl,Az _,AC.o⟩
   case round=>
    obtain⟨i,rfl,n,G⟩:=hrel;have AC:=O G;obtain⟨b0,b1,b2,hbl⟩:=AC.o.blk.y3;by_cases I:i<x.Ao.length
    .skip
     have dl:=Ar i x.Ao.length;obtain⟨c,C⟩:=BQ x.Ao i I;have HC:=O C;obtain⟨g,F,r⟩:=AC.o.law.c1.Ch (λ_ _ A=>Cz.len A) i c C;subst F;obtain⟨s,t,R⟩:=GO.o.Ao.all i c C;obtain⟨AK,f,K,H⟩:=AC.o.law.c1.BT (λ_ _ A=>Cz.len A) i c HC.o;obtain⟨AL,rfl,J⟩:=K;obtain⟨AJ,rfl,E⟩:=J;obtain⟨AF,AG,rfl,_⟩:=AS.slice E;have CT:=O E;obtain⟨y,L,z,AE⟩:=LD H;unfold AR at L;go_wp2_with fail;refine(AAk B c.2 _ _ CT.o R).mono ?_;exact qH
    .skip
     obtain rfl:i=x.Ao.length:=U;have dl:decide ((x.Ao.length:Int)<(x.Ao.length:Int))=false:=AH;go_wp2_with fail;go_call AAb B x.Bc _ _ AC.o.law.c2 GO.o.Bc as e w1 ⟨rfl,hb1⟩;replace AC:=O Bg;obtain⟨b0,b1,b2,hbl⟩:=AC.o.blk.y3;by_cases ht0:x.Bc=[]
     .exact qf
     .rw[AU ht0];have Aq:=O (show IU x=0 from AU ht0);go_wp2_with fail;refine(AA9 B x.rat _ _ AC.o.law.c3 GO.o.rat).mono ?_;exact qq
end
def Ha(x:B6)(s:Int):Bool:=x.Ao.any (λA=>A.1==s)
def W6{x:B6}{s:Int}{i:Nat}{p:Int × CL}(A:x.Ao[i]? = some p)(B:p.1=s):Ha x s=true:=Nl.2 ⟨p,Bu A,by rw[B];simp⟩
def nM{x:B6}{s:Int}(A:∀(i:Nat) (p:Int × CL),x.Ao[i]? = some p->p.1≠s):Ha x s=false:=by
 unfold Ha;rw[Wc];intro p C;obtain⟨i,B⟩:=List.mem_iff_getElem?.1 C;simpa using A i p B
structure UY(B:Nat)(W X:AA)(l:List (Int × CL))(v:AB):Prop where
 AJ:Below W W X
 ls:AS B X 126 4 (Cz B X) l v
def UY.below{B:Nat}{W A C:AA}{l:List (Int × CL)}{v:AB}(h:UY B W A l v)(hb:Below A A C):UY B W C l v:=
 ⟨AW h.AJ hb,h.ls.below hb (λ_ _ D=>D.kept (S:=[]) CX My)⟩
def AEH(s t:Int)(B C D:AB)(b:Nat)(w:AA)(A:AG w b 3 #[s]):AI 49 #[.agg #[t,B,C,D],.pointer b] w (Ca (t==s) w):=by
 have F:=A.lt;have E:=A.cell 0;simp only[CH,A8] at E;have hal:Below w w (w.alloc (.cells #[t,B,C,D] 126)):=(AN _ _).alloc AK _;exact UO
def AMp(l:List (Int × CL))(s:Int)(w:AA)(e:Ending)(C:AA):Prop:=
 (e=.returned (.int .i64 (-1))/\(∀(B:Nat) (A:Int × CL),l[B]? = some A->A.1≠s)\/∃(B:Nat) (A:Int × CL),l[B]? = some A/\A.1=s/\e=.returned B)/\Below w w C
def ADv(B:Nat)(l:List (Int × CL))(s:Int)(w:AA)(v:AB)(b:Nat)(h:AS B w 126 4 (Cz B w) l v)(P:AG w b 3 #[s])(k:l.length<=1000):
 AI 48 #[v,.func (.func 49) #[] #[.pointer b]] w (AMp l s w):=by
 obtain⟨a,L,rfl,Y⟩:=h.slice;have AC:Hid (UY B w w l (.slice a l.length L)):=⟨AN _ _,h⟩;have J:=O P;go_in;go_wp2_with fail;go_loopw [8] (λH wr=>∃i:Nat,H=.int .i64 (i:Int)/\i<=l.length/\UY B w wr l (.slice a l.length L)/\Hid (∀(A:Nat) (p:Int × CL),A<i->l[A]? = some p->p.1≠s)) (λH _=>l.length-(intOf H).toNat)
 case atStart=>exact⟨0,rfl,Az _,AC.o,O (λA p F=>by cases F)⟩
 case round=>
  obtain⟨i,rfl,d,Q,I⟩:=hrel;have AC:=O Q;by_cases S:i<l.length
  .have dl:=Ar i l.length;obtain⟨c,K⟩:=BQ l i S;have D:=O K;obtain⟨g,N,f⟩:=AC.o.ls.Ch (λ_ _ G=>Cz.len G) i c K;subst N;obtain⟨z,Z,V,R⟩:=AC.o.ls.BT (λ_ _ G=>Cz.len G) i c D.o;obtain⟨AD,rfl,T⟩:=V;obtain⟨y,rfl,W⟩:=T;obtain⟨t,u,rfl,_⟩:=AS.slice W;obtain⟨n,X,q,r⟩:=LD R;unfold AR at X;go_wp2_with fail;go_call AEH s c.1 _ _ _ b _ (J.o.below AC.o.AJ J.o.lt) as e w1 ⟨rfl,hb1⟩;replace AC:=O Bg;by_cases hs:c.1=s
   .have M:(c.1==s)=true:=SI;have E:=O hs;go_wp2_with fail;go_ret;exact⟨.inr ⟨i,c,D.o,E.o,rfl⟩,AC.o.AJ⟩
   .have M:(c.1==s)=false:=SI;have E:=O hs;go_wp2_with fail;go_roundw
    case rel=>exact⟨i+1,A7,U,AC.o,O (λA p F C=>by
     rcases Nat.lt_succ_iff_lt_or_eq.1 F with h|rfl
     .exact I.o A p h C
     .rw[D.o] at C;cases C;exact E.o)⟩
    case measure=>exact A5
  .obtain rfl:i=l.length:=U;have dl:decide ((l.length:Int)<(l.length:Int))=false:=AH;go_wp2_with fail;go_ret;exact⟨.inl ⟨rfl,λA p C=>I.o A p (Cd.1 C).1 C⟩,AC.o.AJ⟩
def ANh(x:B6)(s:Int)(w:AA)(e:Ending)(A:AA):Prop:=(∃c:Int,e=.returned (.tuple #[c,.bool (Ha x s)]))/\Below w w A
def lL(B:Nat)(x:B6)(s:Int)(w:AA)(L M N:AB)(h:CP B w x L M N)(V:x.Ao.length<=1000):
 AI 18 #[.agg #[L,M,N],s] w (ANh x s w):=by
 have AC:=O (FZ.new h);obtain⟨A,G,rfl,_⟩:=h.c1.slice;obtain⟨C,H,rfl,_⟩:=h.c2.slice;obtain⟨D,I,rfl,_⟩:=h.c3.slice;have S:Below (w.heap.size+1) (w.alloc (.cells #[.slice A x.Ao.length G,.slice C x.Bc.length H,.slice D x.rat.length I] 33)) ((w.alloc (.cells #[.slice A x.Ao.length G,.slice C x.Bc.length H,.slice D x.rat.length I] 33)).alloc (.cells #[s] 3)):=(AN _ _).alloc AH _;have K:(w.alloc (.cells #[.slice A x.Ao.length G,.slice C x.Bc.length H,.slice D x.rat.length I] 33)).heap.size=w.heap.size+1:=AH;have T:=AG.newAt (w.alloc (.cells #[.slice A x.Ao.length G,.slice C x.Bc.length H,.slice D x.rat.length I] 33)) (w.heap.size+1) 3 #[s] K.symm;replace AC:=O (AC.o.below (by rw[K];exact S));have Q:=O T;go_in;go_wp2_with fail;go_call ADv B x.Ao s _ _ (w.heap.size+1) AC.o.law.c1 Q.o V as e w1 ⟨hr,hb1⟩;replace AC:=O Bg;obtain⟨i,k,n,r⟩:=AC.o.blk.y3;rcases hr with ⟨rfl,W⟩|⟨F,c,E,X,rfl⟩
 .have KA:=O (nM W);go_wp2_with fail;go_ret2;exact⟨⟨0,ZW⟩,AC.o.AJ⟩
 .have KA:=O (W6 E X);have P:=O E;have u:F<x.Ao.length:=(Cd.1 E).1;have q:=A4 F 0;obtain⟨g,R,v⟩:=AC.o.law.c1.Ch (λ_ _ J=>Cz.len J) F c E;subst R;obtain⟨AK,t,Z,U⟩:=AC.o.law.c1.BT (λ_ _ J=>Cz.len J) F c P.o;obtain⟨AL,rfl,Y⟩:=Z;obtain⟨AJ,rfl,d⟩:=Y;obtain⟨AE,AF,rfl,_⟩:=AS.slice d;obtain⟨y,f,z,AD⟩:=LD U;unfold AR at f;go_wp2_with fail;go_ret2;exact⟨⟨_,ZW⟩,AC.o.AJ⟩
def ALm(x:B6)(s:Int)(w:AA)(e:Ending)(E:AA):Prop:=(∃(D:ByteArray) (c:Int) (A:BH) (C B:Nat),e=.returned (.tuple #[.agg #[.string D,c,.slice A C B],.bool (Ha x s)]))/\Below w w E
def j7(B:Nat)(x:B6)(s:Int)(w:AA)(f k n:AB)(h:CP B w x f k n)(AM:x.Ao.length<=1000):
 AI 23 #[.agg #[f,k,n],s] w (ALm x s w):=by
 have AC:=O (FZ.new h);obtain⟨E,J,rfl,_⟩:=h.c1.slice;obtain⟨F,K,rfl,_⟩:=h.c2.slice;obtain⟨G,L,rfl,_⟩:=h.c3.slice;have d:(w.alloc (.cells #[.slice E x.Ao.length J,.slice F x.Bc.length K,.slice G x.rat.length L] 33)).heap.size=w.heap.size+1:=AH;have CM:=O (AG.newAt (w.alloc (.cells #[.slice E x.Ao.length J,.slice F x.Bc.length K,.slice G x.rat.length L] 33)) (w.heap.size+1) 78 #[.string .empty,(),AL] d.symm);replace AC:=O (AC.o.below ((AN _ _).alloc AK (.cells #[.string .empty,(),AL] 78)));clear h d;obtain⟨R,S,T,W⟩:=AC.o.blk.y3;go_in;go_wp2_with fail;refine Bn (λQ=>FZ B w Q x w (.slice E x.Ao.length J) (.slice F x.Bc.length K) (.slice G x.rat.length L)/\AG Q (w.heap.size+1) 78 #[.string .empty,(),AL]) ⟨AC.o,CM.o⟩ ?_;clear AC CM R S T W;rintro r ⟨V,Z⟩;have AC:=O V;have CM:=O Z;clear V Z;obtain⟨R,S,T,W⟩:=AC.o.blk.y3;go_loopw [6] (λN wr=>∃i:Nat,N=.int .i64 (i:Int)/\i<=x.Ao.length/\wr=r/\Hid (∀(A:Nat) (p:Int × CL),A<i->x.Ao[A]? = some p->p.1≠s)) (λN _=>x.Ao.length-(intOf N).toNat)
 case atStart=>exact⟨0,rfl,Az _,rfl,O (λA p I=>by cases I)⟩
 case round=>
  obtain⟨i,rfl,y,rfl,P⟩:=hrel;by_cases Y:i<x.Ao.length
  .have dl:=Ar i x.Ao.length;obtain⟨c,H⟩:=BQ x.Ao i Y;have D:=O H;obtain⟨g,u,AJ⟩:=AC.o.law.c1.Ch (λ_ _ M=>Cz.len M) i c H;subst u;clear H;obtain⟨AW,AF,AD,X⟩:=AC.o.law.c1.BT (λ_ _ M=>Cz.len M) i c D.o;obtain⟨AX,rfl,z⟩:=AD;obtain⟨AV,rfl,e⟩:=z;obtain⟨AT,AU,rfl,_⟩:=AS.slice e;obtain⟨AO,AE,AP,AQ⟩:=LD X;unfold AR at AE;clear X e;by_cases hs:c.1=s
   .have t:(c.1==s)=true:=SI;have KA:Hid (Ha x s=true):=O (W6 D.o hs);clear hs;exact sa
   .have t:(c.1==s)=false:=SI;have q:=O hs;clear hs;go_wp2_with fail;go_roundw
    case rel=>exact⟨i+1,A7,U,trivial,O (λA p I C=>by
     rcases Nat.lt_succ_iff_lt_or_eq.1 I with h|rfl
     .exact P.o A p h C
     .rw[D.o] at C;cases C;exact q.o)⟩
    case measure=>exact A5
  .obtain rfl:i=x.Ao.length:=U;have dl:decide ((x.Ao.length:Int)<(x.Ao.length:Int))=false:=AH;have KA:Hid (Ha x s=false):=O (nM (λA p C=>P.o A p (Cd.1 C).1 C));clear Y y;exact sa
def ALg:(prog.info? 121).map (λi=>(i.zero,i.size,i.bytes))=some (some (.agg #[(),(),(),()]),4,32):=AF
def LQ{w:AA}{B e size:Nat}{v:AB}{n:Nat}{us:List AB}(E:w.ownsRow B e size v n us)(I:v≠.slice none 0 0):
 ∃g A,v=.slice (some ⟨g,0,none⟩) n A/\n<=A/\g<w.heap.size/\(∀(j:Nat) (u:AB),us[j]? = some u->w.cell? ⟨g,j,none⟩=some u):=by
 rcases E.2 with ⟨F,_⟩|⟨g,A,cur,rfl,_,D,G,_,_,H⟩
 .exact absurd F I
 .refine⟨g,A,rfl,G,AG.lt (t:=e) (cs:=cur) D,λj u C=>?_⟩;rw[AG.cell (t:=e) (cs:=cur) D,<-Ng];rw[<-H,Lc] at C;split at C
  .exact C
  .cases C
def K_(C size n:Nat)(us:List AB)(w:AA)(e:Ending)(B:AA):Prop:=∃A,e=.returned A/\B.ownsRow w C size A n us/\Below w w B
def AJX(B n:Nat)(us:List AB)(w:AA)(v:AB)(h:w.ownsRow B 206 2 v n us)(Q:n<=1000)(G:∀u∈us,u.oneCell'=true):
 AI 102 #[v] w (K_ 206 2 n us w):=by
 obtain⟨M,I,J,K,L⟩:=info_parts e_;have R:∀(w:AA) (A:BH) (n c D C:Nat),(binOp .eql 145 (.slice A n c) (.slice none D C)).run prog w=.ok (.bool A.isNone) w:=λw A n c D C=>Lib.run_eql_slice_nil w _ _ A n c D C underlying145;have hlen:=h.1;by_cases hv:v=.slice none 0 0
 .exact Lv
 .obtain⟨g,cap,rfl,N,P,H⟩:=LQ h hv;have HC:=O H;have F:=O hlen;have E:=O G;go_in;go_wp2_with (at_builtin;refine I8 _ rfl _ _ 145 rfl w 206 M (.agg #[(),()]) 2 16 underlying145 I J K L rfl AD _ _ _ rfl Lx ⟨g,0,none⟩ n cap us rfl F.o ?qc2 E.o ?qc4 ?qc5 ?qc6 ?_)
  case qc2=>
   exact Lr
  case qc4=>unfold maxLen;omega
  case qc5=>omega
  case qc6=>simp
  exact Ls
def AJV(B n:Nat)(us:List AB)(w:AA)(v:AB)(h:w.ownsRow B 209 3 v n us)(Q:n<=1000)(G:∀u∈us,u.oneCell'=true):
 AI 103 #[v] w (K_ 209 3 n us w):=by
 obtain⟨M,I,J,K,L⟩:=info_parts tF;have R:∀(w:AA) (A:BH) (n c D C:Nat),(binOp .eql 146 (.slice A n c) (.slice none D C)).run prog w=.ok (.bool A.isNone) w:=λw A n c D C=>Lib.run_eql_slice_nil w _ _ A n c D C underlying146;have hlen:=h.1;by_cases hv:v=.slice none 0 0
 .exact Lv
 .obtain⟨g,cap,rfl,N,P,H⟩:=LQ h hv;have HC:=O H;have F:=O hlen;have E:=O G;go_in;go_wp2_with (at_builtin;refine I8 _ rfl _ _ 146 rfl w 209 M (.agg #[(),(),()]) 3 24 underlying146 I J K L rfl AD _ _ _ rfl Lx ⟨g,0,none⟩ n cap us rfl F.o ?qc2 E.o ?qc4 ?qc5 ?qc6 ?_)
  case qc2=>
   exact Lr
  case qc4=>unfold maxLen;omega
  case qc5=>omega
  case qc6=>simp
  exact Ls
def AJU(B n:Nat)(us:List AB)(w:AA)(v:AB)(h:w.ownsRow B 215 7 v n us)(Q:n<=1000)(G:∀u∈us,u.oneCell'=true):
 AI 104 #[v] w (K_ 215 7 n us w):=by
 obtain⟨M,I,J,K,L⟩:=info_parts tH;have R:∀(w:AA) (A:BH) (n c D C:Nat),(binOp .eql 147 (.slice A n c) (.slice none D C)).run prog w=.ok (.bool A.isNone) w:=λw A n c D C=>Lib.run_eql_slice_nil w _ _ A n c D C underlying147;have hlen:=h.1;by_cases hv:v=.slice none 0 0
 .exact Lv
 .obtain⟨g,cap,rfl,N,P,H⟩:=LQ h hv;have HC:=O H;have F:=O hlen;have E:=O G;go_in;go_wp2_with (at_builtin;refine I8 _ rfl _ _ 147 rfl w 215 M (.agg #[.string .empty,(),(),(),(),.string .empty,AL]) 7 88 underlying147 I J K L rfl AD _ _ _ rfl Lx ⟨g,0,none⟩ n cap us rfl F.o ?qc2 E.o ?qc4 ?qc5 ?qc6 ?_)
  case qc2=>
   exact Lr
  case qc4=>unfold maxLen;omega
  case qc5=>omega
  case qc6=>simp
  exact Ls
def AJW(B n:Nat)(us:List AB)(w:AA)(v:AB)(h:w.ownsRow B 218 13 v n us)(Q:n<=1000)(G:∀u∈us,u.oneCell'=true):
 AI 105 #[v] w (K_ 218 13 n us w):=by
 obtain⟨M,I,J,K,L⟩:=info_parts tJ;have R:∀(w:AA) (A:BH) (n c D C:Nat),(binOp .eql 148 (.slice A n c) (.slice none D C)).run prog w=.ok (.bool A.isNone) w:=λw A n c D C=>Lib.run_eql_slice_nil w _ _ A n c D C underlying148;have hlen:=h.1;by_cases hv:v=.slice none 0 0
 .exact Lv
 .obtain⟨g,cap,rfl,N,P,H⟩:=LQ h hv;have HC:=O H;have F:=O hlen;have E:=O G;go_in;go_wp2_with (at_builtin;refine I8 _ rfl _ _ 148 rfl w 218 M (.agg #[(),(),(),(),(),.string .empty,AL,(),(),(),(),.string .empty,AL]) 13 152 underlying148 I J K L rfl AD _ _ _ rfl Lx ⟨g,0,none⟩ n cap us rfl F.o ?qc2 E.o ?qc4 ?qc5 ?qc6 ?_)
  case qc2=>
   exact Lr
  case qc4=>unfold maxLen;omega
  case qc5=>omega
  case qc6=>simp
  exact Ls
def AJS(B n:Nat)(us:List AB)(w:AA)(v:AB)(h:w.ownsRow B 221 7 v n us)(Q:n<=1000)(G:∀u∈us,u.oneCell'=true):
 AI 106 #[v] w (K_ 221 7 n us w):=by
 obtain⟨M,I,J,K,L⟩:=info_parts tG;have R:∀(w:AA) (A:BH) (n c D C:Nat),(binOp .eql 149 (.slice A n c) (.slice none D C)).run prog w=.ok (.bool A.isNone) w:=λw A n c D C=>Lib.run_eql_slice_nil w _ _ A n c D C underlying149;have hlen:=h.1;by_cases hv:v=.slice none 0 0
 .exact Lv
 .obtain⟨g,cap,rfl,N,P,H⟩:=LQ h hv;have HC:=O H;have F:=O hlen;have E:=O G;go_in;go_wp2_with (at_builtin;refine I8 _ rfl _ _ 149 rfl w 221 M (.agg #[(),(),(),(),(),.string .empty,AL]) 7 80 underlying149 I J K L rfl AD _ _ _ rfl Lx ⟨g,0,none⟩ n cap us rfl F.o ?qc2 E.o ?qc4 ?qc5 ?qc6 ?_)
  case qc2=>
   exact Lr
  case qc4=>unfold maxLen;omega
  case qc5=>omega
  case qc6=>simp
  exact Ls
def AJP(B n:Nat)(us:List AB)(w:AA)(v:AB)(h:w.ownsRow B 151 8 v n us)(Q:n<=1000)(G:∀u∈us,u.oneCell'=true):
 AI 53 #[v] w (K_ 151 8 n us w):=by
 obtain⟨M,I,J,K,L⟩:=info_parts ev;have R:∀(w:AA) (A:BH) (n c D C:Nat),(binOp .eql 76 (.slice A n c) (.slice none D C)).run prog w=.ok (.bool A.isNone) w:=λw A n c D C=>Lib.run_eql_slice_nil w _ _ A n c D C underlying76;have hlen:=h.1;by_cases hv:v=.slice none 0 0
 .exact Lv
 .obtain⟨g,cap,rfl,N,P,H⟩:=LQ h hv;have HC:=O H;have F:=O hlen;have E:=O G;go_in;go_wp2_with (at_builtin;refine I8 _ rfl _ _ 76 rfl w 151 M (.agg #[(),(),(),AL,AL,AL,AL,AL]) 8 144 underlying76 I J K L rfl AD _ _ _ rfl Lx ⟨g,0,none⟩ n cap us rfl F.o ?qc2 E.o ?qc4 ?qc5 ?qc6 ?_)
  case qc2=>
   exact Lr
  case qc4=>unfold maxLen;omega
  case qc5=>omega
  case qc6=>simp
  exact Ls
def AJQ(B n:Nat)(us:List AB)(w:AA)(v:AB)(h:w.ownsRow B 126 4 v n us)(Q:n<=1000)(G:∀u∈us,u.oneCell'=true):
 AI 50 #[v] w (K_ 126 4 n us w):=by
 obtain⟨M,I,J,K,L⟩:=info_parts tE;have R:∀(w:AA) (A:BH) (n c D C:Nat),(binOp .eql 29 (.slice A n c) (.slice none D C)).run prog w=.ok (.bool A.isNone) w:=λw A n c D C=>Lib.run_eql_slice_nil w _ _ A n c D C underlying29;have hlen:=h.1;by_cases hv:v=.slice none 0 0
 .exact Lv
 .obtain⟨g,cap,rfl,N,P,H⟩:=LQ h hv;have HC:=O H;have F:=O hlen;have E:=O G;go_in;go_wp2_with (at_builtin;refine I8 _ rfl _ _ 29 rfl w 126 M (.agg #[(),.string .empty,(),AL]) 4 56 underlying29 I J K L rfl AD _ _ _ rfl Lx ⟨g,0,none⟩ n cap us rfl F.o ?qc2 E.o ?qc4 ?qc5 ?qc6 ?_)
  case qc2=>
   exact Lr
  case qc4=>unfold maxLen;omega
  case qc5=>omega
  case qc6=>simp
  exact Ls
def AJR(B n:Nat)(us:List AB)(w:AA)(v:AB)(h:w.ownsRow B 128 5 v n us)(Q:n<=1000)(G:∀u∈us,u.oneCell'=true):
 AI 51 #[v] w (K_ 128 5 n us w):=by
 obtain⟨M,I,J,K,L⟩:=info_parts ez;have R:∀(w:AA) (A:BH) (n c D C:Nat),(binOp .eql 30 (.slice A n c) (.slice none D C)).run prog w=.ok (.bool A.isNone) w:=λw A n c D C=>Lib.run_eql_slice_nil w _ _ A n c D C underlying30;have hlen:=h.1;by_cases hv:v=.slice none 0 0
 .exact Lv
 .obtain⟨g,cap,rfl,N,P,H⟩:=LQ h hv;have HC:=O H;have F:=O hlen;have E:=O G;go_in;go_wp2_with (at_builtin;refine I8 _ rfl _ _ 30 rfl w 128 M (.agg #[(),(),(),(),AL]) 5 56 underlying30 I J K L rfl AD _ _ _ rfl Lx ⟨g,0,none⟩ n cap us rfl F.o ?qc2 E.o ?qc4 ?qc5 ?qc6 ?_)
  case qc2=>
   exact Lr
  case qc4=>unfold maxLen;omega
  case qc5=>omega
  case qc6=>simp
  exact Ls
def AJT(B n:Nat)(us:List AB)(w:AA)(v:AB)(h:w.ownsRow B 121 4 v n us)(Q:n<=1000)(G:∀u∈us,u.oneCell'=true):
 AI 52 #[v] w (K_ 121 4 n us w):=by
 obtain⟨M,I,J,K,L⟩:=info_parts ALg;have R:∀(w:AA) (A:BH) (n c D C:Nat),(binOp .eql 31 (.slice A n c) (.slice none D C)).run prog w=.ok (.bool A.isNone) w:=λw A n c D C=>Lib.run_eql_slice_nil w _ _ A n c D C underlying31;have hlen:=h.1;by_cases hv:v=.slice none 0 0
 .exact Lv
 .obtain⟨g,cap,rfl,N,P,H⟩:=LQ h hv;have HC:=O H;have F:=O hlen;have E:=O G;go_in;go_wp2_with (at_builtin;refine I8 _ rfl _ _ 31 rfl w 121 M (.agg #[(),(),(),()]) 4 32 underlying31 I J K L rfl AD _ _ _ rfl Lx ⟨g,0,none⟩ n cap us rfl F.o ?qc2 E.o ?qc4 ?qc5 ?qc6 ?_)
  case qc2=>
   exact Lr
  case qc4=>unfold maxLen;omega
  case qc5=>omega
  case qc6=>simp
  exact Ls
def AJO(B n:Nat)(us:List AB)(w:AA)(v:AB)(h:w.ownsRow B 3 1 v n us)(Q:n<=1000)(G:∀u∈us,u.oneCell'=true):
 AI 55 #[v] w (K_ 3 1 n us w):=by
 obtain⟨M,I,J,K,L⟩:=info_parts tI;have R:∀(w:AA) (A:BH) (n c D C:Nat),(binOp .eql 22 (.slice A n c) (.slice none D C)).run prog w=.ok (.bool A.isNone) w:=λw A n c D C=>Lib.run_eql_slice_nil w _ _ A n c D C underlying22;have hlen:=h.1;by_cases hv:v=.slice none 0 0
 .exact Lv
 .obtain⟨g,cap,rfl,N,P,H⟩:=LQ h hv;have HC:=O H;have F:=O hlen;have E:=O G;go_in;go_wp2_with (at_builtin;refine I8 _ rfl _ _ 22 rfl w 3 M () 1 8 underlying22 I J K L rfl AD _ _ _ rfl Lx ⟨g,0,none⟩ n cap us rfl F.o ?qc2 E.o ?qc4 ?qc5 ?qc6 ?_)
  case qc2=>
   exact Lr
  case qc4=>unfold maxLen;omega
  case qc5=>omega
  case qc6=>simp
  exact Ls
def ALi:(prog.info? 213).map (λi=>(i.zero,i.size,i.bytes))=some (some (.agg #[(),(),(),(),.string .empty,AL]),6,72):=AF
def zx:(prog.info? 213).map (·.size)=some 6:=AF
def AY.AHT(e:AY):∃n d A s,∀v,e.head v=H2 e.op n d A s v:=by
 cases e<;>exact⟨_,_,_,_,λ_=>rfl⟩
def IP{w:AA}{g:Nat}{t:TypeId}{cs:Array AB}(h:AG w g t cs)(o:Nat)(u0 u1 u2 u3 u4 u5:AB)(D:o+6<=cs.size):
 ∃A,AG ((((((w.setCell ⟨g,o,none⟩ u0).setCell ⟨g,o+1,none⟩ u1).setCell ⟨g,o+2,none⟩ u2).setCell ⟨g,o+3,none⟩ u3).setCell ⟨g,o+4,none⟩ u4).setCell ⟨g,o+5,none⟩ u5) g t A/\A.size=cs.size/\
  (∀j,j<6->A[o+j]? = [u0,u1,u2,u3,u4,u5][j]?)/\(∀k,k<o\/o+6<=k->A[k]? = cs[k]?):=by
 refine⟨_,(((((h.put o u0).put (o+1) u1).put (o+2) u2).put (o+3) u3).put (o+4) u4).put (o+5) u5,AH,λj B=>?_,λk C=>?_⟩
 .rcases (show j=0\/j=1\/j=2\/j=3\/j=4\/j=5 by omega) with rfl|rfl|rfl|rfl|rfl|rfl<;>simp[I']<;>omega
 .exact p7
structure L1(P:Nat->Prop)(w X:AA)(e:AY)(vs:List AB)(g i:Nat):Prop where
 AJ:Below w w X
 src:Ai (λk=>P k/\k<w.heap.size) X e vs
 blk:AG X w 213 vs.toArray
 res:AG X (w.heap.size+1) 213 #[(),(),(),(),.string .empty,AL]
 lo:w.heap.size+1+1<=g
 dst:∃(cs:Array AB) (us:Nat->List AB),AG X g 213 cs/\cs.size=e.kids.length*6/\∀k,k<i->∀x,e.kids[k]? = some x->(∀j,j<6->cs[k*6+j]? = (us k)[j]?)/\(us k).length=6/\Ai (λq=>g<q) X x (us k)
section
variable {P:Nat->Prop} {w X Y:AA} {e:AY} {vs:List AB} {g i:Nat}
def L1.below(A:L1 P w X e vs g i)(B:Below X X Y):L1 P w Y e vs g i:=by
 obtain⟨I,K,H,J,C⟩:=A.dst;exact⟨AW A.AJ B,A.src.stay B,A.blk.below B A.blk.lt,A.res.below B A.res.lt,A.lo,I,K,H.below B H.lt,J,λF D G E=>⟨(C F D G E).1,(C F D G E).2.1,(C F D G E).2.2.stay B⟩⟩
def L1.next(h:L1 P w X e vs g i){x:AY}(M:e.kids[i]? = some x){u0 u1 u2 u3 u4 u5:AB}(S:Ai (λq=>g<q) X x [u0,u1,u2,u3,u4,u5]):
 L1 P w ((((((X.setCell ⟨g,i*6,none⟩ u0).setCell ⟨g,i*6+1,none⟩ u1).setCell ⟨g,i*6+2,none⟩ u2).setCell ⟨g,i*6+3,none⟩ u3).setCell ⟨g,i*6+4,none⟩ u4).setCell ⟨g,i*6+5,none⟩ u5) e vs g (i+1):=by
 obtain⟨j,C,O,J,Q⟩:=h.dst;have k:i<e.kids.length:=(Cd.1 M).1;have m:=h.lo;have G:∀(E:Nat->Prop) (D:AY) (C:List AB),(∀q,E q->q≠g)->Ai E X D C->Ai E ((((((X.setCell ⟨g,i*6,none⟩ u0).setCell ⟨g,i*6+1,none⟩ u1).setCell ⟨g,i*6+2,none⟩ u2).setCell ⟨g,i*6+3,none⟩ u3).setCell ⟨g,i*6+4,none⟩ u4).setCell ⟨g,i*6+5,none⟩ u5) D C:=
  λE D C hq h=>(((((h.set u0 (p:=⟨g,i*6,none⟩) hq).set u1 (p:=⟨g,i*6+1,none⟩) hq).set u2 (p:=⟨g,i*6+2,none⟩) hq).set u3 (p:=⟨g,i*6+3,none⟩) hq).set u4 (p:=⟨g,i*6+4,none⟩) hq).set u5 (p:=⟨g,i*6+5,none⟩) hq
 have K:∀(F:Nat) (I:TypeId) (c:Array AB),F≠g->AG X F I c->AG ((((((X.setCell ⟨g,i*6,none⟩ u0).setCell ⟨g,i*6+1,none⟩ u1).setCell ⟨g,i*6+2,none⟩ u2).setCell ⟨g,i*6+3,none⟩ u3).setCell ⟨g,i*6+4,none⟩ u4).setCell ⟨g,i*6+5,none⟩ u5) F I c:=
  λF I c A h=>(((((h.far (p:=⟨g,i*6,none⟩) A u0).far (p:=⟨g,i*6+1,none⟩) A u1).far (p:=⟨g,i*6+2,none⟩) A u2).far (p:=⟨g,i*6+3,none⟩) A u3).far (p:=⟨g,i*6+4,none⟩) A u4).far (p:=⟨g,i*6+5,none⟩) A u5
 have hw:w.heap.size<=g:=U;obtain⟨N,V,W,Z,a⟩:=IP O (i*6) u0 u1 u2 u3 u4 u5 (by rw[J];omega);refine⟨(((((h.AJ.setCell (p:=⟨g,i*6,none⟩) hw u0).setCell (p:=⟨g,i*6+1,none⟩) hw u1).setCell (p:=⟨g,i*6+2,none⟩) hw u2).setCell (p:=⟨g,i*6+3,none⟩) hw u3).setCell (p:=⟨g,i*6+4,none⟩) hw u4).setCell (p:=⟨g,i*6+5,none⟩) hw u5,
  G _ _ _ (λq hq=>by have:=hq.2;omega) h.src,K _ _ _ U h.blk,K _ _ _ U h.res,h.lo,N,λB=>if B=i then [u0,u1,u2,u3,u4,u5] else C B,V,by rw[W,J],λB l D H=>?_⟩
 by_cases L:B=i
 .subst L;rw[M] at H;cases H;simp only[CI];exact⟨Z,rfl,G _ _ _ Yt S⟩
 .simp only[AU L];obtain⟨b,d,f⟩:=Q B U D H;exact⟨λT R=>by rw[a _ (.inl U)];exact b T R,d,G _ _ _ Yt f⟩
def L1.done(h:L1 P w X e vs g e.kids.length):Ai (λq=>w.heap.size+1<q) X e (e.head (.slice g e.kids.length e.kids.length)):=by
 obtain⟨E,I,F,J,D⟩:=h.dst;have L:=h.lo;refine .mk e _ _ g 0 I AK (λ_=>⟨rfl,U⟩) (λi C A=>?_) (λi C A=>?_)
 .have B:=(Cd.1 A).1;obtain⟨H,M,_⟩:=D i B C A;exact⟨E,F,λG K=>by rw[DP];exact H G U⟩
 .have B:=(Cd.1 A).1;exact(D i B C A).2.2.mono Yt
end
def iF(e:AY)(w:AA)(B:Ending)(A:AA):Prop:=∃vs,B=.returned (.agg vs.toArray)/\Ai (λC=>w.heap.size<=C) A e vs/\Below w w A
def AEJ(P:Nat->Prop)(e:AY)(AF:∀k∈e.kids,∀(Q:Nat->Prop) (w:AA) (vs:List AB),Ai Q w k vs->AI 107 #[.agg vs.toArray] w (iF k w))
 (w:AA)(vs:List AB)(h:Ai P w e vs):AI 107 #[.agg vs.toArray] w (iF e w):=by
 have AJ:=O AF;have A9:=e.Qo;obtain⟨a,c,_,_,_,r,A6,_⟩:=h.inv;obtain⟨I,E,F,K,m⟩:=e.AHT;rw[m] at r;have z:=O m;subst r;generalize e.op=J at *;unfold H2 AR at *;change AI 107 #[.agg #[J,I,E,F,.string ⟨K.toArray⟩,.slice a e.kids.length c]] w _
 have AE:=O h.old;obtain⟨Ae,n,V,L,W⟩:=info_parts ALi;have A8:∀w,(Instr.makeSlice 211 e.kids.length e.kids.length).run prog w=.ok (.slice w e.kids.length e.kids.length) (w.alloc (.cells (madeCells #[(),(),(),(),.string .empty,AL] (e.kids.length*6)) 213)):=by
  intro w;have:=run_makeSlice (P:=prog) (w:=w) 211 213 Ae _ underlying211 n V .i64 .i64 (e.kids.length:Int) (e.kids.length:Int) U U (by rw[L];omega) (by rw[W];omega) U;rw[L,show(Value.agg #[(),(),(),(),.string .empty,AL]).cells=(#[(),(),(),(),.string .empty,AL]:Array AB) from by kernel_rfl] at this;exact E_
 go_in;go_wp2_with fail;refine Bn (λX=>L1 P w X e [.int .i64 J,.int .i64 I,.int .i64 E,.int .i64 F,.string ⟨K.toArray⟩,.slice a e.kids.length c] (w.heap.size+1+1) 0) ?start ?_;case start=>
  have M:=(AN w w).alloc AK (.cells #[J,I,E,F,.string ⟨K.toArray⟩,.slice a e.kids.length c] 213);have N:=M.alloc AH (.cells #[(),(),(),(),.string .empty,AL] 213);have H:=N.alloc AM (.cells (madeCells #[(),(),(),(),.string .empty,AL] (e.kids.length*6)) 213);exact⟨H,AE.o.stay H,((AG.new w _ _).alloc _).alloc _,(AG.newAt _ _ _ _ AH).alloc _,Bh _,_,λ_=>[],AG.newAt _ _ _ _ AH,size_madeCells _ _,λk G=>by cases G⟩
 intro Ag T;have A:=O T;go_loopw [13] (λZ wr=>∃i:Nat,Z=.int .i64 (i:Int)/\i<=e.kids.length/\L1 P w wr e [.int .i64 J,.int .i64 I,.int .i64 E,.int .i64 F,.string ⟨K.toArray⟩,.slice a e.kids.length c] (w.heap.size+1+1) i) (λZ _=>e.kids.length-(intOf Z).toNat)
 case atStart=>exact⟨0,rfl,Az _,A.o⟩
 case round=>
  obtain⟨i,rfl,n,T⟩:=hrel;have A:=O T;by_cases AX:i<e.kids.length
  .obtain⟨k,G⟩:=BQ e.kids i AX;obtain⟨g,o,s,M,N,H,t,v,y,u,rfl,-,A',A3,Aa,BA,BB,BC,BD,BF,BG⟩:=A.o.src.MW rfl i k G;have dl:=Ar i e.kids.length;have R:=O Aa;have AC:=O G;have AD:=O (Bu G);go_wp2_with fail;have f:Below wr wr (wr.alloc (.cells #[s,M,N,H,.string ⟨t.toArray⟩,.slice v y u] 213)):=(AN _ _).alloc AK _;replace A:=O (A.o.below f);replace R:=O (R.o.stay f);go_call AJ.o k AD.o _ _ _ R.o as en w1 ⟨vs',rfl,ht1,hb1⟩;have AZ:=A.o.dst;obtain⟨D,BO,B,A2,_⟩:=AZ;have AW:=B.lt;have S:Ai (λq=>w.heap.size+1+1<q) w1 k vs':=ht1.mono (λq hq=>by have:(wr.alloc (.cells #[s,M,N,H,.string ⟨t.toArray⟩,.slice v y u] 213)).heap.size<=q:=hq;omega);obtain⟨BP,BR,BS,BT,BU,BW,BX,BV,rfl⟩:=S.BS;replace A:=O (A.o.below hb1);replace B:=B.below hb1 AW;have Af:=O S;have d:=O (A.o.next AC.o S);unfold AR at d;have A4:=B.lt;have AO:=B.cell (i*6);have AP:=B.cell (i*6+1);have AQ:=B.cell (i*6+2);have AS:=B.cell (i*6+3);have AT:=B.cell (i*6+4);have AU:=B.cell (i*6+5);obtain⟨BY,V⟩:∃C,D[i*6]? = some C:=⟨_,Cn U⟩;rw[V] at AO;obtain⟨BZ,L⟩:∃C,D[i*6+1]? = some C:=⟨_,Cn U⟩;rw[L] at AP;obtain⟨Ba,W⟩:∃C,D[i*6+2]? = some C:=⟨_,Cn U⟩;rw[W] at AQ;obtain⟨Bb,Ab⟩:∃C,D[i*6+3]? = some C:=⟨_,Cn U⟩;rw[Ab] at AS;obtain⟨Bc,Ac⟩:∃C,D[i*6+4]? = some C:=⟨_,Cn U⟩;rw[Ac] at AT;obtain⟨Bd,Ad⟩:∃C,D[i*6+5]? = some C:=⟨_,Cn U⟩;rw[Ad] at AU;have Av:=B.frozen (i*6);have Aw:=B.frozen (i*6+1);have Ax:=B.frozen (i*6+2);have Ay:=B.frozen (i*6+3);have A0:=B.frozen (i*6+4);have AV:=B.frozen (i*6+5);go_wp2_with fail;go_roundw
   case rel=>exact⟨i+1,A7,U,d.o⟩
   case measure=>exact A5
  .obtain rfl:i=e.kids.length:=U;have dl:decide ((e.kids.length:Int)<(e.kids.length:Int))=false:=AH;obtain⟨Ah,Aj,Ak,Al,Am,An,A1⟩:=A.o.blk.y6;obtain⟨BH,BI,BJ,BK,BM,BN,A_⟩:=A.o.res.y6;have AV:=A.o.blk.frozen 5;obtain⟨Ao,Ap,Aq,As,At,Au,-⟩:=A.o.res.fz;go_wp2_with fail;have j:=A.o.done;rw[z.o] at j;refine BE (v:=.agg #[J,I,E,F,.string ⟨K.toArray⟩,.slice (some ⟨w.heap.size+1+1,0,none⟩) e.kids.length e.kids.length]) (Ja results107 _ _ (w.heap.size+1) 213 _ (0,0) _ rfl (((((((A.o.res.far (by show w.heap.size+1≠w.heap.size;omega) _).put 0 _).put 1 _).put 2 _).put 3 _).put 4 _).put 5 _) underlying213 rfl zx) rfl ⟨_,rfl,?_,?_⟩
   .refine Ai.mono (P:=λq=>w.heap.size+1<q) ?_ Yt;exact((((((j.set _ (λq hq=>by show q≠w.heap.size;omega)).set _ R2).set _ R2).set _ R2).set _ R2).set _ R2).set _ R2
   .exact((((((A.o.AJ.setCell AH _).setCell AH _).setCell AH _).setCell AH _).setCell AH _).setCell AH _).setCell AH _
def WE:∀(e:AY) (P:Nat->Prop) (w:AA) (vs:List AB),Ai P w e vs->AI 107 #[.agg vs.toArray] w (iF e w):=by
 refine AY.MV ?_;intro e A P w vs B;exact AEJ P e A w vs B
section
variable{us:List (List AB)}{m i:Nat}{u:List AB}
abbrev NI(w:AA)(g o:Nat)(u0 u1 u2 u3 u4 u5:AB):AA:=(((((w.setCell ⟨g,o,none⟩ u0).setCell ⟨g,o+1,none⟩ u1).setCell ⟨g,o+2,none⟩ u2).setCell ⟨g,o+3,none⟩ u3).setCell ⟨g,o+4,none⟩ u4).setCell ⟨g,o+5,none⟩ u5
def MX(w:AA)(g o:Nat)(u0 u1 u2 u3 u4 u5:AB):AP [g] w (NI w g o u0 u1 u2 u3 u4 u5):=
 ((((((AP.refl _ _).setCell AH _).setCell AH _).setCell AH _).setCell AH _).setCell AH _).setCell AH _
def Rows.setAt{α:Type}{C R':α->List AB->Prop}{l:List α}{x:α}(A:Rows C l us)(B:l[i]? = some x)(E:R' x u)(D:∀x u,C x u->R' x u):Rows R' l (us.set i u):=by
 induction A generalizing i with
 | nil=>cases B
 | cons A G F=>
  cases i with
  | zero=>
   cases B;exact .cons E (G.mono D)
  | succ i=>exact .cons (D _ _ A) (F B)
def cy(h:∀u∈us,u.length=m)(i:Nat)(u:List AB)(hi:i<us.length)(A:u.length=m)(k:Nat):
 (us.set i u).flatten[k]? = if i*m<=k/\k<i*m+m then u[k-i*m]? else us.flatten[k]?:=by
 induction us generalizing i k with
 | nil=>cases hi
 | cons E us G=>
  have D:=h E D0;cases i with
  | zero=>
   simp only[PN,Lb,O6,Az,DP,true_and,Nat.sub_zero];split
   .rw[Te U]
   .rw[Qt U,Qt U,A,D]
  | succ i=>
   have F:(i+1)*m=i*m+m:=by rw[Kj,Nf]
   simp only[PO,Lb];by_cases C:k<E.length
   .rw[Te C,Te C,AU U]
   .rw[Qt U,Qt U,G (λu A=>h u (Dq _ A)) i KF,F,D];by_cases B:i*m<=k-m/\k-m<i*m+m
    .rw[Ab B,Ab U];congr 1
     omega
    .rw[AU B,AU U]
def Rows.lens{α:Type}{C:α->List AB->Prop}{l:List α}(B:Rows C l us)(D:∀x u,C x u->u.length=m):∀u∈us,u.length=m:=by
 induction B with
 | nil=>intro u A;cases A
 | cons B F E=>
  intro u A;rcases Aj.1 A with rfl|A
  .exact D _ _ B
  .exact E u A
def AS.setRow{α:Type}{B:Nat}{w P:AA}{t:Nat}{G R':α->List AB->Prop}{C:List α}{g n c:Nat}{cs D:Array AB}(h:AS B w t m G C (.slice g n c))(E:∀x u,G x u->u.length=m)
 {x:α}(L:C[i]? = some x)(V:AG w g t cs)(W:AG P g t D)(o:D.size=cs.size)(O:R' x u)(I:u.length=m)(a:∀j,j<m->D[i*m+j]? = u[j]?)
 (l:∀k,k<i*m\/i*m+m<=k->D[k]? = cs[k]?)(M:∀x u,G x u->R' x u):AS B P t m R' C (.slice g n c):=by
 obtain⟨us,A,y,S⟩:=h;have N:=(Cd.1 L).1;have AC:=A.length;refine⟨us.set i u,A.setAt L O M,?_,.inr ?_⟩
 .exact(A.setAt L O M |>.mono (R':=λ_ r=>r.length=m\/True) (λ_ _ _=>.inr trivial)) |> λ_=>by
   have Q:=A.flat E;have R:(us.set i u).flatten.length=us.flatten.length:=by
    apply Nat.le_antisymm
    .apply Nat.le_of_not_lt;intro J;have:=cy (A.lens E) i u U I us.flatten.length;rw[BL J] at this;have K:(i+1)*m<=C.length*m:=Qv _ N;rw[Kj,Nf] at K;rw[AU U,List.getElem?_eq_none AK] at this;cases this
    .apply Nat.le_of_not_lt;intro J;have:=cy (A.lens E) i u U I (us.set i u).flatten.length;rw[List.getElem?_eq_none AK] at this;split at this
     .rw[BL U] at this;cases this
     .rw[BL J] at this;cases this
   rw[R,Q]
 .rcases S with ⟨F,_⟩|⟨v,s,cur,F,T,Z,X,e,Y,q⟩
  .cases F
  .simp only[Km,CW,Qu,Jx] at F;obtain⟨rfl,f,rfl⟩:=F;obtain rfl:cur=cs:=by
    have H:=V;unfold AG at H;rw[Z] at H;cases H;rfl
   refine⟨g,c,D,by rw[f],T,W,X,e,by rw[o,Y],?_⟩;apply List.ext_getElem?;intro k;have z:=A.flat E;have K:(i+1)*m<=C.length*m:=Qv _ N;rw[Kj,Nf] at K;rw[cy (A.lens E) i u U I k,<-q,Lc,Lc];split
   .rename_i b;split
    .rename_i d;rw[Ng,<-a (k-i*m) U];congr 1
     omega
    .rename_i d;rw[Ng,Ng];exact l k U
   .rename_i b;rw[AU U]
end
section
variable{t m:Nat}{w:AA}{y:K9}
def AS.blk{α:Type}{B:Nat}{D:α->List AB->Prop}{C:List α}{g n c:Nat}(E:AS B w t m D C (.slice g n c)):∃cs,AG w g t cs/\cs.size=c*m/\C.length<=c/\B<=g:=by
 obtain⟨R,M,N,F⟩:=E;rcases F with ⟨A,_⟩|⟨L,K,cur,A,G,J,H,O,I,Q⟩
 .cases A
 .simp only[Km,CW,Qu,Jx] at A;obtain⟨rfl,P,rfl⟩:=A;exact⟨cur,J,I,H,G⟩
def AS.IP{α:Type}{B:Nat}{A R':α->List AB->Prop}{D:List α}{g n c:Nat}(h:AS B w t m A D (.slice g n c))(I:∀x u,A x u->u.length=m)
 {i:Nat}{x:α}(F:D[i]? = some x)(f:Nat)(e:f+6<=m)(u0 u1 u2 u3 u4 u5:AB)(P:∀u,A x u->∃C,R' x C/\C.length=m/\∀j,j<m->C[j]? = if f<=j/\j<f+6 then [u0,u1,u2,u3,u4,u5][j-f]? else u[j]?)
 (K:∀x u,A x u->R' x u):AS B (NI w g (i*m+f) u0 u1 u2 u3 u4 u5) t m R' D (.slice g n c):=by
 obtain⟨Z,E,d,b,_⟩:=h.blk;obtain⟨u,_,O,L⟩:=h.BT I i x F;obtain⟨C,Q,R,S⟩:=P u O;have k:=(Cd.1 F).1;have N:(i+1)*m<=c*m:=Qv _ U;rw[Kj,Nf] at N;obtain⟨a,V,W,Y,J⟩:=Go.Proofs.YtcpcgpbohiineaaGreatDoor.IP E (i*m+f) u0 u1 u2 u3 u4 u5 U;refine h.setRow I F E V W Q R (λj H=>?_) (λT l=>J T U) K;rw[S j H];split
 .rename_i M;have G:=Y (j-f) U;rw[show i*m+f+(j-f)=i*m+j by omega] at G;exact G
 .rename_i M;rw[J (i*m+j) U,<-L j H,E.cell]
def jp{a:AB}{A C D E F G u0 u1 u2 u3 u4 u5:AB}(j:Nat)(H:j<7):(a::[u0,u1,u2,u3,u4,u5])[j]? = if 1<=j/\j<1+6 then [u0,u1,u2,u3,u4,u5][j-1]? else (a::[A,C,D,E,F,G])[j]?:=by
 rcases (show j=0\/j=1\/j=2\/j=3\/j=4\/j=5\/j=6 by omega) with rfl|rfl|rfl|rfl|rfl|rfl|rfl<;>rfl
section
variable {B:Nat} {X:AA} {x:Ah} {s1 s2 s3 s4 As:AB} {g n c i:Nat} {u0 u1 u2 u3 u4 u5:AB}
def Dv{X:AA}{g C:Nat}{cs:Array AB}(E:AG X g t cs)(q:Nat)(D:Array AB)(G:AG X q C D)(F:C≠t):q∉[g]:=λA=>by
 simp only[Aj,A',A_] at A;subst A;exact F (G.same E)
def B5.AGO(h:B5 B X x s1 s2 (.slice g n c) s4 As){y:Fm}(K:x.lets[i]? = some y)(H:Ai (λq=>B<=q) X y.body [u0,u1,u2,u3,u4,u5]):
 B5 B (NI X g (i*7+1) u0 u1 u2 u3 u4 u5) x s1 s2 (.slice g n c) s4 As:=by
 obtain⟨A,E,_⟩:=h.c3.blk;have D:=MX X g (i*7+1) u0 u1 u2 u3 u4 u5;have F:∀q A,AG X q 213 A->q∉[g]:=λq A C=>Dv E q A C AD;refine⟨h.c1.kept D (λq A C=>Dv E q A C AD) BW,h.c2.kept D (λq A C=>Dv E q A C AD) BW,?_,
  h.c4.kept D (λq A C=>Dv E q A C AD) (λ_ _ q=>q.kept D F),h.c5.kept D (λq A C=>Dv E q A C AD) (λ_ _ q=>q.kept D F)⟩
 refine h.c3.IP (λ_ _ q=>q.len) K 1 U u0 u1 u2 u3 u4 u5 (λM I=>?_) (λ_ _ q=>q.kept D F);obtain⟨N,rfl,J⟩:=I;obtain⟨O,P,Q,R,S,V,W,T,rfl⟩:=J.BS;exact⟨AR y.name::[u0,u1,u2,u3,u4,u5],⟨_,rfl,H.kept D (λq A _ C=>F q A C)⟩,rfl,λL G=>jp L G⟩
def B5.ABp(h:B5 B X x s1 s2 s3 s4 (.slice g n c)){y:Kx}(K:x.red[i]? = some y)(H:Ai (λq=>B<=q) X y.H5 [u0,u1,u2,u3,u4,u5]):
 B5 B (NI X g (i*7+1) u0 u1 u2 u3 u4 u5) x s1 s2 s3 s4 (.slice g n c):=by
 obtain⟨A,E,_⟩:=h.c5.blk;have D:=MX X g (i*7+1) u0 u1 u2 u3 u4 u5;have F:∀q A,AG X q 213 A->q∉[g]:=λq A C=>Dv E q A C AD;refine⟨h.c1.kept D (λq A C=>Dv E q A C AD) BW,h.c2.kept D (λq A C=>Dv E q A C AD) BW,h.c3.kept D (λq A C=>Dv E q A C AD) (λ_ _ q=>q.kept D F),
  h.c4.kept D (λq A C=>Dv E q A C AD) (λ_ _ q=>q.kept D F),?_⟩
 refine h.c5.IP (λ_ _ q=>q.len) K 1 U u0 u1 u2 u3 u4 u5 (λM I=>?_) (λ_ _ q=>q.kept D F);obtain⟨N,rfl,J⟩:=I;obtain⟨O,P,Q,R,S,V,W,T,rfl⟩:=J.BS;exact⟨.int .i64 y.CN::[u0,u1,u2,u3,u4,u5],⟨_,rfl,H.kept D (λq A _ C=>F q A C)⟩,rfl,λL G=>jp L G⟩
def B5.AHf(h:B5 B X x s1 s2 s3 (.slice g n c) As)(L:x.Ac[i]? = some y)(H:Ai (λq=>B<=q) X y.cond [u0,u1,u2,u3,u4,u5]):
 B5 B (NI X g (i*13+1) u0 u1 u2 u3 u4 u5) x s1 s2 s3 (.slice g n c) As:=by
 obtain⟨A,F,_⟩:=h.c4.blk;have D:=MX X g (i*13+1) u0 u1 u2 u3 u4 u5;have E:∀q A,AG X q 213 A->q∉[g]:=λq A C=>Dv F q A C AD;refine⟨h.c1.kept D (λq A C=>Dv F q A C AD) BW,h.c2.kept D (λq A C=>Dv F q A C AD) BW,h.c3.kept D (λq A C=>Dv F q A C AD) (λ_ _ q=>q.kept D E),
  ?_,h.c5.kept D (λq A C=>Dv F q A C AD) (λ_ _ q=>q.kept D E)⟩
 refine h.c4.IP (λ_ _ q=>q.len) L 1 U u0 u1 u2 u3 u4 u5 (λN I=>?_) (λ_ _ q=>q.kept D E);obtain⟨O,P,rfl,J,G⟩:=I;have K:=G.kept D (λq A _ C=>E q A C);obtain⟨Q,R,S,T,V,Y,Z,W,rfl⟩:=J.BS;obtain⟨a,b,d,e,f,l,o,k,rfl⟩:=G.BS;refine⟨.int .i64 y.CN::([u0,u1,u2,u3,u4,u5]++_),⟨_,_,rfl,H.kept D (λq A _ C=>E q A C),K⟩,rfl,λj M=>?_⟩;exact sL
def B5.AEK(h:B5 B X x s1 s2 s3 (.slice g n c) As)(L:x.Ac[i]? = some y)(H:Ai (λq=>B<=q) X y.pay [u0,u1,u2,u3,u4,u5]):
 B5 B (NI X g (i*13+7) u0 u1 u2 u3 u4 u5) x s1 s2 s3 (.slice g n c) As:=by
 obtain⟨A,F,_⟩:=h.c4.blk;have D:=MX X g (i*13+7) u0 u1 u2 u3 u4 u5;have E:∀q A,AG X q 213 A->q∉[g]:=λq A C=>Dv F q A C AD;refine⟨h.c1.kept D (λq A C=>Dv F q A C AD) BW,h.c2.kept D (λq A C=>Dv F q A C AD) BW,h.c3.kept D (λq A C=>Dv F q A C AD) (λ_ _ q=>q.kept D E),
  ?_,h.c5.kept D (λq A C=>Dv F q A C AD) (λ_ _ q=>q.kept D E)⟩
 refine h.c4.IP (λ_ _ q=>q.len) L 7 U u0 u1 u2 u3 u4 u5 (λN I=>?_) (λ_ _ q=>q.kept D E);obtain⟨O,P,rfl,G,K⟩:=I;have J:=G.kept D (λq A _ C=>E q A C);obtain⟨Q,R,S,T,V,Y,Z,W,rfl⟩:=G.BS;obtain⟨a,b,d,e,f,l,o,k,rfl⟩:=K.BS;refine⟨.int .i64 y.CN::(_++[u0,u1,u2,u3,u4,u5]),⟨_,_,rfl,J,H.kept D (λq A _ C=>E q A C)⟩,rfl,λj M=>?_⟩;exact sL
end
end
section
variable{w:AA}{u:List AB}{P:Nat->Prop}
def MP{α:Type}{B:Nat}{t m:Nat}{D:α->List AB->Prop}{C:List α}{v:AB}(E:AS B w t m D C v)(I:∀x u,D x u->∀c∈u,c.oneCell'=true):∃us,Rows D C us/\w.ownsRow B t m v C.length us.flatten/\∀c∈us.flatten,c.oneCell'=true:=by
 obtain⟨us,F,G⟩:=E;refine⟨us,F,G,λc H=>?_⟩;obtain⟨u,A,J⟩:=List.mem_flatten.1 H;clear G H;induction F with
 | nil=>cases A
 | cons E t K=>
  rcases Aj.1 A with rfl|A
  .exact I _ _ E c J
  .exact K A
def bf{e:AY}{A:List AB}(B:Ai P w e A):∀c∈A,c.oneCell'=true:=by
 obtain⟨C,D,E,F,G,I,J,H,rfl⟩:=B.BS;simp[AR,Value.oneCell']
def AEt{x:M7}(h:FX x u):∀c∈u,c.oneCell'=true:=iB
def AEn{x:N3}(h:Fj x u):∀c∈u,c.oneCell'=true:=iB
def AEr{x:Fm}(h:D9 P w x u):∀c∈u,c.oneCell'=true:=by
 exact rx
def AEp{x:Kx}(h:EO P w x u):∀c∈u,c.oneCell'=true:=by
 exact rx
def AEs{x:K9}(B:D4 P w x u):∀c∈u,c.oneCell'=true:=by
 obtain⟨E,F,rfl,C,D⟩:=B;intro c A;rcases Aj.1 A with rfl|A
 .simp[Value.oneCell']
 .rcases E1.1 A with A|A
  .exact bf C c A
  .exact bf D c A
def Mw{α:Type}(t m:Nat)(D:AA->α->List AB->Prop)(C:List α)(w:AA)(e:Ending)(A:AA):Prop:=∃B,e=.returned B/\AS w A t m (D A) C B/\Below w w A
def xb(B:Nat)(w:AA):=FX
def tg(B:Nat)(w:AA):=Fj
def Y5(B:Nat)(w:AA):=D9 (λA=>B<=A) w
def ZU(B:Nat)(w:AA):=D4 (λA=>B<=A) w
def YV(B:Nat)(w:AA):=EO (λA=>B<=A) w
def AJF(B:Nat)(A:List M7)(w:AA)(v:AB)(E:A.length<=1000)(h:AS B w 206 2 (xb B w) A v):
 AI 102 #[v] w (Mw 206 2 (xb B) A w):=by
 obtain⟨us,h1,C,D⟩:=MP h (λ_ _ q=>AEt q);refine(AJX B A.length us.flatten w v C E D).mono ?_;exact eT
def AI_(B:Nat)(A:List N3)(w:AA)(v:AB)(E:A.length<=1000)(h:AS B w 209 3 (tg B w) A v):
 AI 103 #[v] w (Mw 209 3 (tg B) A w):=by
 obtain⟨us,h1,C,D⟩:=MP h (λ_ _ q=>AEn q);refine(AJV B A.length us.flatten w v C E D).mono ?_;exact eT
def AJC(B:Nat)(A:List Fm)(w:AA)(v:AB)(H:A.length<=1000)(h:AS B w 215 7 (Y5 B w) A v):
 AI 104 #[v] w (Mw 215 7 (Y5 B) A w):=by
 obtain⟨D,E,F,G⟩:=MP h (λ_ _ C=>AEr C);go_call AJU B A.length D.flatten w v F H G as e w' ⟨v',rfl,ho,hb⟩;exact⟨v',rfl,⟨D,E.mono (λ_ _ C=>D9.kept (S:=[]) C CX CE),ho⟩,hb⟩
def AJE(B:Nat)(A:List K9)(w:AA)(v:AB)(H:A.length<=1000)(h:AS B w 218 13 (ZU B w) A v):
 AI 105 #[v] w (Mw 218 13 (ZU B) A w):=by
 obtain⟨D,E,F,G⟩:=MP h (λ_ _ C=>AEs C);go_call AJW B A.length D.flatten w v F H G as e w' ⟨v',rfl,ho,hb⟩;exact⟨v',rfl,⟨D,E.mono (λ_ _ C=>D4.kept (S:=[]) C CX CE),ho⟩,hb⟩
def AJA(B:Nat)(A:List Kx)(w:AA)(v:AB)(H:A.length<=1000)(h:AS B w 221 7 (YV B w) A v):
 AI 106 #[v] w (Mw 221 7 (YV B) A w):=by
 obtain⟨D,E,F,G⟩:=MP h (λ_ _ C=>AEp C);go_call AJS B A.length D.flatten w v F H G as e w' ⟨v',rfl,ho,hb⟩;exact⟨v',rfl,⟨D,E.mono (λ_ _ C=>EO.kept (S:=[]) C CX CE),ho⟩,hb⟩
end
section
variable{t1 t2:AB}
def zu:(prog.info? 151).map (·.size)=some 8:=AF
structure Ct(B:Nat)(W X:AA)(x:Ah)(s1 s2 s3 s4 As:AB):Prop where
 box:DA B W X x W s1 s2 s3 s4 As
 res:AG X (W.heap.size+1) 151 #[(),(),(),AL,AL,AL,AL,AL]
def Ct.below{B:Nat}{W X C:AA}{x:Ah}{s1 s2 s3 s4 As:AB}(A:Ct B W X x s1 s2 s3 s4 As)(D:Below X X C):Ct B W C x s1 s2 s3 s4 As:=
 ⟨A.box.below D,A.res.below D A.res.lt⟩
section
variable {B:Nat} {W X:AA} {x:Ah} {s1 s2 s3 s4 As t:AB}
def Ct.S0(h:Ct B W X x s1 s2 s3 s4 As)(i:Nat)(u:AB):AG (X.setCell ⟨W,i,none⟩ u) (W.heap.size+1) 151 #[(),(),(),AL,AL,AL,AL,AL]:=
 h.res.far Zr u
def Ct.aX(h:Ct B W X x s1 s2 s3 s4 As)(A:AS B X 206 2 FX x.Ae t):Ct B W (X.setCell ⟨W,3,none⟩ t) x t s2 s3 s4 As:=
 ⟨⟨h.box.AJ.setCell AK _,h.box.blk.put 3 t,B5.set ⟨A,h.box.lists.c2,h.box.lists.c3,h.box.lists.c4,h.box.lists.c5⟩ h.box.blk 3 t⟩,h.S0 3 t⟩
def Ct.aW(h:Ct B W X x s1 s2 s3 s4 As)(A:AS B X 209 3 Fj x.Ad t):Ct B W (X.setCell ⟨W,4,none⟩ t) x s1 t s3 s4 As:=
 ⟨⟨h.box.AJ.setCell AK _,h.box.blk.put 4 t,B5.set ⟨h.box.lists.c1,A,h.box.lists.c3,h.box.lists.c4,h.box.lists.c5⟩ h.box.blk 4 t⟩,h.S0 4 t⟩
def Ct.aV(h:Ct B W X x s1 s2 s3 s4 As)(A:AS B X 215 7 (Y5 B X) x.lets t):Ct B W (X.setCell ⟨W,5,none⟩ t) x s1 s2 t s4 As:=
 ⟨⟨h.box.AJ.setCell AK _,h.box.blk.put 5 t,B5.set ⟨h.box.lists.c1,h.box.lists.c2,A,h.box.lists.c4,h.box.lists.c5⟩ h.box.blk 5 t⟩,h.S0 5 t⟩
def Ct.zY(h:Ct B W X x s1 s2 s3 s4 As)(A:AS B X 218 13 (ZU B X) x.Ac t):Ct B W (X.setCell ⟨W,6,none⟩ t) x s1 s2 s3 t As:=
 ⟨⟨h.box.AJ.setCell AK _,h.box.blk.put 6 t,B5.set ⟨h.box.lists.c1,h.box.lists.c2,h.box.lists.c3,A,h.box.lists.c5⟩ h.box.blk 6 t⟩,h.S0 6 t⟩
def Ct.Vk(h:Ct B W X x s1 s2 s3 s4 As)(A:AS B X 221 7 (YV B X) x.red t):Ct B W (X.setCell ⟨W,7,none⟩ t) x s1 s2 s3 s4 t:=
 ⟨⟨h.box.AJ.setCell AK _,h.box.blk.put 7 t,B5.set ⟨h.box.lists.c1,h.box.lists.c2,h.box.lists.c3,h.box.lists.c4,A⟩ h.box.blk 7 t⟩,h.S0 7 t⟩
def Ct.two(A:Ct B W X x s1 s2 s3 s4 As)(C:AS B X 206 2 FX x.Ae t1)(D:AS B X 209 3 Fj x.Ad t2):
 Ct B W ((X.setCell ⟨W,3,none⟩ t1).setCell ⟨W,4,none⟩ t2) x t1 t2 s3 s4 As:=
 (A.aX C).aW (B5.set ⟨A.box.lists.c1,D,A.box.lists.c3,A.box.lists.c4,A.box.lists.c5⟩ A.box.blk 3 t1).c2
def Ct.three(C:Ct B W X x s1 s2 s3 s4 As){D:AB}(F:AS B X 215 7 (Y5 B X) x.lets t1)(G:AS B X 218 13 (ZU B X) x.Ac t2)(H:AS B X 221 7 (YV B X) x.red D):
 Ct B W (((X.setCell ⟨W,5,none⟩ t1).setCell ⟨W,6,none⟩ t2).setCell ⟨W,7,none⟩ D) x s1 s2 t1 t2 D:=by
 have E:=B5.set ⟨C.box.lists.c1,C.box.lists.c2,C.box.lists.c3,G,H⟩ C.box.blk 5 t1;have A:=C.aV F;have I:=B5.set ⟨A.box.lists.c1,A.box.lists.c2,A.box.lists.c3,A.box.lists.c4,E.c5⟩ A.box.blk 6 t2;exact(A.zY E.c4).Vk I.c5
end
def Ct.six{B:Nat}{W X:AA}{x:Ah}{s1 s2 s3 s4 As:AB}(C:Ct B W X x s1 s2 s3 s4 As){g t:Nat}{cs:Array AB}(A:W.heap.size<=g)(D:AG X g t cs)(E:151≠t)(o:Nat){u0 u1 u2 u3 u4 u5:AB}
 (F:B5 B (NI X g o u0 u1 u2 u3 u4 u5) x s1 s2 s3 s4 As):Ct B W (NI X g o u0 u1 u2 u3 u4 u5) x s1 s2 s3 s4 As:=
 ⟨⟨(((((C.box.AJ.setCell (p:=⟨g,o,none⟩) A u0).setCell (p:=⟨g,o+1,none⟩) A u1).setCell (p:=⟨g,o+2,none⟩) A u2).setCell (p:=⟨g,o+3,none⟩) A u3).setCell (p:=⟨g,o+4,none⟩) A u4).setCell (p:=⟨g,o+5,none⟩) A u5,
  C.box.blk.kept (MX _ _ _ _ _ _ _ _ _) (Dv D _ _ C.box.blk E),F⟩,C.res.kept (MX _ _ _ _ _ _ _ _ _) (Dv D _ _ C.res E)⟩
def ACf(B:Nat)(x:Ah)(w:AA)(s1 s2 s3 s4 As:AB)(hB:B<=w.heap.size)(h:B5 B w x s1 s2 s3 s4 As)(BY:IF x=true):
 AI 54 #[.agg #[x.fr,x.mode,x.unit,s1,s2,s3,s4,As]] w λe A2=>∃t1 t2 Ad Ae Af,e=.returned (.agg #[x.fr,x.mode,x.unit,t1,t2,Ad,Ae,Af])/\B5 B A2 x t1 t2 Ad Ae Af/\Below w w A2:=by
 have AT:=Sa BY;have CN:=AT.l1;have CO:=AT.l2;have CP:=AT.l3;have CQ:=AT.FK;have CR:=AT.TY;obtain⟨AE,AM,rfl,_⟩:=h.c1.slice;obtain⟨AJ,AO,rfl,_⟩:=h.c2.slice;obtain⟨m,r,rfl,_⟩:=h.c3.slice;obtain⟨n,s,rfl,_⟩:=h.c4.slice;obtain⟨o,u,rfl,_⟩:=h.c5.slice;have BV:=DA.new h;have BX:(w.alloc (.cells #[x.fr,x.mode,x.unit,.slice AE x.Ae.length AM,.slice AJ x.Ad.length AO,.slice m x.lets.length r,.slice n x.Ac.length s,.slice o x.red.length u] 151)).heap.size=w.heap.size+1:=AH;have AC:Hid (Ct B w ((w.alloc (.cells #[x.fr,x.mode,x.unit,.slice AE x.Ae.length AM,.slice AJ x.Ad.length AO,.slice m x.lets.length r,.slice n x.Ac.length s,.slice o x.red.length u] 151)).alloc (.cells #[(),(),(),AL,AL,AL,AL,AL] 151)) x (.slice AE x.Ae.length AM) (.slice AJ x.Ad.length AO) (.slice m x.lets.length r) (.slice n x.Ac.length s) (.slice o x.red.length u)):=
  ⟨BV.below C8,AG.newAt _ _ _ _ BX.symm⟩
 go_in;go_wp2_with fail;refine Bn (λX=>Ct B w X x (.slice AE x.Ae.length AM) (.slice AJ x.Ad.length AO) (.slice m x.lets.length r) (.slice n x.Ac.length s) (.slice o x.red.length u)) AC.o ?_;intro BP BT;have AC:=O BT;refine OX [w.heap.size] [7,9] [2,5] [(0,0),(0,1),(0,3),(0,4),(2,2),(0,6),(2,5),(3,7),(1,8),(3,9)] AF AF rfl AD AF AF BK ?_;refine Po ?_;refine Bn (λX=>Ct B w X x (.slice AE x.Ae.length AM) (.slice AJ x.Ad.length AO) (.slice m x.lets.length r) (.slice n x.Ac.length s) (.slice o x.red.length u)) (w0:=BP.drew) Di ?_;intro B3 hb;have AC:=O hb;obtain⟨b0,b1,b2,b3,b4,b5,Bw,Bv,hbl⟩:=AC.o.box.blk.BF;obtain⟨-,-,-,f3,f4,f5,f6,f7⟩:=AC.o.box.blk.fz;iterate 4 refine GM ?_
 refine Ig ?_;intro K hK;go_at_call 102;go_call AJF B x.Ae _ _ U AC.o.box.lists.c1 as e W1 ⟨t1,rfl,C,hb⟩;obtain⟨G,J,rfl,_⟩:=AS.slice C;have B0:Hid (∀g,G=some ⟨g,0,none⟩->w.heap.size<=g):=O (λg I=>by
  subst I;obtain⟨_,_,_,_,h⟩:=AS.blk C;exact Ap AC.o.box.AJ.size h)
 replace C:=AS.lower C JH BW;refine FT ?_;replace AC:=O Ij;obtain⟨b0,b1,b2,b3,b4,b5,Bw,Bv,hbl⟩:=AC.o.box.blk.BF;obtain⟨-,-,-,f3,f4,f5,f6,f7⟩:=AC.o.box.blk.fz;have JN:=O C;iterate 1 refine GM ?_
 refine Ig ?_;intro K hK;go_at_call 103;go_call AI_ B x.Ad _ _ U AC.o.box.lists.c2 as e W1 ⟨t2,rfl,C,hb⟩;obtain⟨H,L,rfl,_⟩:=AS.slice C;have B1:Hid (∀g,H=some ⟨g,0,none⟩->w.heap.size<=g):=O (λg I=>by
  subst I;obtain⟨_,_,_,_,h⟩:=AS.blk C;exact Ap AC.o.box.AJ.size h)
 replace C:=AS.lower C JH BW;refine FT ?_;replace AC:=O Ij;obtain⟨b0,b1,b2,b3,b4,b5,Bw,Bv,hbl⟩:=AC.o.box.blk.BF;obtain⟨-,-,-,f3,f4,f5,f6,f7⟩:=AC.o.box.blk.fz;replace JN:=O (AS.below JN.o hb BW);have y:=O C;have An:=O (AC.o.two JN.o y.o);refine Um ?_;intro K hK;refine Ue ?_;intro K hK;refine LU ?_;refine Bn (λX=>Ct B w X x (.slice G x.Ae.length J) (.slice H x.Ad.length L) (.slice m x.lets.length r) (.slice n x.Ac.length s) (.slice o x.red.length u)) An.o ?_;intro BR hb;have AC:=O hb;go_wp2_with fail;refine uc ?_;refine Bn (λX=>Ct B w X x (.slice G x.Ae.length J) (.slice H x.Ad.length L) (.slice m x.lets.length r) (.slice n x.Ac.length s) (.slice o x.red.length u)) (w0:=BR.drew) Di ?_;intro B4 hb;have AC:=O hb;obtain⟨b0,b1,b2,b3,b4,b5,Bw,Bv,hbl⟩:=AC.o.box.blk.BF;obtain⟨-,-,-,f3,f4,f5,f6,f7⟩:=AC.o.box.blk.fz;iterate 6 refine GM ?_
 refine Ig ?_;intro K hK;go_at_call 104;go_call AJC B x.lets _ _ U AC.o.box.lists.c3 as e W1 ⟨Ad,rfl,C,hb⟩;obtain⟨P,R,rfl,_⟩:=AS.slice C;have BM:Hid (∀g,P=some ⟨g,0,none⟩->w.heap.size<=g):=O (λg I=>by
  subst I;obtain⟨_,_,_,_,h⟩:=AS.blk C;exact Ap AC.o.box.AJ.size h)
 replace C:=AS.lower C JH BW;refine FT ?_;replace AC:=O Ij;obtain⟨b0,b1,b2,b3,b4,b5,Bw,Bv,hbl⟩:=AC.o.box.blk.BF;obtain⟨-,-,-,f3,f4,f5,f6,f7⟩:=AC.o.box.blk.fz;have JN:=O C;iterate 1 refine GM ?_
 refine Ig ?_;intro K hK;go_at_call 105;go_call AJE B x.Ac _ _ U AC.o.box.lists.c4 as e W1 ⟨Ae,rfl,C,hb⟩;obtain⟨Z,T,rfl,_⟩:=AS.slice C;have BN:Hid (∀g,Z=some ⟨g,0,none⟩->w.heap.size<=g):=O (λg I=>by
  subst I;obtain⟨_,_,_,_,h⟩:=AS.blk C;exact Ap AC.o.box.AJ.size h)
 replace C:=AS.lower C JH BW;refine FT ?_;replace AC:=O Ij;obtain⟨b0,b1,b2,b3,b4,b5,Bw,Bv,hbl⟩:=AC.o.box.blk.BF;obtain⟨-,-,-,f3,f4,f5,f6,f7⟩:=AC.o.box.blk.fz;replace JN:=O ut;have y:=O C;refine Ig ?_;intro K hK;go_at_call 106;go_call AJA B x.red _ _ U AC.o.box.lists.c5 as e W1 ⟨Af,rfl,C,hb⟩;obtain⟨Q,V,rfl,_⟩:=AS.slice C;have BO:Hid (∀g,Q=some ⟨g,0,none⟩->w.heap.size<=g):=O (λg I=>by
  subst I;obtain⟨_,_,_,_,h⟩:=AS.blk C;exact Ap AC.o.box.AJ.size h)
 replace C:=AS.lower C JH BW;refine FT ?_;replace AC:=O Ij;obtain⟨b0,b1,b2,b3,b4,b5,Bw,Bv,hbl⟩:=AC.o.box.blk.BF;obtain⟨-,-,-,f3,f4,f5,f6,f7⟩:=AC.o.box.blk.fz;replace JN:=O ut;replace y:=O (AS.below y.o hb (λ_ _ q=>D4.kept (S:=[]) q CX CE));have BJ:=O C;have An:=O (AC.o.three JN.o y.o BJ.o);refine Um ?_;intro K hK;refine Ue ?_;intro K hK;refine Ue ?_;intro K hK;refine LU ?_;refine Bn (λX=>Ct B w X x (.slice G x.Ae.length J) (.slice H x.Ad.length L) (.slice P x.lets.length R) (.slice Z x.Ac.length T) (.slice Q x.red.length V)) An.o ?_;intro B6 hb;have AC:=O hb;obtain⟨b0,b1,b2,b3,b4,b5,Bw,Bv,hbl⟩:=AC.o.box.blk.BF;obtain⟨-,-,-,f3,f4,f5,f6,f7⟩:=AC.o.box.blk.fz;go_wp2_with fail;go_loopw [29] (λM wr=>∃i:Nat,M=.int .i64 (i:Int)/\i<=x.lets.length/\Ct B w wr x (.slice G x.Ae.length J) (.slice H x.Ad.length L) (.slice P x.lets.length R) (.slice Z x.Ac.length T) (.slice Q x.red.length V)) (λM _=>x.lets.length-(intOf M).toNat)
 case atStart=>exact⟨0,rfl,Az _,AC.o⟩
 case round=>
  obtain⟨i,rfl,Aw,hb⟩:=hrel;have AC:=O hb;by_cases AQ:i<x.lets.length
  .have dl:=Ar i x.lets.length;obtain⟨c,f⟩:=BQ x.lets i AQ;have N:=O f;obtain⟨g,d,Ax⟩:=AC.o.box.lists.c3.Ch (λ_ _ q=>D9.len q) i c f;have v:=BM.o g d;subst d;go_wp2_with fail;refine fM ?_;refine Bn (λX=>Ct B w X x (.slice G x.Ae.length J) (.slice H x.Ad.length L) (.slice g x.lets.length R) (.slice Z x.Ac.length T) (.slice Q x.red.length V)) (w0:=wr.drew) Di ?_;intro Av hb;have AC:=O hb;obtain⟨b0,b1,b2,b3,b4,b5,Bw,Bv,hbl⟩:=AC.o.box.blk.BF;obtain⟨-,-,-,f3,f4,f5,f6,f7⟩:=AC.o.box.blk.fz;obtain⟨A0,I,AU,E⟩:=AC.o.box.lists.c3.BT (λ_ _ q=>D9.len q) i c N.o;obtain⟨A1,rfl,j⟩:=AU;obtain⟨A3,A4,A6,A9,A_,BA,BB,A',rfl⟩:=j.BS;have By:=O j;have AV:=E 1 AD;have AW:=E 2 AD;have AX:=E 3 AD;have AY:=E 4 AD;have AZ:=E 5 AD;have Aa:=E 6 AD;simp only[A8,Bt] at AV AW AX AY AZ Aa;iterate 9 refine GM ?_
   refine Ig ?_;intro K hK;go_at_call 107;go_call WE c.body _ _ _ By.o as e W1 ⟨vs',rfl,F,hb⟩;replace F:Ai (λq=>B<=q) W1 c.body vs':=F.mono (λq Y=>Ap JH Y);obtain⟨Ag,Aj,Ak,Al,Am,Aq,At,Ao,rfl⟩:=F.BS;have OE:=O F;refine FT ?_;replace AC:=O Ij;obtain⟨b0,b1,b2,b3,b4,b5,Bw,Bv,hbl⟩:=AC.o.box.blk.BF;obtain⟨-,-,-,f3,f4,f5,f6,f7⟩:=AC.o.box.blk.fz;obtain⟨D,hgb,Wx,Wy,_⟩:=AC.o.box.lists.c3.blk;have hgl:=hgb.lt;obtain⟨BC,A⟩:∃z,D[i*7+1]? = some z:=⟨_,Cn U⟩;have k1:=hgb.cell (i*7+1);rw[A] at k1;have cv:=hgb.frozen (i*7+1);obtain⟨BD,A⟩:∃z,D[i*7+2]? = some z:=⟨_,Cn U⟩;have k2:=hgb.cell (i*7+2);rw[A] at k2;have cu:=hgb.frozen (i*7+2);obtain⟨BF,A⟩:∃z,D[i*7+3]? = some z:=⟨_,Cn U⟩;have k3:=hgb.cell (i*7+3);rw[A] at k3;have ct:=hgb.frozen (i*7+3);obtain⟨BG,A⟩:∃z,D[i*7+4]? = some z:=⟨_,Cn U⟩;have k4:=hgb.cell (i*7+4);rw[A] at k4;have cr:=hgb.frozen (i*7+4);obtain⟨BH,A⟩:∃z,D[i*7+5]? = some z:=⟨_,Cn U⟩;have k5:=hgb.cell (i*7+5);rw[A] at k5;have cq:=hgb.frozen (i*7+5);obtain⟨BI,A⟩:∃z,D[i*7+6]? = some z:=⟨_,Cn U⟩;have k6:=hgb.cell (i*7+6);rw[A] at k6;have cp:=hgb.frozen (i*7+6);have An:=O (AC.o.six v hgb AD (i*7+1) (AC.o.box.lists.AGO N.o OE.o));exact s6
  .obtain rfl:i=x.lets.length:=U;have dl:decide ((x.lets.length:Int)<(x.lets.length:Int))=false:=AH;obtain⟨b0,b1,b2,b3,b4,b5,Bw,Bv,hbl⟩:=AC.o.box.blk.BF;obtain⟨-,-,-,f3,f4,f5,f6,f7⟩:=AC.o.box.blk.fz;go_wp2_with fail;go_loopw [48] (λM wr=>∃i:Nat,M=.int .i64 (i:Int)/\i<=x.Ac.length/\Ct B w wr x (.slice G x.Ae.length J) (.slice H x.Ad.length L) (.slice P x.lets.length R) (.slice Z x.Ac.length T) (.slice Q x.red.length V)) (λM _=>x.Ac.length-(intOf M).toNat)
   case atStart=>exact⟨0,rfl,Az _,AC.o⟩
   case round=>
    obtain⟨i,rfl,Aw,hb⟩:=hrel;have AC:=O hb;by_cases AQ:i<x.Ac.length
    .have dl:=Ar i x.Ac.length;obtain⟨c,f⟩:=BQ x.Ac i AQ;have N:=O f;obtain⟨g,d,Ax⟩:=AC.o.box.lists.c4.Ch (λ_ _ q=>D4.len q) i c f;have v:=BN.o g d;subst d;go_wp2_with fail;refine OX [g] [22,25] [12,19] [(0,0),(0,1),(0,2),(1,3),(1,4),(1,5),(0,6),(0,7),(0,8),(0,9),(0,10),(0,11),(1,13),(1,14),(1,15),(1,16),(1,17),(0,18),(2,12),(2,19),(1,20),(0,21),(3,22),(1,23),(1,24),(3,25)] AF AF rfl AD AF AF BK ?_;refine Po ?_;refine Bn (λX=>Ct B w X x (.slice G x.Ae.length J) (.slice H x.Ad.length L) (.slice P x.lets.length R) (.slice g x.Ac.length T) (.slice Q x.red.length V)) (w0:=wr.drew) Di ?_;intro Av hb;have AC:=O hb;obtain⟨b0,b1,b2,b3,b4,b5,Bw,Bv,hbl⟩:=AC.o.box.blk.BF;obtain⟨-,-,-,f3,f4,f5,f6,f7⟩:=AC.o.box.blk.fz;have CL:w.heap.size∉[g]:=by
      obtain⟨_,h,_⟩:=AC.o.box.lists.c4.blk;exact Dv h _ _ AC.o.box.blk AD
     obtain⟨A0,I,AU,E⟩:=AC.o.box.lists.c4.BT (λ_ _ q=>D4.len q) i c N.o;obtain⟨A1,Ck,rfl,j,Ay⟩:=AU;obtain⟨A3,A4,A6,A9,A_,BA,BB,A',rfl⟩:=j.BS;obtain⟨CS,CT,CU,CV,CW,CZ,Ca,CY,rfl⟩:=Ay.BS;have By:=O j;have Ab:=O Ay;have AV:=E 1 AD;have AW:=E 2 AD;have AX:=E 3 AD;have AY:=E 4 AD;have AZ:=E 5 AD;have Aa:=E 6 AD;have Bk:=E 7 AD;have Bl:=E 8 AD;have Bm:=E 9 AD;have Bg:=E 10 AD;have Bi:=E 11 AD;have Bj:=E 12 AD;simp only[DC,Dg,A8,Bt] at AV AW AX AY AZ Aa Bk Bl Bm Bg Bi Bj;iterate 3 refine GM ?_
     iterate 3 refine R0 ?_
     iterate 6 refine GM ?_
     iterate 5 refine R0 ?_
     iterate 1 refine GM ?_
     refine Ig ?_;intro K hK;go_at_call 107;go_call WE c.cond _ _ _ By.o as e W1 ⟨vs',rfl,F,hb⟩;replace F:Ai (λq=>B<=q) W1 c.cond vs':=F.mono (λq Y=>Ap JH Y);obtain⟨Ag,Aj,Ak,Al,Am,Aq,At,Ao,rfl⟩:=F.BS;have OE:=O F;refine FT ?_;replace AC:=O Ij;replace Ab:=O (Ab.o.stay hb);obtain⟨b0,b1,b2,b3,b4,b5,Bw,Bv,hbl⟩:=AC.o.box.blk.BF;obtain⟨-,-,-,f3,f4,f5,f6,f7⟩:=AC.o.box.blk.fz;refine Ig ?_;intro K hK;go_at_call 107;go_call WE c.pay _ _ _ Ab.o as e W1 ⟨vs',rfl,F,hb⟩;replace F:Ai (λq=>B<=q) W1 c.pay vs':=F.mono (λq Y=>Ap JH Y);obtain⟨Bo,Bp,Bq,Br,Bs,Bx,Bz,Bu,rfl⟩:=F.BS;have Ac:=O F;refine FT ?_;replace AC:=O Ij;replace OE:=O (OE.o.stay hb);obtain⟨b0,b1,b2,b3,b4,b5,Bw,Bv,hbl⟩:=AC.o.box.blk.BF;obtain⟨-,-,-,f3,f4,f5,f6,f7⟩:=AC.o.box.blk.fz;obtain⟨D,hgb,Wx,Wy,_⟩:=AC.o.box.lists.c4.blk;have hgl:=hgb.lt;obtain⟨BC,A⟩:∃z,D[i*13+1]? = some z:=⟨_,Cn U⟩;have k1:=hgb.cell (i*13+1);rw[A] at k1;have cv:=hgb.frozen (i*13+1);obtain⟨BD,A⟩:∃z,D[i*13+2]? = some z:=⟨_,Cn U⟩;have k2:=hgb.cell (i*13+2);rw[A] at k2;have cu:=hgb.frozen (i*13+2);obtain⟨BF,A⟩:∃z,D[i*13+3]? = some z:=⟨_,Cn U⟩;have k3:=hgb.cell (i*13+3);rw[A] at k3;have ct:=hgb.frozen (i*13+3);obtain⟨BG,A⟩:∃z,D[i*13+4]? = some z:=⟨_,Cn U⟩;have k4:=hgb.cell (i*13+4);rw[A] at k4;have cr:=hgb.frozen (i*13+4);obtain⟨BH,A⟩:∃z,D[i*13+5]? = some z:=⟨_,Cn U⟩;have k5:=hgb.cell (i*13+5);rw[A] at k5;have cq:=hgb.frozen (i*13+5);obtain⟨BI,A⟩:∃z,D[i*13+6]? = some z:=⟨_,Cn U⟩;have k6:=hgb.cell (i*13+6);rw[A] at k6;have cp:=hgb.frozen (i*13+6);have An:=O (AC.o.six v hgb AD (i*13+1) (AC.o.box.lists.AHf N.o OE.o));have Au:=O (Ac.o.kept (MX W1 g (i*13+1) Ag Aj Ak Al (AR Am) (.slice Aq At Ao)) (λq BS _ Y=>Dv hgb q BS Y AD));unfold AR at An Au;refine ue ?_;intro K hK;refine Bn (λX=>Ct B w X x (.slice G x.Ae.length J) (.slice H x.Ad.length L) (.slice P x.lets.length R) (.slice g x.Ac.length T) (.slice Q x.red.length V)/\Ai (λq=>B<=q) X c.pay [.int .i64 Bo,.int .i64 Bp,.int .i64 Bq,.int .i64 Br,.string ⟨Bs.toArray⟩,.slice Bx Bz Bu]) ⟨An.o,Au.o⟩ ?_;rintro B2 ⟨BU,BZ⟩;have AC:=O BU;have Ac:=O BZ;obtain⟨b0,b1,b2,b3,b4,b5,Bw,Bv,hbl⟩:=AC.o.box.blk.BF;obtain⟨-,-,-,f3,f4,f5,f6,f7⟩:=AC.o.box.blk.fz;obtain⟨D,hgb,Wx,Wy,_⟩:=AC.o.box.lists.c4.blk;have hgl:=hgb.lt;obtain⟨Cp,A⟩:∃z,D[i*13+7]? = some z:=⟨_,Cn U⟩;have Bd:=hgb.cell (i*13+7);rw[A] at Bd;have CI:=hgb.frozen (i*13+7);obtain⟨Cq,A⟩:∃z,D[i*13+8]? = some z:=⟨_,Cn U⟩;have Be:=hgb.cell (i*13+8);rw[A] at Be;have CJ:=hgb.frozen (i*13+8);obtain⟨Cr,A⟩:∃z,D[i*13+9]? = some z:=⟨_,Cn U⟩;have Bf:=hgb.cell (i*13+9);rw[A] at Bf;have CK:=hgb.frozen (i*13+9);obtain⟨Cl,A⟩:∃z,D[i*13+10]? = some z:=⟨_,Cn U⟩;have Ba:=hgb.cell (i*13+10);rw[A] at Ba;have CF:=hgb.frozen (i*13+10);obtain⟨Cm,A⟩:∃z,D[i*13+11]? = some z:=⟨_,Cn U⟩;have Bb:=hgb.cell (i*13+11);rw[A] at Bb;have CG:=hgb.frozen (i*13+11);obtain⟨Co,A⟩:∃z,D[i*13+12]? = some z:=⟨_,Cn U⟩;have Bc:=hgb.cell (i*13+12);rw[A] at Bc;have CH:=hgb.frozen (i*13+12);have An:=O (AC.o.six v hgb AD (i*13+7) (AC.o.box.lists.AEK N.o Ac.o));iterate 2 refine R0 ?_
     refine Ow rfl ?_;intro K hK;go_simp;refine hK _ _ (MX _ _ _ _ _ _ _ _ _) ?_;refine LU ?_;exact YG
    .obtain rfl:i=x.Ac.length:=U;have dl:decide ((x.Ac.length:Int)<(x.Ac.length:Int))=false:=AH;obtain⟨b0,b1,b2,b3,b4,b5,Bw,Bv,hbl⟩:=AC.o.box.blk.BF;obtain⟨-,-,-,f3,f4,f5,f6,f7⟩:=AC.o.box.blk.fz;go_wp2_with fail;go_loopw [79] (λM wr=>∃i:Nat,M=.int .i64 (i:Int)/\i<=x.red.length/\Ct B w wr x (.slice G x.Ae.length J) (.slice H x.Ad.length L) (.slice P x.lets.length R) (.slice Z x.Ac.length T) (.slice Q x.red.length V)) (λM _=>x.red.length-(intOf M).toNat)
     case atStart=>exact⟨0,rfl,Az _,AC.o⟩
     case round=>
      obtain⟨i,rfl,Aw,hb⟩:=hrel;have AC:=O hb;by_cases AQ:i<x.red.length
      .have dl:=Ar i x.red.length;obtain⟨c,f⟩:=BQ x.red i AQ;have N:=O f;obtain⟨g,d,Ax⟩:=AC.o.box.lists.c5.Ch (λ_ _ q=>EO.len q) i c f;have v:=BO.o g d;subst d;go_wp2_with fail;refine fM ?_;refine Bn (λX=>Ct B w X x (.slice G x.Ae.length J) (.slice H x.Ad.length L) (.slice P x.lets.length R) (.slice Z x.Ac.length T) (.slice g x.red.length V)) (w0:=wr.drew) Di ?_;intro Av hb;have AC:=O hb;obtain⟨b0,b1,b2,b3,b4,b5,Bw,Bv,hbl⟩:=AC.o.box.blk.BF;obtain⟨-,-,-,f3,f4,f5,f6,f7⟩:=AC.o.box.blk.fz;obtain⟨A0,I,AU,E⟩:=AC.o.box.lists.c5.BT (λ_ _ q=>EO.len q) i c N.o;obtain⟨A1,rfl,j⟩:=AU;obtain⟨A3,A4,A6,A9,A_,BA,BB,A',rfl⟩:=j.BS;have By:=O j;have AV:=E 1 AD;have AW:=E 2 AD;have AX:=E 3 AD;have AY:=E 4 AD;have AZ:=E 5 AD;have Aa:=E 6 AD;simp only[A8,Bt] at AV AW AX AY AZ Aa;iterate 9 refine GM ?_
       refine Ig ?_;intro K hK;go_at_call 107;go_call WE c.H5 _ _ _ By.o as e W1 ⟨vs',rfl,F,hb⟩;replace F:Ai (λq=>B<=q) W1 c.H5 vs':=F.mono (λq Y=>Ap JH Y);obtain⟨Ag,Aj,Ak,Al,Am,Aq,At,Ao,rfl⟩:=F.BS;have OE:=O F;refine FT ?_;replace AC:=O Ij;obtain⟨b0,b1,b2,b3,b4,b5,Bw,Bv,hbl⟩:=AC.o.box.blk.BF;obtain⟨-,-,-,f3,f4,f5,f6,f7⟩:=AC.o.box.blk.fz;obtain⟨D,hgb,Wx,Wy,_⟩:=AC.o.box.lists.c5.blk;have hgl:=hgb.lt;obtain⟨BC,A⟩:∃z,D[i*7+1]? = some z:=⟨_,Cn U⟩;have k1:=hgb.cell (i*7+1);rw[A] at k1;have cv:=hgb.frozen (i*7+1);obtain⟨BD,A⟩:∃z,D[i*7+2]? = some z:=⟨_,Cn U⟩;have k2:=hgb.cell (i*7+2);rw[A] at k2;have cu:=hgb.frozen (i*7+2);obtain⟨BF,A⟩:∃z,D[i*7+3]? = some z:=⟨_,Cn U⟩;have k3:=hgb.cell (i*7+3);rw[A] at k3;have ct:=hgb.frozen (i*7+3);obtain⟨BG,A⟩:∃z,D[i*7+4]? = some z:=⟨_,Cn U⟩;have k4:=hgb.cell (i*7+4);rw[A] at k4;have cr:=hgb.frozen (i*7+4);obtain⟨BH,A⟩:∃z,D[i*7+5]? = some z:=⟨_,Cn U⟩;have k5:=hgb.cell (i*7+5);rw[A] at k5;have cq:=hgb.frozen (i*7+5);obtain⟨BI,A⟩:∃z,D[i*7+6]? = some z:=⟨_,Cn U⟩;have k6:=hgb.cell (i*7+6);rw[A] at k6;have cp:=hgb.frozen (i*7+6);have An:=O (AC.o.six v hgb AD (i*7+1) (AC.o.box.lists.ABp N.o OE.o));exact s6
      .obtain rfl:i=x.red.length:=U;have dl:decide ((x.red.length:Int)<(x.red.length:Int))=false:=AH;obtain⟨b0,b1,b2,b3,b4,b5,Bw,Bv,hbl⟩:=AC.o.box.blk.BF;obtain⟨-,-,-,f3,f4,f5,f6,f7⟩:=AC.o.box.blk.fz;obtain⟨Cb,Cc,Cd,Ce,Cf,Cg,Ch,Ci,CM⟩:=AC.o.res.BF;obtain⟨B7,B8,B9,B_,B',CB,CC,CD⟩:=AC.o.res.fz;go_wp2_with fail;refine BE (v:=.agg #[x.fr,x.mode,x.unit,.slice G x.Ae.length J,.slice H x.Ad.length L,.slice P x.lets.length R,.slice Z x.Ac.length T,.slice Q x.red.length V]) (Ja results54 _ _ (w.heap.size+1) 151 _ (0,0) _ rfl ((((((((AC.o.res.put 0 _).put 1 _).put 2 _).put 3 _).put 4 _).put 5 _).put 6 _).put 7 _) underlying151 rfl zu) rfl ⟨_,_,_,_,_,rfl,?_,((((((((AC.o.box.AJ.setCell AH _).setCell AH _).setCell AH _).setCell AH _).setCell AH _).setCell AH _).setCell AH _).setCell AH _)⟩;exact(B5.set (B5.set (B5.set (B5.set (B5.set (B5.set (B5.set (B5.set AC.o.box.lists AC.o.res 0 _) (AC.o.res.put 0 _) 1 _) ((AC.o.res.put 0 _).put 1 _) 2 _) (((AC.o.res.put 0 _).put 1 _).put 2 _) 3 _) ((((AC.o.res.put 0 _).put 1 _).put 2 _).put 3 _) 4 _) (((((AC.o.res.put 0 _).put 1 _).put 2 _).put 3 _).put 4 _) 5 _) ((((((AC.o.res.put 0 _).put 1 _).put 2 _).put 3 _).put 4 _).put 5 _) 6 _) (((((((AC.o.res.put 0 _).put 1 _).put 2 _).put 3 _).put 4 _).put 5 _).put 6 _) 7 _)
end
section
variable{u:List AB}{w:AA}
def AEl{B:Nat}{p:Int × CL}(A:Cz B w p u):∀c∈u,c.oneCell'=true:=by
 obtain⟨E,rfl,F,rfl,C⟩:=A;obtain⟨D,c,rfl,_⟩:=AS.slice C;simp[AR,Value.oneCell']
def AEo{B:Nat}{r:Em}(A:D3 B w r u):∀c∈u,c.oneCell'=true:=by
 obtain⟨E,rfl,C⟩:=A;obtain⟨D,c,rfl⟩:=CG C;simp[Value.oneCell']
def AEq{r:Rat}(h:FR r u):∀c∈u,c.oneCell'=true:=iB
def AEj{B:Nat}{x:Ah}(C:H6 B w x u):∀c∈u,c.oneCell'=true:=by
 obtain⟨N,O,P,Q,R,rfl,A⟩:=C;obtain⟨D,I,rfl,_⟩:=A.c1.slice;obtain⟨E,J,rfl,_⟩:=A.c2.slice;obtain⟨F,K,rfl,_⟩:=A.c3.slice;obtain⟨G,L,rfl,_⟩:=A.c4.slice;obtain⟨H,M,rfl,_⟩:=A.c5.slice;simp[Value.oneCell']
def uB(B:Nat)(w:AA):=FR
def AI9(B:Nat)(A:List (Int × CL))(w:AA)(v:AB)(H:A.length<=1000)(h:AS B w 126 4 (Cz B w) A v):
 AI 50 #[v] w (Mw 126 4 (Cz B) A w):=by
 obtain⟨D,E,F,G⟩:=MP h (λ_ _ C=>AEl C);go_call AJQ B A.length D.flatten w v F H G as e w' ⟨v',rfl,ho,hb⟩;exact⟨v',rfl,⟨D,E.mono (λ_ _ C=>Cz.kept (S:=[]) C CX My),ho⟩,hb⟩
def AI'(B:Nat)(A:List Em)(w:AA)(v:AB)(H:A.length<=1000)(h:AS B w 128 5 (D3 B w) A v):
 AI 51 #[v] w (Mw 128 5 (D3 B) A w):=by
 obtain⟨D,E,F,G⟩:=MP h (λ_ _ C=>AEo C);go_call AJR B A.length D.flatten w v F H G as e w' ⟨v',rfl,ho,hb⟩;exact⟨v',rfl,⟨D,E.mono (λ_ _ C=>D3.kept (S:=[]) C CX CE),ho⟩,hb⟩
def AJB(B:Nat)(A:List Rat)(w:AA)(v:AB)(E:A.length<=1000)(h:AS B w 121 4 (uB B w) A v):
 AI 52 #[v] w (Mw 121 4 (uB B) A w):=by
 obtain⟨us,h1,C,D⟩:=MP h (λ_ _ q=>AEq q);refine(AJT B A.length us.flatten w v C E D).mono ?_;exact eT
def AI8(B:Nat)(A:List Ah)(w:AA)(v:AB)(H:A.length<=1000)(h:AS B w 151 8 (H6 B w) A v):
 AI 53 #[v] w (Mw 151 8 (H6 B) A w):=by
 obtain⟨D,E,F,G⟩:=MP h (λ_ _ C=>AEj C);go_call AJP B A.length D.flatten w v F H G as e w' ⟨v',rfl,ho,hb⟩;exact⟨v',rfl,⟨D,E.mono (λ_ _ C=>H6.kept (S:=[]) C CX My),ho⟩,hb⟩
def AJD(B:Nat)(A:Ay)(w:AA)(v:AB)(D:A.length<=1000)(C:w.ownsRow B 3 1 v A.length (A.map (Value.int .i64))):
 AI 55 #[v] w (K_ 3 1 A.length (A.map (Value.int .i64)) w):=
 AJO B A.length _ w v C D (λu E=>by obtain⟨x,_,rfl⟩:=Gr.1 E;rfl)
def CP.set{B:Nat}{X:AA}{x:B6}{v1 v2 v3:AB}(h:CP B X x v1 v2 v3){q:Nat}{cs:Array AB}(E:AG X q 33 cs)(i:Nat)(u:AB):CP B (X.setCell ⟨q,i,none⟩ u) x v1 v2 v3:=
 h.kept (S:=[q]) Us (λC t A D F=>Dv E C A D (by
  rcases F with h|h|h|h|h|h|h|h|h|h|h<;>rw[h]<;>decide))
structure EQ(B:Nat)(W X:AA)(x:B6)(v1 v2 v3:AB):Prop where
 box:FZ B W X x W v1 v2 v3
 res:AG X (W.heap.size+1) 33 #[AL,AL,AL]
section
variable {B:Nat} {W X Y:AA} {x:B6} {v1 v2 v3 t:AB}
def EQ.below(A:EQ B W X x v1 v2 v3)(C:Below X X Y):EQ B W Y x v1 v2 v3:=⟨A.box.below C,A.res.below C A.res.lt⟩
def EQ.aX(h:EQ B W X x v1 v2 v3)(A:AS B X 126 4 (Cz B X) x.Ao t):EQ B W (X.setCell ⟨W,0,none⟩ t) x t v2 v3:=
 ⟨⟨h.box.AJ.setCell AK _,h.box.blk.put 0 t,CP.set ⟨A,h.box.law.c2,h.box.law.c3⟩ h.box.blk 0 t⟩,h.res.far Zr _⟩
def EQ.aW(h:EQ B W X x v1 v2 v3)(A:AS B X 128 5 (D3 B X) x.Bc t):EQ B W (X.setCell ⟨W,1,none⟩ t) x v1 t v3:=
 ⟨⟨h.box.AJ.setCell AK _,h.box.blk.put 1 t,CP.set ⟨h.box.law.c1,A,h.box.law.c3⟩ h.box.blk 1 t⟩,h.res.far Zr _⟩
def EQ.aV(h:EQ B W X x v1 v2 v3)(A:AS B X 121 4 FR x.rat t):EQ B W (X.setCell ⟨W,2,none⟩ t) x v1 v2 t:=
 ⟨⟨h.box.AJ.setCell AK _,h.box.blk.put 2 t,CP.set ⟨h.box.law.c1,h.box.law.c2,A⟩ h.box.blk 2 t⟩,h.res.far Zr _⟩
def EQ.three(E:EQ B W X x v1 v2 v3){C D F:AB}(H:AS B X 126 4 (Cz B X) x.Ao C)(I:AS B X 128 5 (D3 B X) x.Bc D)(J:AS B X 121 4 FR x.rat F):
 EQ B W (((X.setCell ⟨W,0,none⟩ C).setCell ⟨W,1,none⟩ D).setCell ⟨W,2,none⟩ F) x C D F:=by
 have G:=CP.set ⟨E.box.law.c1,I,J⟩ E.box.blk 0 C;have A:=E.aX H;have K:=CP.set ⟨A.box.law.c1,A.box.law.c2,G.c3⟩ A.box.blk 1 D;exact(A.aW G.c2).aV K.c3
end
abbrev aU(w:AA)(g o:Nat)(u0 u1 u2 u3 u4 u5 u6 u7:AB):AA:=(((((((w.setCell ⟨g,o,none⟩ u0).setCell ⟨g,o+1,none⟩ u1).setCell ⟨g,o+2,none⟩ u2).setCell ⟨g,o+3,none⟩ u3).setCell ⟨g,o+4,none⟩ u4).setCell ⟨g,o+5,none⟩ u5).setCell ⟨g,o+6,none⟩ u6).setCell ⟨g,o+7,none⟩ u7
def cF(w:AA)(g o:Nat)(u0 u1 u2 u3 u4 u5 u6 u7:AB):AP [g] w (aU w g o u0 u1 u2 u3 u4 u5 u6 u7):=
 ((((((((AP.refl _ _).setCell AH _).setCell AH _).setCell AH _).setCell AH _).setCell AH _).setCell AH _).setCell AH _).setCell AH _
def Dh.bE{B:Nat}{X:AA}{l:List Ah}{g n c k:Nat}{y:Ah}{D E F G H:AB}(h:Dh B X l (.slice g n c))(M:l[k]? = some y)(R:B5 B X y D E F G H):
 Dh B (aU X g (k*8) y.fr y.mode y.unit D E F G H) l (.slice g n c):=by
 obtain⟨N,J,T,S,_⟩:=AS.blk h;have L:=cF X g (k*8) y.fr y.mode y.unit D E F G H;have K:∀C t I,AG X C t I->Ox t->C∉[g]:=λC t I P Q=>Dv J C I P (by
  rcases Q with h|h|h|h|h|h<;>rw[h]<;>decide)
 have V:=(Cd.1 M).1;refine AS.setRow (cs:=N) (u:=[.int .i64 y.fr,.int .i64 y.mode,.int .i64 y.unit,D,E,F,G,H]) h (λ_ _ C=>C.len) M J ((((((((J.put (k*8) _).put (k*8+1) _).put (k*8+2) _).put (k*8+3) _).put (k*8+4) _).put (k*8+5) _).put (k*8+6) _).put (k*8+7) _) AH
  ⟨D,E,F,G,H,rfl,R.kept L K⟩ rfl (λA O=>?_) (λA O=>?_) (λ_ _ C=>C.kept L K)
 .rcases (show A=0\/A=1\/A=2\/A=3\/A=4\/A=5\/A=6\/A=7 by omega) with rfl|rfl|rfl|rfl|rfl|rfl|rfl|rfl<;>simp[I']<;>omega
 .exact p7
end
section
variable{x:B6}{v3:AB}
structure KE(B:Nat)(W Y X:World)(g1 i:Nat)(cs1:Array Value)(l:List Ah)(s:Value):Prop where
 AJ:Below W.heap.size W X
 kept:AP [g1] Y X
 Ao:AG X g1 126 (cs1.setIfInBounds (i*4+3) s)
 own:Dh B X l s
 lo:∀g n c,s=.slice (some ⟨g,0,none⟩) n c->Y.heap.size<=g
section
variable {B:Nat} {W Y X Z:AA} {g1 i:Nat} {cs1:Array AB} {l:List Ah} {s:AB}
def KE.below(h:KE B W Y X g1 i cs1 l s)(hb:Below X X Z):KE B W Y Z g1 i cs1 l s:=
 ⟨AW h.AJ hb,h.kept.trans CX,h.Ao.below hb h.Ao.lt,h.own.below hb,h.lo⟩
def AP.far{S:List Nat}{a b:AA}(h:AP S a b){p:Addr}(E:a.heap.size<=p.block)(u:AB):AP S a (b.setCell p u):=
 ⟨h.os,h.tape,h.output,Ap h.size AH,λA C D=>(Lg b p u A U).trans (h.block A C D)⟩
def KE.bE{g n c k:Nat}{y:Ah}{D E F G H:AB}(h:KE B W Y X g1 i cs1 l (.slice g n c))(I:W.heap.size<=Y.heap.size)(L:l[k]? = some y)(K:B5 B X y D E F G H):
 KE B W Y (aU X g (k*8) y.fr y.mode y.unit D E F G H) g1 i cs1 l (.slice g n c):=by
 have A:=h.lo g n c rfl;have C:W.heap.size<=g:=Ap I A;obtain⟨M,J,_⟩:=AS.blk h.own;exact⟨(((((((h.AJ.setCell (p:=⟨g,k*8,none⟩) C _).setCell (p:=⟨g,k*8+1,none⟩) C _).setCell (p:=⟨g,k*8+2,none⟩) C _).setCell (p:=⟨g,k*8+3,none⟩) C _).setCell (p:=⟨g,k*8+4,none⟩) C _).setCell (p:=⟨g,k*8+5,none⟩) C _).setCell (p:=⟨g,k*8+6,none⟩) C _).setCell (p:=⟨g,k*8+7,none⟩) C _,
  (((((((h.kept.far (p:=⟨g,k*8,none⟩) A _).far (p:=⟨g,k*8+1,none⟩) A _).far (p:=⟨g,k*8+2,none⟩) A _).far (p:=⟨g,k*8+3,none⟩) A _).far (p:=⟨g,k*8+4,none⟩) A _).far (p:=⟨g,k*8+5,none⟩) A _).far (p:=⟨g,k*8+6,none⟩) A _).far (p:=⟨g,k*8+7,none⟩) A _,
  h.Ao.kept (cF _ _ _ _ _ _ _ _ _ _ _) (Dv J _ _ h.Ao AD),Dh.bE h.own L K,h.lo⟩
def KE.done{O:AB}{n c:Nat}{p:Int × CL}(h:KE B W Y X g1 i cs1 p.2.A0 s)(D:EQ B W Y x (.slice g1 n c) O v3)(K:AG Y g1 126 cs1)(L:x.Ao[i]? = some p):
 EQ B W X x (.slice g1 n c) O v3:=by
 have H:=h.kept;have G:∀q E A,AG Y q E A->E≠126->q∉[g1]:=λq E A C M=>Dv K q A C M;have Q:∀q E A,AG Y q E A->JX E->q∉[g1]:=λq E A C M=>G q E A C (by
  rcases M with h|h|h|h|h|h|h<;>rw[h]<;>decide)
 obtain⟨P,J,V,T,_⟩:=AS.blk D.box.law.c1;obtain rfl:P=cs1:=by
  have I:=J;unfold AG at I K;rw[K] at I;cases I;rfl
 have a:=(Cd.1 L).1;obtain⟨d,_,S,R⟩:=D.box.law.c1.BT (λ_ _ q=>Cz.len q) i p L;obtain⟨e,rfl,f,rfl,_⟩:=S;refine⟨⟨h.AJ,D.box.blk.kept H (G _ _ _ D.box.blk AD),?_,D.box.law.c2.kept H (λq A C=>G q _ A C AD) (λ_ _ q=>q.kept H (λq A C=>G q _ A C AD)),D.box.law.c3.kept H (λq A C=>G q _ A C AD) BW⟩,
  D.res.kept H (G _ _ _ D.res AD)⟩
 refine AS.setRow (u:=[.int .i64 p.1,AR p.2.name,.int .i64 p.2.cur,s]) D.box.law.c1 (λ_ _ q=>Cz.len q) L J h.Ao AH ⟨_,rfl,s,rfl,h.own⟩ rfl (λF N=>?_) (λF N=>?_) (λ_ _ q=>q.kept H Q)
 .rcases (show F=3\/F<3 by omega) with rfl|b
  .simp[I'];omega
  .rw[I',AU U,<-J.cell,R F N];rcases (show F=0\/F=1\/F=2 by omega) with rfl|rfl|rfl<;>rfl
 .rw[I',AU U]
def EQ.mem{N G:AB}{g n c:Nat}{r:Em}(h:EQ B W X x N (.slice g n c) v3)(P:W.heap.size<=g)(J:x.Bc[i]? = some r)(Q:X.ownsRow B 3 1 G r.mem.length (r.mem.map (Value.int .i64))):
 EQ B W (X.setCell ⟨g,i*5+4,none⟩ G) x N (.slice g n c) v3:=by
 obtain⟨S,I,V,T,_⟩:=AS.blk h.box.law.c2;have E:AP [g] X (X.setCell ⟨g,i*5+4,none⟩ G):=(AP.refl _ _).setCell AH _;have F:∀q H A,AG X q H A->H≠128->q∉[g]:=λq H A C K=>Dv I q A C K;have a:=(Cd.1 J).1;obtain⟨d,_,R,O⟩:=h.box.law.c2.BT (λ_ _ q=>D3.len q) i r J;obtain⟨_,rfl,_⟩:=R;have L:∀q A,AG X q 3 A->q∉[g]:=λq A C=>F q _ A C AD;refine⟨⟨h.box.AJ.setCell P _,h.box.blk.kept E (F _ _ _ h.box.blk AD),h.box.law.c1.kept E (λq A C=>F q _ A C AD) (λ_ _ q=>q.kept E (λq H A C K=>F q H A C (by
  rcases K with h|h|h|h|h|h|h<;>rw[h]<;>decide))),?_,h.box.law.c3.kept E (λq A C=>F q _ A C AD) BW⟩,h.res.kept E (F _ _ _ h.res AD)⟩
 refine AS.setRow (u:=[.int .i64 r.fr,.int .i64 r.min,.int .i64 r.post,.int .i64 r.sub,G]) h.box.law.c2 (λ_ _ q=>D3.len q) J I (I.put (i*5+4) G) AH ⟨G,rfl,Bl Q E L⟩ rfl (λD M=>?_) (λD M=>?_) (λ_ _ q=>q.kept E L)
 .rcases (show D=4\/D<4 by omega) with rfl|b
  .simp[I'];omega
  .rw[I',AU U,<-I.cell,O D M];rcases (show D=0\/D=1\/D=2\/D=3 by omega) with rfl|rfl|rfl|rfl<;>rfl
 .rw[I',AU U]
end
end
