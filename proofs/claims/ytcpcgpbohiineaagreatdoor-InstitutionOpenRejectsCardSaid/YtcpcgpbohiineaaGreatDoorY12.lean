import Derived.Test.YtcpcgpbohiineaaGreatDoorY08
import Derived.Test.YtcpcgpbohiineaaGreatDoorY11
namespace Go.Proofs.YtcpcgpbohiineaaGreatDoor
open Go.RowKit Go.Proofs.Tryz
set_option linter.all false
set_option maxRecDepth 100000
set_option maxHeartbeats 4000000
def tl(k:Nat)(w:AA)(e:Ending)(B:AA):Prop:=∃A:AE,e=.returned (AR A)/\A.length<=k/\Below w w B
def ABu(n:Nat)(w:AA)(M:n<1000000000000):
 AI 345 #[n,.int .i64 1] w (tl 20 w):=by
 go_in;go_wp2_with fail;go_loopg [0,5] 13 (λC E F wr=>∃(A:Nat) (B:AE),E=.int .i64 (A:Int)/\F=AR B/\A<10 ^ C/\B.length+C=13/\wr=w)
 case atStart=>exact⟨n,[],rfl,rfl,U,rfl,rfl⟩
 case round=>
  obtain⟨A,B,rfl,rfl,hm,N,rfl⟩:=hrel;unfold AR;by_cases L:0<A\/B.length<1
  .rcases gk with _|C
   .have:A<1:=wH;omega
   have hb:A<10 ^ 13:=Co hm (I_ U U);have K:A<10000000000000:=SJ;have D:=O (show A / 10<10 ^ C by rw[JB] at hm;omega);by_cases J:0<A
   .have G:decide ((0:Int)<(A:Int))=true:=AM;go_wp2;go_roundg C
    case measure=>omega
    case rel=>
     refine⟨A / 10,UInt8.ofNat (48+A%10)::B,A7,?_,D.o,hU,rfl⟩;rw[XR _ U,GV];rfl
   .obtain rfl:A=0:=U;obtain rfl:B=[]:=PD.1 U;go_wp2;go_roundg C
    case measure=>omega
    case rel=>
     refine⟨0,UInt8.ofNat (48+0%10)::[],A7,?_,by simpa using D.o,hU,rfl⟩;kernel_rfl
  .obtain rfl:A=0:=U;have H:=A4 B.length 1;have I:=A4 B.length 1;go_wp2;go_ret;exact⟨B,rfl,U,AN _ _⟩
def AH0(n:Nat)(V:n<=999999999)(w:AA):
 AI 297 #[.agg #[n,.int .i64 1]] w (tl 20 w):=by
 have E:=O (show GT (n:Int) 1=true by simp[GT];omega);go_in;go_wp2_with fail;have F:=(AN w w).alloc AK (.cells #[n,.int .i64 1] 119);refine(ax (n:Int) 1 _).mono ?_;rw[E.o];rintro C W ⟨rfl,D⟩;refine Bn (λB=>AG B w 119 #[n,.int .i64 1]/\Below w w B) ⟨(AG.new w _ _).below D AH,AW F D⟩ ?_;rintro B ⟨A,G⟩;obtain⟨I,J,N,P⟩:=Fb A;have S:=A.lt;go_wp2_with fail;go_call Ok _ _ U U as C w2 ⟨rfl,rfl⟩;go_wp2_with fail;go_call ABu n _ U as C w2 ⟨s,rfl,hs,hb2⟩;have H:=AW G hb2;obtain⟨K,L,Q,R⟩:=Fb (A.below hb2 A.lt);have T:=(A.below hb2 A.lt).lt;have M:=A4 n 0;unfold AR;go_wp2_with fail;go_ret;exact⟨s,rfl,hs,H⟩
def ZY(w:AA)(e:Ending)(B:AA):Prop:=∃A:AE,e=.returned (.tuple #[AR A,true])/\Below w w B
structure ANF(N D:Nat)(Ey:Int):Prop where
 d1:1<=D
 d2:D<=10000
 n:N<=1000000000000000
 q:N / D<=999999999
 AOH:10000%D=0
 k1:2<=Ey
 k2:Ey<=4
 Ht:Oe ⟨(N:Int),(D:Int)⟩=true
 AOI:Nat.gcd N D=1
def cx{v:EP}{D:Int}(h:Ej v D=true):∃B A:Nat,v=⟨(B:Int),(A:Int)⟩/\ANF B A D:=by
 obtain⟨O,F⟩:=v;unfold Ej at h;simp only[At,CJ] at h;obtain⟨⟨⟨⟨⟨C,H⟩,I⟩,J⟩,K⟩,T⟩:=h;have N:=C;unfold Oe at C;simp only[At,CJ,C7] at C;obtain⟨⟨⟨⟨P,Q⟩,R⟩,S⟩,G⟩:=C;obtain⟨B,rfl⟩:=O' H;obtain⟨A,rfl⟩:=O' (show 0<=F by omega);have E:10000%A=0:=by
  have:((10000%A:Nat):Int)=0:=by rw[Int.natCast_emod];exact I
  exact Int.ofNat_eq_zero.mp this
 have L:A<=10000:=Tf AD (O5 E);have M:B / A<=999999999:=by
  have:((B:Int) / (A:Int))=((B / A:Nat):Int):=AH;omega
 exact⟨B,A,rfl,U,L,U,M,E,J,K,N,by simpa using G⟩
def AIY(B A q r:Nat)(C:A*q+r=B):((B:Int)-(q:Int)*(A:Int))=(r:Int):=by
 subst C;simp only[Int.natCast_add,Int.natCast_mul];rw[Int.mul_comm (q:Int)];omega
def kE(v:EP)(Ey:Int)(w:AA)(h:Ej v Ey=true):
 AI 220 #[.agg #[v.n,v.d],Ey] w (ZY w):=by
 obtain⟨B,A,rfl,Z⟩:=cx h;have i:=O (show GT (B:Int) (A:Int)=true by rw[show GT (B:Int) (A:Int)=Oe ⟨(B:Int),(A:Int)⟩ from yN ⟨_,_⟩];exact Z.Ht);obtain⟨u,AX,AY,f4,V,AZ,Ab,_,_⟩:=Z;show AI 220 #[.agg #[B,A],Ey] w (ZY w);have AV:=A4 B 0;have AIQ:((A:Int)==0)=false:=Aw.2 U;have o:((10000:Int)%(A:Int) !=0)=false:=by
  have:(10000:Int)%(A:Int)=((10000%A:Nat):Int):=AH;rw[this,V];rfl
 have Tx:(B:Int) / (A:Int)=((B / A:Nat):Int):=AH;have AM:0<=(B:Int) / (A:Int):=wk;have AO:(B:Int) / (A:Int)<=999999999:=wL;have g:=O Tx;clear Tx;have AT:=A4 Ey 2;have AU:=A4 4 Ey;clear h;go_in;go_wp2_with fail;have W:=(AN w w).alloc AK (.cells #[B,A] 119);refine(ax (B:Int) (A:Int) _).mono ?_;rw[i.o];rintro q Aj ⟨rfl,J⟩;refine Bn (λI=>AG I w 119 #[B,A]/\Below w w I) ⟨(AG.new w _ _).below J AH,AW W J⟩ ?_;rintro I ⟨D,Aa⟩;obtain⟨j,l,x,y⟩:=Fb D;have AJ:=D.lt;clear J W;go_wp2_with fail;rw[g.o];have Y:=Nat.div_add_mod B A;have e:B%A<A:=Mi _ u;have E:A*(10000 / A)=10000:=Nat.mul_div_cancel' (O5 V);have F:(10000:Int) / (A:Int)=((10000 / A:Nat):Int):=AH;have X:1<=10000 / A:=by
  rcases AF:10000 / A with _|c
  .rw[AF] at E;simp at E
  .omega
 have N:(B%A)*(10000 / A)<10000:=by
  have:=(Nat.mul_lt_mul_right X).2 e;rwa [E] at this
 have M:((B:Int)-((B / A:Nat):Int)*(A:Int))=((B%A:Nat):Int):=AIY B A _ _ Y;have Ag:0<=((B / A:Nat):Int)*(A:Int):=Int.mul_nonneg (Kp _) (Kp _);have Ah:((B / A:Nat):Int)*(A:Int)<=(B:Int):=Int.sub_nonneg.mp (by rw[M];exact Kp _);have AP:B / A<=999999999:=f4;have H:((B:Int)-((B / A:Nat):Int)*(A:Int))*(10000 / (A:Int))=(((B%A)*(10000 / A):Nat):Int):=by
  rw[M,F,Int.natCast_mul]
 have Ae:0<=((B:Int)-((B / A:Nat):Int)*(A:Int))*(10000 / (A:Int)):=by rw[H];exact Kp _
 have Af:((B:Int)-((B / A:Nat):Int)*(A:Int))*(10000 / (A:Int))<=9999:=by rw[H];exact Int.ofNat_le.2 (Nat.le_of_lt_succ N)
 have Ac:0<=(10000:Int) / (A:Int):=by rw[F];exact Kp _
 have Ad:(10000:Int) / (A:Int)<=10000:=by rw[F];exact Int.ofNat_le.2 (Nat.div_le_self _ _)
 have f:=O H;have T:=O N;clear H M F E Y N e AM AO f4 o X;generalize B%A*(10000 / A)=C at *;generalize B / A=AQ at *;refine(AH0 AQ AP _).mono ?_;rintro q AS ⟨P,rfl,Ai,K⟩;have AC:=AW Aa K;have L:=O (D.below K D.lt);obtain⟨s,e1,z,AB⟩:=Fb L.o;have AL:=L.o.lt;clear j l x y K Aa D AJ;unfold AR;go_wp2_with fail;go_quiet (fail)
 rw[f.o];have ch:=Do AC nq;generalize AS.drewN nq=Ak at *;clear s e1 z AB AL L;by_cases h0:0<C
 .have d1:=Ar 0 C;go_wp2_with fail;clear d1;go_loopg [7,8,9] 4 (λG Q R S wr=>∃(t:AE) (m k:Nat),Q=AR t/\R=.int .i64 (m:Int)/\S=.int .i64 (k:Int)/\m<10 ^ G/\k=10 ^ G / 10/\t.length+G<=40/\G<=4/\Below w w wr)
  case atStart=>exact⟨P++[46],C,1000,vp,rfl,rfl,T.o,rfl,Ap AH (show P.length+5<=40 by omega),U,ch⟩
  case round=>
   exact uH
 .have d1:=A4 0 C;go_wp2_with fail;clear d1;go_loopg [7,8,9] 4 (λG Q R S wr=>∃(t:AE) (m k:Nat),Q=AR t/\R=.int .i64 (m:Int)/\S=.int .i64 (k:Int)/\m<10 ^ G/\k=10 ^ G / 10/\t.length+G<=40/\G<=4/\Below w w wr)
  case atStart=>exact⟨P,C,1000,vp,rfl,rfl,T.o,rfl,U,U,ch⟩
  case round=>
   exact uH
def AY.WX(e:AY)(A:e.DG=true):∀k∈e.kids,k.DG=true:=by
 intro k B;cases e<;>simp only[AY.DG,At] at A<;>simp only[AY.kids,Aj,A',A_] at B
 .subst B;exact A.2
 .rcases B with rfl|rfl
  .exact A.1.2
  .exact A.2
 .rcases B with rfl|rfl|rfl
  .exact A.1.1
  .exact A.1.2
  .exact A.2
def AY.Wz(e:AY)(D:e.DG=true)(A:4<=e.op)(v:AB):e.head v=H2 e.op 0 0 0 [] v:=by
 cases e with
 | zero=>cases D
 | lit v F=>exact absurd A (by show ¬(4:Int)<=1;decide)
 | name H=>exact absurd A (by show ¬(4:Int)<=2;decide)
 | EY G=>exact absurd A (by show ¬(4:Int)<=3;decide)
 | un E B=>rfl
 | bin E B C=>rfl
 | ite c B C=>rfl
def AY.XZ(e:AY)(A:e.DG=true):(∃v d,e=.lit v d)\/(∃s,e=.name s)\/(∃n,e=.EY n)\/4<=e.op:=by
 cases e with
 | zero=>cases A
 | lit v d=>exact .inl ⟨_,_,rfl⟩
 | name s=>exact .inr (.inl ⟨_,rfl⟩)
 | EY n=>exact .inr (.inr (.inl ⟨_,rfl⟩))
 | un B C=>
  simp only[AY.DG,At,CJ] at A;exact .inr (.inr (.inr A.1.1))
 | bin B C D=>
  simp only[AY.DG,At,CJ] at A;have:7<=B:=A.1.1.1;exact .inr (.inr (.inr (by show 4<=B;omega)))
 | ite c C D=>exact .inr (.inr (.inr (by show(4:Int)<=21;decide)))
def ABZ(P:Nat->Prop)(x:EP)(d:Int)(w:AA)(G:List AB)(h:Ai P w (.lit x d) G)(E:Ej x d=true):
 AI 300 #[.agg G.toArray] w (Ca true w):=by
 obtain⟨K,H,F,hF⟩:=cx E;have R:(x.d==0)=false:=Aw.2 (by rw[F];have:=hF.d1;show(H:Int)≠0;omega);have S:(d==0)=false:=Aw.2 (by have:=hF.k1;omega);clear F hF;obtain⟨A,c,L,o,M,rfl,_⟩:=h.inv;have AC:=O (Bd.new h);have I:=O (λw=>Xi 1 0 SK w);change Hid (Bd P w (w.alloc (.cells [.int .i64 1,.int .i64 x.n,.int .i64 x.d,.int .i64 d,.string ⟨([]:AE).toArray⟩,.slice A 0 c].toArray 213)) (AY.lit x d) w [.int .i64 1,.int .i64 x.n,.int .i64 x.d,.int .i64 d,.string ⟨([]:AE).toArray⟩,.slice A 0 c]) at AC
 clear h;show AI 300 #[.agg #[.int .i64 1,x.n,x.d,d,.string ⟨([]:AE).toArray⟩,.slice A 0 c]] w (Ca true w);obtain⟨b0,b1,b2,b3,b4,b5,hbl⟩:=AC.o.blk.y6;go_in;go_wp2_with fail;refine EZ ?_;repeat (go_big_quiet_step ((go_at_call 346;exact EN (I.o _))))
 refine Cj ?_;rintro N ⟨⟨Q,D⟩,J⟩;subst J;refine Bn (λB=>Bd P w B (AY.lit x d) w [.int .i64 1,.int .i64 x.n,.int .i64 x.d,.int .i64 d,.string ⟨([]:AE).toArray⟩,.slice A 0 c]) (AC.o.below D) ?_;clear AC b0 b1 b2 b3 b4 b5 hbl D;intro B C;have AC:=O C;clear C;obtain⟨b0,b1,b2,b3,b4,b5,hbl⟩:=AC.o.blk.y6;go_wp2_with fail;refine(kE x d _ E).mono ?_;exact sD
def ABY(P:Nat->Prop)(s:AE)(w:AA)(D:List AB)(h:Ai P w (.name s) D)(C:FJ s=true):
 AI 300 #[.agg D.toArray] w (Ca true w):=by
 have T:(s==[])=false:=by
  rcases s with _|⟨c,U⟩
  .cases C
  .rfl
 obtain⟨A,c,S,o,V,rfl,_⟩:=h.inv;have AC:=O (Bd.new h);have E:=O (λw=>Xi 2 0 SK w);change Hid (Bd P w (w.alloc (.cells [.int .i64 2,.int .i64 0,.int .i64 0,.int .i64 0,.string ⟨s.toArray⟩,.slice A 0 c].toArray 213)) (AY.name s) w [.int .i64 2,.int .i64 0,.int .i64 0,.int .i64 0,.string ⟨s.toArray⟩,.slice A 0 c]) at AC
 show AI 300 #[.agg #[.int .i64 2,(),(),(),.string ⟨s.toArray⟩,.slice A 0 c]] w (Ca true w);obtain⟨F,G,H,I,J,K,N⟩:=AC.o.blk.y6;go_in;go_wp2_with fail;refine EZ ?_;repeat (go_big_quiet_step ((go_at_call 346;exact EN (E.o _))))
 refine Cj ?_;rintro X ⟨⟨Y,M⟩,Q⟩;subst Q;refine Bn (λB=>Bd P w B (AY.name s) w [.int .i64 2,.int .i64 0,.int .i64 0,.int .i64 0,.string ⟨s.toArray⟩,.slice A 0 c]) (AC.o.below M) ?_;intro B L;have AC:=O L;obtain⟨F,G,H,I,J,K,N⟩:=AC.o.blk.y6;go_wp2_with (go_at_call 153;refine(Ts s _ C).mono ?_;rintro R W ⟨rfl,rfl⟩)
 exact Xp
def ABa(P:Nat->Prop)(n:Int)(w:AA)(N:List AB)(h:Ai P w (.EY n) N)(M:1<=n/\n<=45):
 AI 300 #[.agg N.toArray] w (Ca true w):=by
 have X:decide (1<=n)=true:=CA M.1;have Y:decide (n<=45)=true:=CA M.2;have Z:(n==0)=false:=Aw.2 U;obtain⟨B,c,S,o,T,rfl,_⟩:=h.inv;have A:=O (Bd.new h);have Q:=O (λw=>Xi 3 0 SK w);change Hid (Bd P w (w.alloc (.cells [.int .i64 3,.int .i64 n,.int .i64 1,.int .i64 0,.string ⟨([]:AE).toArray⟩,.slice B 0 c].toArray 213)) (AY.EY n) w [.int .i64 3,.int .i64 n,.int .i64 1,.int .i64 0,.string ⟨([]:AE).toArray⟩,.slice B 0 c]) at A
 clear h;show AI 300 #[.agg #[.int .i64 3,n,.int .i64 1,(),.string ⟨([]:AE).toArray⟩,.slice B 0 c]] w (Ca true w);obtain⟨D,E,F,G,H,I,L⟩:=A.o.blk.y6;go_in;go_wp2_with fail;refine xm AF AF ?_;repeat (go_big_quiet_step ((go_at_call 346;exact EN (Q.o _))))
 refine Cj ?_;rintro V ⟨⟨W,K⟩,R⟩;subst R;refine Bn (λC=>Bd P w C (AY.EY n) w [.int .i64 3,.int .i64 n,.int .i64 1,.int .i64 0,.string ⟨([]:AE).toArray⟩,.slice B 0 c]) (A.o.below K) ?_;clear A D E F G H I L K;intro C J;have A:=O J;clear J;obtain⟨D,E,F,G,H,I,L⟩:=A.o.blk.y6;go_wp2_with fail;go_ret;exact⟨rfl,A.o.AJ⟩
def ABX(P:Nat->Prop)(e:AY)(S:∀k∈e.kids,∀(w:AA) (B:List AB),Ai P w k B->k.DG=true->AI 300 #[.agg B.toArray] w (Ca true w))
 (w:AA)(B:List AB)(h:Ai P w e B)(D:e.DG=true)(d:4<=e.op):
 AI 300 #[.agg B.toArray] w (Ca true w):=by
 have T:=O S;have Q:=O (e.WX D);have g:=e.Xm D;obtain⟨a,c,v,AR,AZ,L,_⟩:=h.inv;rw[e.Wz D d] at L;have N:=O (λw=>Xi e.op e.kids.length g w);have y:=e.Qo;subst L;have AC:=O (Bd.new h);have AG:Hid (e.kids.length=e.kids.length):=rfl;change Hid (Bd P w (w.alloc (.cells [.int .i64 e.op,.int .i64 0,.int .i64 0,.int .i64 0,.string ⟨([]:AE).toArray⟩,.slice a e.kids.length c].toArray 213)) e w [.int .i64 e.op,.int .i64 0,.int .i64 0,.int .i64 0,.string ⟨([]:AE).toArray⟩,.slice a e.kids.length c]) at AC
 show AI 300 #[.agg #[e.op,(),(),(),.string ⟨([]:AE).toArray⟩,.slice a e.kids.length c]] w (Ca true w);have Ac:(e.op==1)=false:=Aw.2 U;have Ad:(e.op==2)=false:=Aw.2 U;have Ae:(e.op==3)=false:=Aw.2 U;have l:Hid (∀i,i<e.kids.length->∃k,e.kids[i]? = some k):=λi J=>⟨_,BL J⟩;generalize e.op=M at *;generalize n:e.kids.length=A at *;have t:=O n;obtain⟨V,W,X,Y,Z,H,I⟩:=AC.o.blk.y6;go_in;go_wp2_with fail;refine EZ ?_;repeat (go_big_quiet_step ((go_at_call 346;exact EN (N.o _))))
 refine Cj ?_;rintro Aa ⟨⟨Ab,j⟩,s⟩;subst s;refine Bn (λG=>Bd P w G e w [.int .i64 M,.int .i64 0,.int .i64 0,.int .i64 0,.string ⟨([]:AE).toArray⟩,.slice a A c]) (AC.o.below j) ?_;intro G f;have AC:=O f;obtain⟨V,W,X,Y,Z,H,I⟩:=AC.o.blk.y6;go_wp2_with fail;go_loopw [6] (λE wr=>∃i:Nat,E=.int .i64 (i:Int)/\i<=A/\Bd P w wr e w [.int .i64 M,.int .i64 0,.int .i64 0,.int .i64 0,.string ⟨([]:AE).toArray⟩,.slice a A c]) (λE _=>A-(intOf E).toNat)
 case atStart=>exact⟨0,rfl,Az _,AC.o⟩
 case round=>
  obtain⟨i,rfl,J,C⟩:=hrel;have AC:=O C;have H:=C.blk.g5;have I:=C.blk.lt;by_cases m:i<A
  .obtain⟨k,K⟩:=l.o i m;obtain⟨u,o,AJ,AK,AL,AM,AN,AP,AQ,AO,rfl,-,AD,x,r,AS,AT,AU,AV,AW,AX⟩:=AC.o.tree.MW rfl i k K;have dl:=Ar i A;have R:=O r;have F:=O (Bu K);go_wp2_with fail;go_call T.o k F.o _ _ R.o (Q.o k F.o) as en w1 ⟨rfl,hb1⟩;replace AC:=O Bg;exact Lu
  .obtain rfl:i=A:=U;have dl:decide ((i:Int)<(i:Int))=false:=AH;exact Pg
def ABb(P:Nat->Prop):∀(e:AY) (w:AA) (A:List AB),Ai P w e A->e.DG=true->AI 300 #[.agg A.toArray] w (Ca true w):=by
 refine AY.MV ?_;intro e D w A C B;rcases e.XZ B with ⟨I,E,rfl⟩|⟨H,rfl⟩|⟨G,rfl⟩|F
 .exact ABZ P I E w A C B
 .exact ABY P H w A C B
 .simp only[AY.DG,At,CJ] at B;exact ABa P G w A C B
 .exact ABX P e D w A C B F
def aF(d:Int)(h:0<=d/\d<=73048)(w:AA):AI 109 #[d] w (Ca true w):=by
 have A:decide (0<=d)=true:=CA h.1;have B:decide (d<=73048)=true:=CA h.2;go_in;go_wp2;exact eF
def yF(m u:Int)(h:1<=m/\m<=4)(A:1<=u/\u<=100000)(w:AA):AI 218 #[.agg #[m,u]] w (Ca true w):=by
 have B:decide (1<=m)=true:=CA h.1;have C:decide (m<=4)=true:=CA h.2;have D:decide (1<=u)=true:=CA A.1;have E:decide (u<=100000)=true:=CA A.2;go_in;go_wp2;go_ret;exact⟨rfl,(AN _ _).alloc AK _⟩
def Sx(P:Nat->Prop)(e:AY)(w:AA)(A:List AB)(h:Ai P w e A)(C:e.BY=true):
 AI 221 #[.agg A.toArray] w (Ca true w):=by
 unfold AY.BY at C;simp only[At,CJ] at C;obtain⟨⟨G,H⟩,I⟩:=C;have D:=O (λw A B=>ABv P e w A B (Ap G AD));have F:=O (λw A B=>AAm P e w A B (Ap H AD));have E:=O (λw A B=>ABb P e w A B I);obtain⟨N,Q,R,S,T,V,W,U,rfl⟩:=h.BS;have AC:=O (Bd.new h);have J:=LC e.depth 10;have K:=LC e.size 60;generalize e.depth=L at *;generalize e.size=M at *;obtain⟨b0,b1,b2,b3,b4,b5,hbl⟩:=AC.o.blk.y6;go_in;go_wp2_with fail;go_call D.o _ _ AC.o.tree as en w1 ⟨rfl,hb1⟩;replace AC:=O Bg;obtain⟨b0,b1,b2,b3,b4,b5,hbl⟩:=AC.o.blk.y6;go_wp2_with fail;go_call F.o _ _ AC.o.tree as en w2 ⟨rfl,hb1⟩;replace AC:=O Bg;obtain⟨b0,b1,b2,b3,b4,b5,hbl⟩:=AC.o.blk.y6;go_wp2_with fail;go_call E.o _ _ AC.o.tree as en w3 ⟨rfl,hb1⟩;exact UQ
def GK:List AE:=GD.map (·.1)++F5.map (·.1)++IS.map (·.1)
def iu:∀t∈GK,t≠[]:=AD
def AGe{n:Int}(h:Ee 1 n=true):∃j t,j<15/\GK[j]? = some t/\(GD.lookup t).getD 0=n:=by
 have:n=6\/n=9\/n=7\/n=8\/n=10\/n=5:=by
  simp[Ee,NP,GD] at h;omega
 rcases this with rfl|rfl|rfl|rfl|rfl|rfl
 .exact⟨0,_,AD,rfl,rfl⟩
 .exact⟨1,_,AD,rfl,rfl⟩
 .exact⟨2,_,AD,rfl,rfl⟩
 .exact⟨3,_,AD,rfl,rfl⟩
 .exact⟨4,_,AD,rfl,rfl⟩
 .exact⟨5,_,AD,rfl,rfl⟩
def AKW{n:Int}(h:Ee 2 n=true):∃j t,j<15/\GK[j]? = some t/\(F5.lookup t).getD 0=n:=by
 have:n=1\/n=2\/n=3\/n=4\/n=5:=by
  simp[Ee,NP,F5] at h;omega
 rcases this with rfl|rfl|rfl|rfl|rfl
 .exact⟨6,_,AD,rfl,rfl⟩
 .exact⟨7,_,AD,rfl,rfl⟩
 .exact⟨8,_,AD,rfl,rfl⟩
 .exact⟨9,_,AD,rfl,rfl⟩
 .exact⟨10,_,AD,rfl,rfl⟩
def Xv(w:AA)(e:Ending)(B:AA):Prop:=∃A:AE,e=.returned (AR A)/\A≠[]/\Below w w B
def x7(n:Int)(w:AA)(j:Nat)(u:AE)(T:j<15)(M:GK[j]? = some u)(K:(GD.lookup u).getD 0=n)(L:0<n):
 AI 219 #[n,.int .i64 1] w (Xv w):=by
 have P:decide (0<n)=true:=CA L;have G:=O M;have E:=O K;have J:=(AN w w).alloc AK (.cells (GK.map AR).toArray 9);have D:Hid (AG (w.alloc (.cells (GK.map AR).toArray 9)) w 9 (GK.map AR).toArray/\Below w w (w.alloc (.cells (GK.map AR).toArray 9))):=⟨AG.new w _ _,J⟩;go_in;go_wp2_with fail;go_loopw [6] (λB wr=>∃i:Nat,B=.int .i64 (i:Int)/\i<=j/\AG wr w 9 (GK.map AR).toArray/\Below w w wr) (λB _=>15-(intOf B).toNat)
 case atStart=>exact⟨0,rfl,Az _,D.o.1,D.o.2⟩
 case round=>
  obtain⟨i,rfl,R,hblk,Aa⟩:=hrel;obtain⟨A,ht⟩:=BQ GK i (show i<GK.length by show i<15;omega);have Q:wr.cell? ⟨w,i,none⟩=some (.string ⟨A.toArray⟩):=by
   exact qX
  have V:=hblk.lt;have dl:=Ar i 15;have F:=O (iu A (Bu ht));have Bj:Hid (i=j->(GD.lookup A).getD 0=n):=by
   rintro rfl;rw[G.o] at ht;cases ht;exact E.o
  have C:=O (λw=>mY A w);generalize (GD.lookup A).getD 0=x at *;by_cases hx:x=n
  .have I:(x==n)=true:=C7.2 hx;go_wp2_with (go_at_call 214;refine(C.o _).mono ?_;rintro H N ⟨rfl,rfl⟩)
   go_ret;exact⟨A,rfl,F.o,Aa⟩
  .have S:i<j:=by
    exact qQ
   have I:(x==n)=false:=Aw.2 hx;go_wp2_with (go_at_call 214;refine(C.o _).mono ?_;rintro H N ⟨rfl,rfl⟩)
   exact qW
def x6(n:Int)(w:AA)(j:Nat)(u:AE)(T:j<15)(M:GK[j]? = some u)(K:(F5.lookup u).getD 0=n)(L:0<n):
 AI 219 #[n,.int .i64 2] w (Xv w):=by
 have P:decide (0<n)=true:=CA L;have G:=O M;have E:=O K;have J:=(AN w w).alloc AK (.cells (GK.map AR).toArray 9);have D:Hid (AG (w.alloc (.cells (GK.map AR).toArray 9)) w 9 (GK.map AR).toArray/\Below w w (w.alloc (.cells (GK.map AR).toArray 9))):=⟨AG.new w _ _,J⟩;go_in;go_wp2_with fail;go_loopw [6] (λB wr=>∃i:Nat,B=.int .i64 (i:Int)/\i<=j/\AG wr w 9 (GK.map AR).toArray/\Below w w wr) (λB _=>15-(intOf B).toNat)
 case atStart=>exact⟨0,rfl,Az _,D.o.1,D.o.2⟩
 case round=>
  obtain⟨i,rfl,R,hblk,Aa⟩:=hrel;obtain⟨A,ht⟩:=BQ GK i (show i<GK.length by show i<15;omega);have Q:wr.cell? ⟨w,i,none⟩=some (.string ⟨A.toArray⟩):=by
   exact qX
  have V:=hblk.lt;have dl:=Ar i 15;have F:=O (iu A (Bu ht));have Bj:Hid (i=j->(F5.lookup A).getD 0=n):=by
   rintro rfl;rw[G.o] at ht;cases ht;exact E.o
  have C:=O (λw=>pH A w);generalize (F5.lookup A).getD 0=x at *;by_cases hx:x=n
  .have I:(x==n)=true:=C7.2 hx;go_wp2_with (go_at_call 215;refine(C.o _).mono ?_;rintro H N ⟨rfl,rfl⟩)
   go_ret;exact⟨A,rfl,F.o,Aa⟩
  .have S:i<j:=by
    exact qQ
   have I:(x==n)=false:=Aw.2 hx;go_wp2_with (go_at_call 215;refine(C.o _).mono ?_;rintro H N ⟨rfl,rfl⟩)
   exact qW
def x8{n:Int}(A:Ee 1 n=true)(w:AA):AI 219 #[n,.int .i64 1] w (Xv w):=by
 obtain⟨E,F,B,C,D⟩:=AGe A;unfold Ee at A;simp only[At,CJ] at A;exact x7 n w E F B C D A.1
def ir{n:Int}(A:Ee 2 n=true)(w:AA):AI 219 #[n,.int .i64 2] w (Xv w):=by
 obtain⟨E,F,B,C,D⟩:=AKW A;unfold Ee at A;simp only[At,CJ] at A;exact x6 n w E F B C D A.1
section
variable{t m n:Nat}
structure ALQ(x:Ah):Prop where
 fr:0<=x.fr/\x.fr<=73048
 mode:1<=x.mode/\x.mode<=4
 unit:1<=x.unit/\x.unit<=100000
 l1:x.Ae.length<=6
 l2:x.Ad.length<=20
 l3:x.lets.length<=10
 FK:x.Ac.length<=5
 TY:x.red.length<=5
 Ae:∀c∈x.Ae,Ee 1 c.kind=true/\0<=c.limit/\c.limit<=73049
 Ad:∀c∈x.Ad,1900<=c.year/\c.year<=2099/\Ej c.f 2=true/\1<=c.f.n
 lets:∀c∈x.lets,FJ c.name=true/\c.body.BY=true
 Ac:∀c∈x.Ac,Ee 2 c.CN=true/\c.cond.BY=true/\c.pay.BY=true
 red:∀c∈x.red,Ee 2 c.CN=true/\c.H5.BY=true
def Sa{x:Ah}(C:IF x=true):ALQ x:=by
 unfold IF at C;simp only[At,CJ,DS] at C;obtain⟨⟨⟨⟨⟨⟨⟨⟨⟨⟨⟨⟨⟨⟨⟨F,K⟩,L⟩,M⟩,N⟩,O⟩,P⟩,Q⟩,R⟩,G⟩,H⟩,D⟩,B⟩,I⟩,E⟩,J⟩:=C;exact⟨⟨F,K⟩,⟨L,M⟩,⟨N,O⟩,P,Q,R,G,H,λc A=>⟨(D c A).1.1,(D c A).1.2,(D c A).2⟩,λc A=>⟨(B c A).1.1.1,(B c A).1.1.2,(B c A).1.2,(B c A).2⟩,
  I,λc A=>⟨(E c A).1.1,(E c A).1.2,(E c A).2⟩,J⟩
def AS.Ch{α:Type}{B:Nat}{w:AA}{C:α->List AB->Prop}{A:List α}{a:BH}{c:Nat}(E:AS B w t m C A (.slice a n c))(G:∀x u,C x u->u.length=m)(i:Nat)(x:α)(H:A[i]? = some x):
 ∃g,a=some ⟨g,0,none⟩/\n<=c:=by
 obtain⟨g,I,u,D,F,_⟩:=E.at G i x H;simp only[Km] at D;obtain⟨rfl,rfl,rfl⟩:=D;exact⟨g,rfl,F⟩
def AS.BT{α:Type}{B:Nat}{w:AA}{A:α->List AB->Prop}{C:List α}{g c:Nat}(E:AS B w t m A C (.slice g n c))(I:∀x u,A x u->u.length=m)(i:Nat)(x:α)(J:C[i]? = some x):
 ∃u,g<w.heap.size/\A x u/\∀j,j<m->w.cell? ⟨g,i*m+j,none⟩=u[j]?:=by
 obtain⟨L,K,u,D,M,F,_,G,H⟩:=E.at I i x J;simp only[Km,CW,Qu] at D;obtain⟨⟨rfl,_⟩,_⟩:=D;exact⟨u,F,G,H⟩
structure DA(B:Nat)(W X:AA)(x:Ah)(b:Nat)(s1 s2 s3 s4 As:AB):Prop where
 AJ:Below W W X
 blk:AG X b 151 #[x.fr,x.mode,x.unit,s1,s2,s3,s4,As]
 lists:B5 B X x s1 s2 s3 s4 As
def DA.below{B:Nat}{W C E:AA}{x:Ah}{b:Nat}{F G H I J:AB}(A:DA B W C x b F G H I J)(D:Below C C E):DA B W E x b F G H I J:=
 ⟨AW A.AJ D,A.blk.below D A.blk.lt,A.lists.below D⟩
def DA.new{B:Nat}{W:AA}{x:Ah}{A C D E F:AB}(h:B5 B W x A C D E F):DA B W (W.alloc (.cells #[x.fr,x.mode,x.unit,A,C,D,E,F] 151)) x W A C D E F:=
 have G:=(AN W W).alloc AK (.cells #[x.fr,x.mode,x.unit,A,C,D,E,F] 151);⟨G,AG.new W _ _,h.below G⟩
def AAH(B:Nat)(x:Ah)(w:AA)(AQ AS AT AU AV:AB)(h:B5 B w x AQ AS AT AU AV)(Aw:IF x=true):
 AI 159 #[.agg #[x.fr,x.mode,x.unit,AQ,AS,AT,AU,AV]] w (Ca true w):=by
 have At:=Sa Aw;obtain⟨⟨Ao,Ap⟩,⟨Aq,As⟩,⟨Au,Av⟩,BC,BD,BE,BF,BG,Ax,Ay,A0,A1,A2⟩:=At;obtain⟨Y,k,rfl,_⟩:=h.c1.slice;obtain⟨Z,q,rfl,_⟩:=h.c2.slice;obtain⟨d,r,rfl,_⟩:=h.c3.slice;obtain⟨e,s,rfl,_⟩:=h.c4.slice;obtain⟨f,u,rfl,_⟩:=h.c5.slice;have AC:=O (DA.new h);have Ag:=O Ax;have Ai:=O Ay;have Aj:=O A0;have Ak:=O A1;have Al:=O A2;have A3:=A4 6 x.Ae.length;have A6:=A4 20 x.Ad.length;have A9:=A4 10 x.lets.length;have A_:=A4 5 x.Ac.length;have A':=A4 5 x.red.length;obtain⟨b0,b1,b2,b3,b4,b5,Bw,Bv,hbl⟩:=AC.o.blk.BF;go_in;go_wp2_with fail;go_call aF _ ⟨Ao,Ap⟩ _ as en w1 ⟨rfl,hb1⟩;replace AC:=O Bg;obtain⟨b0,b1,b2,b3,b4,b5,Bw,Bv,hbl⟩:=AC.o.blk.BF;go_wp2_with fail;go_call yF _ _ ⟨Aq,As⟩ ⟨Au,Av⟩ _ as en w2 ⟨rfl,hb1⟩;replace AC:=O Bg;obtain⟨b0,b1,b2,b3,b4,b5,Bw,Bv,hbl⟩:=AC.o.blk.BF;go_wp2_with fail;go_loopw [3] (λF wr=>∃i:Nat,F=.int .i64 (i:Int)/\i<=x.Ae.length/\DA B w wr x w (.slice Y x.Ae.length k) (.slice Z x.Ad.length q) (.slice d x.lets.length r) (.slice e x.Ac.length s) (.slice f x.red.length u)) (λF _=>x.Ae.length-(intOf F).toNat)
 case atStart=>exact⟨0,rfl,Az _,AC.o⟩
 case' round=>
  obtain⟨i,rfl,hi,N⟩:=hrel;have AC:=O N;obtain⟨b0,b1,b2,b3,b4,b5,Bw,Bv,hbl⟩:=AC.o.blk.BF
 by_cases hlt:i<x.Ae.length
 .skip
  have dl:=Ar i x.Ae.length;obtain⟨c,D⟩:=BQ x.Ae i hlt;obtain⟨R,h2,AN⟩:=Ag.o c (Bu D);obtain⟨g,M,AO⟩:=AC.o.lists.c1.Ch (λ_ _ C=>FX.len C) i c D;subst M;have H:=O D;have Am:=A4 c.limit 0;have An:=A4 73049 c.limit;obtain⟨I,P,E,A⟩:=AC.o.lists.c1.BT (λ_ _ C=>FX.len C) i c H.o;obtain rfl:I=[.int .i64 c.kind,.int .i64 c.limit]:=E;obtain⟨J,K⟩:=QB A;go_wp2_with fail;go_call x8 R _ as en w3 ⟨t,rfl,htn,hb1⟩;replace AC:=O Bg;obtain⟨b0,b1,b2,b3,b4,b5,Bw,Bv,hbl⟩:=AC.o.blk.BF;obtain⟨I,P,E,A⟩:=AC.o.lists.c1.BT (λ_ _ C=>FX.len C) i c H.o;obtain rfl:I=[.int .i64 c.kind,.int .i64 c.limit]:=E;obtain⟨J,K⟩:=QB A;have Af:(t==[])=false:=gP;unfold AR;exact Lu
 .skip
  obtain rfl:i=x.Ae.length:=U;have dl:decide ((x.Ae.length:Int)<(x.Ae.length:Int))=false:=AH;go_wp2_with fail;go_loopw [4] (λF wr=>∃i:Nat,F=.int .i64 (i:Int)/\i<=x.Ad.length/\DA B w wr x w (.slice Y x.Ae.length k) (.slice Z x.Ad.length q) (.slice d x.lets.length r) (.slice e x.Ac.length s) (.slice f x.red.length u)) (λF _=>x.Ad.length-(intOf F).toNat)
  case atStart=>exact⟨0,rfl,Az _,AC.o⟩
  case' round=>
   obtain⟨i,rfl,hi,N⟩:=hrel;have AC:=O N;obtain⟨b0,b1,b2,b3,b4,b5,Bw,Bv,hbl⟩:=AC.o.blk.BF
  by_cases hlt:i<x.Ad.length
  .skip
   have dl:=Ar i x.Ad.length;obtain⟨c,D⟩:=BQ x.Ad i hlt;obtain⟨R,h2,AN,BB⟩:=Ai.o c (Bu D);obtain⟨g,M,AO⟩:=AC.o.lists.c2.Ch (λ_ _ C=>Fj.len C) i c D;subst M;have H:=O D;have Am:=A4 c.year 1900;have An:=A4 2099 c.year;have BA:=A4 c.f.n 1;obtain⟨I,P,E,A⟩:=AC.o.lists.c2.BT (λ_ _ C=>Fj.len C) i c H.o;obtain rfl:I=[.int .i64 c.year,.int .i64 c.f.n,.int .i64 c.f.d]:=E;obtain⟨J,K,L⟩:=Z3 A;go_wp2_with fail;go_call kE c.f 2 _ AN as en w3 ⟨t,rfl,hb1⟩;replace AC:=O Bg;obtain⟨b0,b1,b2,b3,b4,b5,Bw,Bv,hbl⟩:=AC.o.blk.BF;obtain⟨I,P,E,A⟩:=AC.o.lists.c2.BT (λ_ _ C=>Fj.len C) i c H.o;obtain rfl:I=[.int .i64 c.year,.int .i64 c.f.n,.int .i64 c.f.d]:=E;obtain⟨J,K,L⟩:=Z3 A;unfold AR;exact Lu
  .skip
   obtain rfl:i=x.Ad.length:=U;have dl:decide ((x.Ad.length:Int)<(x.Ad.length:Int))=false:=AH;go_wp2_with fail;go_loopw [7] (λF wr=>∃i:Nat,F=.int .i64 (i:Int)/\i<=x.lets.length/\DA B w wr x w (.slice Y x.Ae.length k) (.slice Z x.Ad.length q) (.slice d x.lets.length r) (.slice e x.Ac.length s) (.slice f x.red.length u)) (λF _=>x.lets.length-(intOf F).toNat)
   case atStart=>exact⟨0,rfl,Az _,AC.o⟩
   case' round=>
    obtain⟨i,rfl,hi,N⟩:=hrel;have AC:=O N;obtain⟨b0,b1,b2,b3,b4,b5,Bw,Bv,hbl⟩:=AC.o.blk.BF
   by_cases hlt:i<x.lets.length
   .skip
    have dl:=Ar i x.lets.length;obtain⟨c,D⟩:=BQ x.lets i hlt;obtain⟨R,h2⟩:=Aj.o c (Bu D);obtain⟨g,M,AO⟩:=AC.o.lists.c3.Ch (λ_ _ C=>D9.len C) i c D;subst M;have H:=O D;obtain⟨I,P,E,A⟩:=AC.o.lists.c3.BT (λ_ _ C=>D9.len C) i c H.o;obtain⟨AJ,rfl,G⟩:=E;obtain⟨x0,x1,x2,x3,Bk,AL,AM,AK,rfl⟩:=G.BS;have Q:=O G;obtain⟨J,K,L,T,V,W,X⟩:=KJ A;go_wp2_with fail;go_call Ts c.name _ R as en w3 ⟨rfl,rfl⟩;go_wp2_with fail;go_call Sx _ c.body _ _ Q.o h2 as en w4 ⟨rfl,hb1⟩;replace AC:=O Bg;exact UN
   .skip
    obtain rfl:i=x.lets.length:=U;have dl:decide ((x.lets.length:Int)<(x.lets.length:Int))=false:=AH;go_wp2_with fail;go_loopw [8] (λF wr=>∃i:Nat,F=.int .i64 (i:Int)/\i<=x.Ac.length/\DA B w wr x w (.slice Y x.Ae.length k) (.slice Z x.Ad.length q) (.slice d x.lets.length r) (.slice e x.Ac.length s) (.slice f x.red.length u)) (λF _=>x.Ac.length-(intOf F).toNat)
    case atStart=>exact⟨0,rfl,Az _,AC.o⟩
    case' round=>
     obtain⟨i,rfl,hi,N⟩:=hrel;have AC:=O N;obtain⟨b0,b1,b2,b3,b4,b5,Bw,Bv,hbl⟩:=AC.o.blk.BF
    by_cases hlt:i<x.Ac.length
    .skip
     have dl:=Ar i x.Ac.length;obtain⟨c,D⟩:=BQ x.Ac i hlt;obtain⟨R,h2,AN⟩:=Ak.o c (Bu D);obtain⟨g,M,AO⟩:=AC.o.lists.c4.Ch (λ_ _ C=>D4.len C) i c D;subst M;have H:=O D;obtain⟨I,P,E,A⟩:=AC.o.lists.c4.BT (λ_ _ C=>D4.len C) i c H.o;obtain⟨AJ,AW,rfl,G,S⟩:=E;obtain⟨x0,x1,x2,x3,Bk,AL,AM,AK,rfl⟩:=G.BS;obtain⟨AX,AY,AZ,Aa,Ab,Ad,Ae,Ac,rfl⟩:=S.BS;have Q:=O G;have AP:=O S;have J:=A 0 AD;have K:=A 1 AD;have L:=A 2 AD;have T:=A 3 AD;have V:=A 4 AD;have W:=A 5 AD;have X:=A 6 AD;have AE:=A 7 AD;have AF:=A 8 AD;have AG:=A 9 AD;have v:=A 10 AD;have y:=A 11 AD;have z:=A 12 AD;simp only[Ci,DC,Dg,A8,Bt] at J K L T V W X AE AF AG v y z;go_wp2_with fail;go_call ir R _ as en w3 ⟨t,rfl,htn,hb1⟩;replace AC:=O Bg;obtain⟨b0,b1,b2,b3,b4,b5,Bw,Bv,hbl⟩:=AC.o.blk.BF;obtain⟨I,P,E,A⟩:=AC.o.lists.c4.BT (λ_ _ C=>D4.len C) i c H.o;obtain⟨AJ,AW,rfl,G,S⟩:=E;obtain⟨x0,x1,x2,x3,Bk,AL,AM,AK,rfl⟩:=G.BS;obtain⟨AX,AY,AZ,Aa,Ab,Ad,Ae,Ac,rfl⟩:=S.BS;have Q:=O G;have AP:=O S;have J:=A 0 AD;have K:=A 1 AD;have L:=A 2 AD;have T:=A 3 AD;have V:=A 4 AD;have W:=A 5 AD;have X:=A 6 AD;have AE:=A 7 AD;have AF:=A 8 AD;have AG:=A 9 AD;have v:=A 10 AD;have y:=A 11 AD;have z:=A 12 AD;simp only[Ci,DC,Dg,A8,Bt] at J K L T V W X AE AF AG v y z;have Af:(t==[])=false:=gP;unfold AR;go_wp2_with fail;go_call Sx _ c.cond _ _ Q.o h2 as en w4 ⟨rfl,hb1⟩;replace AC:=O Bg;obtain⟨b0,b1,b2,b3,b4,b5,Bw,Bv,hbl⟩:=AC.o.blk.BF;obtain⟨I,P,E,A⟩:=AC.o.lists.c4.BT (λ_ _ C=>D4.len C) i c H.o;obtain⟨AJ,AW,rfl,G,S⟩:=E;obtain⟨x0,x1,x2,x3,Bk,AL,AM,AK,rfl⟩:=G.BS;obtain⟨AX,AY,AZ,Aa,Ab,Ad,Ae,Ac,rfl⟩:=S.BS;have Q:=O G;have AP:=O S;have J:=A 0 AD;have K:=A 1 AD;have L:=A 2 AD;have T:=A 3 AD;have V:=A 4 AD;have W:=A 5 AD;have X:=A 6 AD;have AE:=A 7 AD;have AF:=A 8 AD;have AG:=A 9 AD;have v:=A 10 AD;have y:=A 11 AD;have z:=A 12 AD;simp only[Ci,DC,Dg,A8,Bt] at J K L T V W X AE AF AG v y z;go_wp2_with fail;go_call Sx _ c.pay _ _ AP.o AN as en BH ⟨rfl,hb1⟩;replace AC:=O Bg;exact UN
    .skip
     obtain rfl:i=x.Ac.length:=U;have dl:decide ((x.Ac.length:Int)<(x.Ac.length:Int))=false:=AH;go_wp2_with fail;go_loopw [9] (λF wr=>∃i:Nat,F=.int .i64 (i:Int)/\i<=x.red.length/\DA B w wr x w (.slice Y x.Ae.length k) (.slice Z x.Ad.length q) (.slice d x.lets.length r) (.slice e x.Ac.length s) (.slice f x.red.length u)) (λF _=>x.red.length-(intOf F).toNat)
     case atStart=>exact⟨0,rfl,Az _,AC.o⟩
     case' round=>
      obtain⟨i,rfl,hi,N⟩:=hrel;have AC:=O N;obtain⟨b0,b1,b2,b3,b4,b5,Bw,Bv,hbl⟩:=AC.o.blk.BF
     by_cases hlt:i<x.red.length
     .skip
      have dl:=Ar i x.red.length;obtain⟨c,D⟩:=BQ x.red i hlt;obtain⟨R,h2⟩:=Al.o c (Bu D);obtain⟨g,M,AO⟩:=AC.o.lists.c5.Ch (λ_ _ C=>EO.len C) i c D;subst M;have H:=O D;obtain⟨I,P,E,A⟩:=AC.o.lists.c5.BT (λ_ _ C=>EO.len C) i c H.o;obtain⟨AJ,rfl,G⟩:=E;obtain⟨x0,x1,x2,x3,Bk,AL,AM,AK,rfl⟩:=G.BS;have Q:=O G;obtain⟨J,K,L,T,V,W,X⟩:=KJ A;go_wp2_with fail;go_call ir R _ as en w3 ⟨t,rfl,htn,hb1⟩;replace AC:=O Bg;obtain⟨b0,b1,b2,b3,b4,b5,Bw,Bv,hbl⟩:=AC.o.blk.BF;obtain⟨I,P,E,A⟩:=AC.o.lists.c5.BT (λ_ _ C=>EO.len C) i c H.o;obtain⟨AJ,rfl,G⟩:=E;obtain⟨x0,x1,x2,x3,Bk,AL,AM,AK,rfl⟩:=G.BS;have Q:=O G;obtain⟨J,K,L,T,V,W,X⟩:=KJ A;have Af:(t==[])=false:=gP;unfold AR;go_wp2_with fail;go_call Sx _ c.H5 _ _ Q.o h2 as en w4 ⟨rfl,hb1⟩;replace AC:=O Bg;exact UN
     .exact YS
end
structure ALo(x:CL):Prop where
 name:FJ x.name=true
 c1:1<=x.cur
 c2:x.cur<=999
 l1:1<=x.A0.length
 l2:x.A0.length<=6
 A0:∀v∈x.A0,IF v=true
def Sj{x:CL}(A:KO x=true):ALo x:=by
 unfold KO at A;simp only[At,CJ,DS] at A;obtain⟨⟨⟨⟨⟨B,C⟩,D⟩,E⟩,F⟩,G⟩:=A;exact⟨B,C,D,E,F,G⟩
structure JQ(B:Nat)(W X:AA)(x:CL)(b:Nat)(v:AB):Prop where
 AJ:Below W W X
 blk:AG X b 78 #[AR x.name,x.cur,v]
 A0:Dh B X x.A0 v
def JQ.below{B:Nat}{W C E:AA}{x:CL}{b:Nat}{v:AB}(A:JQ B W C x b v)(D:Below C C E):JQ B W E x b v:=
 ⟨AW A.AJ D,A.blk.below D A.blk.lt,A.A0.below D⟩
def JQ.new{B:Nat}{W:AA}{x:CL}{v:AB}(h:Dh B W x.A0 v):JQ B W (W.alloc (.cells #[AR x.name,x.cur,v] 78)) x W v:=
 have A:=(AN W W).alloc AK (.cells #[AR x.name,x.cur,v] 78);⟨A,AG.new W _ _,h.below A⟩
def j0(B:Nat)(x:CL)(w:AA)(v:AB)(h:Dh B w x.A0 v)(P:KO x=true):
 AI 92 #[.agg #[AR x.name,x.cur,v]] w (Ca true w):=by
 obtain⟨M,k,n,s,t,Q⟩:=Sj P;obtain⟨a,c,rfl,f⟩:=h.slice;have AC:=O (JQ.new (x:=x) h);have H:=O Q;have G:=O (λw=>Ts x.name w M);have R:=A4 x.cur 1;have S:=A4 999 x.cur;have T:=A4 x.A0.length 1;have V:=A4 6 x.A0.length;unfold AR at AC ⊢;obtain⟨b0,b1,b2,hbl⟩:=AC.o.blk.y3;go_in;go_wp2_with (go_at_call 153;refine(G.o _).mono ?_;rintro W AN ⟨rfl,rfl⟩)
 go_loopw [3] (λA wr=>∃i:Nat,A=.int .i64 (i:Int)/\i<=x.A0.length/\JQ B w wr x w (.slice a x.A0.length c)) (λA _=>x.A0.length-(intOf A).toNat)
 case atStart=>exact⟨0,rfl,Az _,AC.o⟩
 case round=>
  obtain⟨i,rfl,hi,K⟩:=hrel;have AC:=O K;unfold AR at AC;obtain⟨b0,b1,b2,hbl⟩:=AC.o.blk.y3;by_cases hlt:i<x.A0.length
  .have dl:=Ar i x.A0.length;obtain⟨A,D⟩:=BQ x.A0 i hlt;obtain⟨g,J,r⟩:=AS.Ch AC.o.A0 (λ_ _ E=>E.len) i A D;subst J;obtain⟨AM,q,N,L⟩:=AS.BT AC.o.A0 (λ_ _ E=>E.len) i A D;obtain⟨u,y,z,AD,AE,rfl,C⟩:=N;have F:=O C;have I:=O (H.o A (Bu D));obtain⟨AF,X,rfl,_⟩:=C.c1.slice;obtain⟨AG,Y,rfl,_⟩:=C.c2.slice;obtain⟨AJ,Z,rfl,_⟩:=C.c3.slice;obtain⟨AK,d,rfl,_⟩:=C.c4.slice;obtain⟨AL,e,rfl,_⟩:=C.c5.slice;obtain⟨q0,q1,q2,q3,q4,q5,q6,kj⟩:=VN L;go_wp2_with fail;refine(AAH B A _ _ _ _ _ _ F.o I.o).mono ?_;exact sw
  .exact rt
section
variable{q:Nat}{cs:Array AB}
def ANn(B:List (Int × AE))(en:Int)(w:AA)(e:Ending)(A:AA):Prop:=
 ∃(AV:Nat) (v:AB) (T:A9),e=.returned (.tuple #[.pointer AV,(),()])/\BM w A AV T v en 0/\E6 T=B/\Below w w A
def AKX(s:ByteArray)(f:Nat)(A:List (Int × AE))(w:AA)(G:s.size<=8000)(h:MI f s.data.toList=some A)(F:∀x∈A,Jg x)(H:A.length<=8000):
 AI 85 #[.string s] w (ANn A (s.size:Int) w):=by
 have E:=O (λw=>AK4 s f A w G h);go_in;go_wp2_with fail;go_call E.o _ as e w1 ⟨v,T,rfl,hown,hr,hb1⟩;obtain⟨C,c,rfl⟩:=CG hown;have BI:=O hown;have B:=O hr;go_wp2_with fail;have D:=(AN w1 w1).alloc AK (.cells #[.slice C T.length c,(),s.size,false] 194);refine BE (v:=.tuple #[.pointer w1,(),()]) (by simp[results,results85,go_sem]) rfl ⟨w1,.slice C T.length c,T,rfl,?_,B.o,AW hb1 D⟩;have I:T.length=A.length:=by rw[<-B.o];simp[E6]
 exact⟨AG.new w1 _ _,IQ BI.o D Y4,Az _,U,by rw[B.o];exact F,hb1.size⟩
structure HJ(w W1 X:AA)(AV:Nat)(T:A9)(v:AB)(en:Int)(k b:Nat)(nm:AE)(cur:Int)(vs:List Ah)(s:AB):Prop where
 rs:BM W1 X AV T v en k
 blk:AG X b 78 #[AR nm,cur,s]
 A0:Dh w X vs s
 res:AG X w 78 #[.string ⟨#[]⟩,(),AL]
 lo:w.heap.size<b
 AJ:Below w w X
 sz:w.heap.size<W1.heap.size
section
variable {w W1 X Y:AA} {AV:Nat} {T:A9} {v:AB} {en:Int} {k k' b:Nat} {nm:AE} {cur:Int} {vs:List Ah} {s:AB}
def HJ.to(h:HJ w W1 X AV T v en k b nm cur vs s)(A:To W1 X Y AV T v en k'):HJ w W1 Y AV T v en k' b nm cur vs s:=
 ⟨A.rs,Gp h.blk h.rs A AD,h.A0.to h.rs A,Gp h.res h.rs A AD,h.lo,h.AJ.trans (A.kept.below h.AJ.size (λq B=>by
  simp only[Aj,A',A_] at B;subst B;have:=h.rs.lo;have:=h.sz;omega)),h.sz⟩
def HJ.below(A:HJ w W1 X AV T v en k b nm cur vs s)(B:Below X X Y):HJ w W1 Y AV T v en k b nm cur vs s:=
 A.to ⟨A.rs.below B,AP.of_below B⟩
def Dh.sset{B:Nat}{l:List Ah}{s:AB}(h:Dh B X l s)(E:AG X q 78 cs)(i:Nat)(u:AB):Dh B (X.setCell ⟨q,i,none⟩ u) l s:=
 h.kept ((AP.refl [q] X).setCell AH _) (λG H cs D F C=>by
  simp only[Aj,A',A_] at C;subst C;have:=D.same E;subst this;rcases F with A|A|A|A|A|A|A<;>exact absurd A AD)
def BM.sset{B':Nat}(E:BM B' X AV T v en k)(D:AG X q 78 cs)(i:Nat)(u:AB):BM B' (X.setCell ⟨q,i,none⟩ u) AV T v en k:=
 E.kept ((AP.refl [q] X).setCell AH _) (λG H cs C F B=>by
  simp only[Aj,A',A_] at B;subst B;have:=C.same D;subst this;rcases F with A|A<;>exact absurd A AD)
def HJ.setCur(h:HJ w W1 X AV T v en k b nm cur vs s)(n:Int):HJ w W1 (X.setCell ⟨b,1,none⟩ n) AV T v en k b nm n vs s:=
 ⟨h.rs.sset h.blk 1 _,h.blk.put 1 _,h.A0.sset h.blk 1 _,h.res.far Zq _,h.lo,h.AJ.setCell Zp _,h.sz⟩
def HJ.app{B:AA}{D:AB}{y:Ah}{u:List AB}(h:HJ w W1 X AV T v en k b nm cur vs s){us:List (List AB)}(N:Rows (H6 w X) vs us)(P:H6 w X y u)
 (I:X.ownsRow w 151 8 s vs.length us.flatten)(J:B.ownsRow w 151 8 D (vs.length+1) (us.flatten++u))(hg:X.grownBy B s.ownBlock):
 HJ w W1 (B.setCell ⟨b,2,none⟩ D) AV T v en k b nm cur (vs++[y]) D:=by
 obtain⟨F,hk,hS⟩:=Gd I hg;have C:∀g A cs,AG X g A cs->A≠151->g∉F:=λg A cs hg h1 hm=>by
  exact Pa
 have G:∀g A cs,AG X g A cs->Ox A->g∉F:=λg A cs hg M=>C g A cs hg (by rcases M with e|e|e|e|e|e<;>rw[e]<;>decide);have E:AG B b 78 #[AR nm,cur,s]:=h.blk.kept hk (C _ _ _ h.blk AD);have K:=h.res.kept hk (C _ _ _ h.res AD);have L:=h.rs.kept hk (λg A cs hg hty=>C g A cs hg LB);have O:Dh w B (vs++[y]) D:=AS.snoc (N.mono (λ_ _ q=>q.kept hk G)) (P.kept hk G) J;have H:Below w w B:=h.AJ.trans Mx;exact⟨L.sset E 2 _,E.put 2 _,O.sset E 2 _,K.far Zq _,h.lo,H.setCell Zp _,h.sz⟩
end
def ev:(prog.info? 151).map (λi=>(i.zero,i.size,i.bytes))=some (some (.agg #[(),(),(),AL,AL,AL,AL,AL]),8,144):=AF
def jn:(prog.info? 78).map (·.size)=some 3:=AF
def ui(x:CL)(w:AA)(e:Ending)(A:AA):Prop:=
 ∃v,e=.returned (.tuple #[.agg #[AR x.name,x.cur,v],(),()])/\Dh w A x.A0 v/\Below w w A
def AL6(w W1:AA)(AV:Nat)(T:A9)(v:AB)(en:Int)(b:Nat)(nm:AE)(cur:Int)(B:List Ah × Rd)(A:Nat)(u:AB)(X:AA):Prop:=
 ∃(k:Nat) (vs:List Ah) (s:AB),HJ w W1 X AV T v en k b nm cur vs s/\vs.length<=k/\
  ((u=.bool true/\vs=[]/\A=9001/\Hid ((CY (AT T k)).2.bad=false)/\Hid (B=FF 9000 [(CY (AT T k)).1] (CY (AT T k)).2))\/
   (u=.bool false/\T.length<A+k/\Hid (B=FF A vs (AT T k))))
def AEP(s:ByteArray)(x:CL)(w:AA)(h:TF s.data.toList=some x):
 AI 43 #[.string s] w (ui x w):=by
 obtain⟨CA,K,BL,BH,B9,BM,BS⟩:s.size<=8000/\∃K,MI (s.data.toList.length+1) s.data.toList=some K/\(∀y∈K,Jg y)/\K.length<=8000/\NM (K.map Gf)=some x/\KO x=true:=by
  unfold TF at h;split at h
  .cases h
  .rename_i Ae;have An:s.data.toList.length=s.size:=AH;split at h
   .cases h
   .rename_i Cn B_;split at h
    .cases h
    .rename_i Cr AJ;split at h
     .rename_i V;cases h;obtain⟨K,CF,CI,CJ,Cl⟩:=AGB _ _ _ B_;exact⟨U,K,CF,CJ,U,by rw[<-CI];exact AJ,V⟩
     .cases h
 have A4:=O (λw=>AKX s _ K w CA BL BH B9);have AY:=O BM;have BZ:=O BS;have BF:=(AN w w).alloc AK (.cells #[.string ⟨#[]⟩,(),AL] 78);have BN:=AG.new w 78 #[.string ⟨#[]⟩,(),AL];have BU:(w.alloc (.cells #[.string ⟨#[]⟩,(),AL] 78)).heap.size=w.heap.size+1:=AH;clear h BL BH BM BS;generalize BD:w.alloc (.cells #[.string ⟨#[]⟩,(),AL] 78)=W1 at *;have Bb:=O BD;have CV:=O BU;have An:w.heap.size<W1.heap.size:=U;clear BD BU;go_in;go_wp2_with fail;rw[Bb.o];refine(A4.o _).mono ?_;rintro F CW ⟨AV,v,T,rfl,AE,BO,Ag⟩;rw[<-BO] at AY;obtain⟨CE,BI,Ap,m,n,o,r,t,u,AB,i⟩:=ABr AY.o;have BJ:CE=AT T 0:=by rw[BI];simp[AT]
 rw[BJ] at Ap m n o r t u AB i;simp only[Cw] at m n o r t u AB i;simp only[DP] at m n o r t u AB i;clear BI BJ AY A4 BO;have Bd:=O Ap;have Be:=O m;have Bf:=O n;have Bg:=O o;have Bi:=O r;have Bj:=O t;have Bk:=O u;have Bl:=O AB;have Bc:=O i;clear Ap m n o r t u AB i;obtain⟨Bs,c,rfl,Cf⟩:=AE.slice;have Cc:=AE.few;generalize Value.slice Bs T.length c=v at *;have E:=O AE;have AO:=O (BF.trans (Ag.mono U));have M:=O (BN.below Ag An);clear AE Ag BF BN;generalize (s.size:Int)=en at *;go_wp2_with fail;refine(EH _ _ AV T v en 0 [115,116,97,116,117,116,101] E.o rfl Bd.o).mono ?_;rintro F Bm ⟨rfl,A⟩;replace M:=O (Gp M.o E.o A AD);have Ai:Below w w Bm:=AO.o.trans (A.kept.below AO.o.size (λq j=>by
  simp only[Aj,A',A_] at j;subst j;have:=E.o.lo;omega))
 replace E:=O A.rs;clear A AO;go_wp2_with fail;refine(bo _ _ AV T v en 1 E.o Be.o).mono ?_;generalize Ch:(AT T 1).name.1=nm at *;rintro F N ⟨rfl,A⟩;replace M:=O (Gp M.o E.o A AD);have Ak:Below w w N:=Ai.trans (A.kept.below Ai.size (λq j=>by
  simp only[Aj,A',A_] at j;subst j;have:=E.o.lo;omega))
 replace E:=O A.rs;clear A Ai;have BV:=M.o.lt;have BA:Hid (HJ w W1 (N.alloc (.cells #[AR nm,(),AL] 78)) AV T v en 2 N nm 0 [] AL):=by
  have Af:=(AN N N).alloc AK (.cells #[AR nm,(),AL] 78);exact⟨E.o.below Af,AG.new N _ _,AS.mt,M.o.below Af BV,BV,Ak.trans (Af.mono Ak.size),An⟩
 clear E M Ak;unfold AR;go_wp2_with fail;generalize V:N.heap.size=b at *;refine(EH _ _ AV T v en 2 [99,117,114,114,101,110,99,121] BA.o.rs rfl Bf.o).mono ?_;rintro F CX ⟨rfl,A⟩;replace BA:=O (BA.o.to A);clear A;go_wp2_with fail;refine(SY _ _ AV T v en 3 1 999 BA.o.rs Bg.o).mono ?_;generalize B3:((AT T 3).whole 1 999).1=D at *;rintro F d ⟨rfl,A⟩;replace BA:=O (BA.o.to A);clear A;have Z:=BA.o.blk.g1;have BW:=BA.o.blk.frozen 1;have G:=BA.o.blk.lt;go_wp2_with fail;replace BA:=O (BA.o.setCur D);clear Z BW G;generalize d.setCell ⟨b,1,none⟩ D=Bo at *;refine(EH _ _ AV T v en 4 [123] BA.o.rs rfl Bi.o).mono ?_;rintro F Bp ⟨rfl,A⟩;replace BA:=O (BA.o.to A);clear A;go_wp2_with fail;generalize BC:FF 9000 [(CY (AT T 5)).1] (CY (AT T 5)).2=A5 at *;have BY:=O BC.symm;clear BC V;go_loopg [9] 9001 (λAM CR wr=>AL6 w W1 AV T v en b nm D A5 AM CR wr)
 case atStart=>
  exact⟨5,_,_,BA.o,Az _,.inl ⟨rfl,rfl,rfl,Bj,BY⟩⟩
 case round=>
  clear BA;obtain⟨k,vs,Cm,C,Ck,hrel⟩:=hrel;have BA:=O C;have A7:=C.rs.bad;have AC:=C.rs.blk.lt;have Cd:=C.rs.le;clear C;rcases hrel with ⟨rfl,BR,rfl,BQ,g⟩|⟨rfl,Ce,g⟩
  .have Ba:=O BR;clear BR;go_wp2_with fail;have BX:Hid (A5=FF 9000 (vs++[(CY (AT T k)).1]) (CY (AT T k)).2):=by
    show _=_;rw[g.o,Ba.o];rfl
   clear g;have Ao:=BA.o.A0.slice;obtain⟨I,J,rfl,_⟩:=Ao;refine uW ?_;refine Bn (λX=>HJ w W1 X AV T v en k b nm D vs (.slice I vs.length J)) (w0:=wr.drew) (BA.o.below (AN _ _).drew) ?_;clear BA;intro Bq C;have BA:=O C;have L:=C.blk.g2;have G:=C.blk.lt;have Am:b∉[AV]:=λhm=>by
    exact sQ
   clear C;iterate 3 refine H' ?_
   refine FU ?_;intro Aa e;go_simp;go_at_call 90;refine(jy _ _ AV T v en k BA.o.rs BQ.o).mono ?_;rintro F Br ⟨l,CM,CN,CO,CP,CQ,rfl,B,H,Q⟩;refine e _ _ H.kept ?_;obtain⟨Aq,Ar,rfl,_⟩:=B.c1.slice;obtain⟨As,At,rfl,_⟩:=B.c2.slice;obtain⟨Au,Av,rfl,_⟩:=B.c3.slice;obtain⟨Aw,Ax,rfl,_⟩:=B.c4.slice;obtain⟨Ay,A0,rfl,_⟩:=B.c5.slice;have A2:=O (B.lower BA.o.AJ.size);replace BA:=O (BA.o.to H);have AX:=O Q;have B7:=H.rs.le;have Al:=jC BQ.o;rw[<-Q,On,On] at Al;clear B H Q e Aa L G Am;refine FU ?_;intro Ac f;go_simp;refine f _ _ N_ ?_;refine KT ?_;clear f Ac;obtain⟨A1,GF,hown⟩:=BA.o.A0;have B':=BA.o.lo;have B2:=BA.o.AJ.size;have B8:=BA.o.blk.lt;have B1:=BA.o.rs.blk.lt;generalize CC:CY (AT T k)=Ad at *;obtain⟨Ft,CK⟩:=Ad;go_wp2_with (at_builtin;go_loud (refine ET AZ _ _ 76 151 AZ underlying76 (.agg #[(),(),(),AL,AL,AL,AL,AL]) 8 144 U U ev rfl w _ vs.length A1.flatten _ [.int .i64 Ft.fr,.int .i64 Ft.mode,.int .i64 Ft.unit,.slice Aq Ft.Ae.length Ar,.slice As Ft.Ad.length At,.slice Au Ft.lets.length Av,.slice Aw Ft.Ac.length Ax,.slice Ay Ft.red.length A0] rfl C2 rfl HP _ AZ AH U U ?_);intro CS CU DR By hg2;obtain⟨Bu,Bx,rfl⟩:=CG DR;have R:=BA.o.blk.grown hg2 (BA.o.blk.apart hown AD);have CT:=R.frozen 2;have B0:=R.lt;have A3:=R.cell 2;simp only[CH,A8,Bt] at A3;have AW:=O vP)
   go_roundg 9000
   case measure=>omega
   case rel=>exact⟨l,vs++[Ft],_,AW.o,by rw[Cp];exact(show vs.length+1<=l by omega),.inr ⟨rfl,U,by show _=_;rw[AX.o];exact BX.o⟩⟩
  .rcases gk with _|AM
   .omega
   have P:=g.o;rw[FF,AU (show ¬(AT T k).bad=true by simp[AT])] at P;clear g;cases W:(AT T k).Am [125] with
   | true=>
    rw[W,Ab rfl,Cw] at P;have a:=O P;have AQ:=O W;clear P W;go_wp2_with fail;refine(Hu _ _ AV T v en k [125] BA.o.rs rfl AQ.o).mono ?_;rintro F d ⟨rfl,BP⟩;replace BA:=O (BA.o.to BP);clear BP A7 AC;have Cg:=BA.o.rs.le;have B6:Hid (¬k+1<T.length):=by
     have Ae:=Bl.o;rw[a.o] at Ae;have BB:=On T (k+1);rw[Ae] at BB;simp only[EE] at BB;show ¬_;omega
    have B4:decide ((k:Int)+1<(T.length:Int))=false:=DI (by have:=B6.o;omega);obtain⟨I,J,rfl,_⟩:=BA.o.A0.slice;obtain⟨Co,Cq,rfl,_⟩:=BA.o.rs.slice;obtain⟨Bv,A6,AC⟩:=BA.o.rs.blk.y2;have Bw:=BA.o.rs.blk.g3;obtain⟨S,Z,L,G⟩:=BA.o.blk.y3;rw[Int.natCast_add] at A6;unfold AR at S;have AJ:Hid (x=⟨nm,D,vs⟩):=by
     have h1:=Bc.o;rw[a.o] at h1;show _=_;rw[h1,<-B3]
    go_wp2_with fail;go_quiet (fail)
    replace BA:=O (BA.o.below (Do DL nq));clear Bv A6 Bw AC S Z L G B4;generalize d.drewN nq=Bo at *;have CB:Hid (KO ⟨nm,D,vs⟩=true):=by
     have:=BZ.o;rw[AJ.o] at this;exact D2
    obtain⟨S,Z,L,G⟩:=BA.o.blk.y3;unfold AR at S;go_wp2_with fail;refine(j0 w ⟨nm,D,vs⟩ _ (.slice I vs.length J) BA.o.A0 CB.o).mono ?_;rintro F Bp ⟨rfl,BG⟩;replace BA:=O (BA.o.below BG);clear BG S Z L G;obtain⟨S,Z,L,G⟩:=BA.o.blk.y3;obtain⟨Cs,BW,Ct,Ci⟩:=BA.o.res.y3;obtain⟨CZ,Ca,Cb,-⟩:=BA.o.res.fz;unfold AR at S;go_wp2_with fail;have B5:=((BA.o.res.put 0 (AR nm)).put 1 D).put 2 (.slice I vs.length J);have CD:=((BA.o.A0.sset BA.o.res 0 (AR nm)).sset (BA.o.res.put 0 (AR nm)) 1 D).sset ((BA.o.res.put 0 (AR nm)).put 1 D) 2 (.slice I vs.length J);have Bz:=((BA.o.AJ.setCell (p:=⟨w,0,none⟩) AK (AR nm)).setCell (p:=⟨w,1,none⟩) AK D).setCell (p:=⟨w,2,none⟩) AK (.slice I vs.length J);rw[AJ.o];exact BE (v:=.tuple #[.agg #[AR nm,D,.slice I vs.length J],(),()]) (MH results43 _ _ w 78 _ (0,0) _ _ _ rfl rfl rfl B5 underlying78 rfl jn) rfl ⟨_,rfl,CD,Bz⟩
   | false=>
    rw[W,AU AD] at P;have a:=O P;have AQ:=O W;clear P W;go_wp2_with fail;refine(GU _ _ AV T v en k [125] BA.o.rs rfl AQ.o).mono ?_;rintro F d ⟨rfl,V⟩;replace BA:=O (BA.o.below V);clear V A7 AC;have BT:Hid ((CY (AT T k)).2.bad=false):=by
     have:=Bk.o;rw[a.o] at this;exact i' this
    go_wp2_with fail;have Ao:=BA.o.A0.slice;obtain⟨I,J,rfl,_⟩:=Ao;refine uW ?_;refine Bn (λX=>HJ w W1 X AV T v en k b nm D vs (.slice I vs.length J)) (w0:=d.drew) (BA.o.below (AN _ _).drew) ?_;clear BA;intro Bq C;have BA:=O C;have L:=C.blk.g2;have G:=C.blk.lt;have Am:b∉[AV]:=λhm=>by
     exact sQ
    clear C;iterate 3 refine H' ?_
    refine FU ?_;intro Aa e;go_simp;go_at_call 90;refine(jy _ _ AV T v en k BA.o.rs BT.o).mono ?_;rintro F Br ⟨l,CM,CN,CO,CP,CQ,rfl,B,H,Q⟩;refine e _ _ H.kept ?_;obtain⟨Aq,Ar,rfl,_⟩:=B.c1.slice;obtain⟨As,At,rfl,_⟩:=B.c2.slice;obtain⟨Au,Av,rfl,_⟩:=B.c3.slice;obtain⟨Aw,Ax,rfl,_⟩:=B.c4.slice;obtain⟨Ay,A0,rfl,_⟩:=B.c5.slice;have A2:=O (B.lower BA.o.AJ.size);replace BA:=O (BA.o.to H);have AX:=O Q;have B7:=H.rs.le;have Al:=jC BT.o;rw[<-Q,On,On] at Al;clear B H Q e Aa L G Am;refine FU ?_;intro Ac f;go_simp;refine f _ _ N_ ?_;refine KT ?_;clear f Ac;obtain⟨A1,GF,hown⟩:=BA.o.A0;have B':=BA.o.lo;have B2:=BA.o.AJ.size;have B8:=BA.o.blk.lt;have B1:=BA.o.rs.blk.lt;generalize CC:CY (AT T k)=Ad at *;obtain⟨Ft,CK⟩:=Ad;go_wp2_with (at_builtin;go_loud (refine ET AZ _ _ 76 151 AZ underlying76 (.agg #[(),(),(),AL,AL,AL,AL,AL]) 8 144 U U ev rfl w _ vs.length A1.flatten _ [.int .i64 Ft.fr,.int .i64 Ft.mode,.int .i64 Ft.unit,.slice Aq Ft.Ae.length Ar,.slice As Ft.Ad.length At,.slice Au Ft.lets.length Av,.slice Aw Ft.Ac.length Ax,.slice Ay Ft.red.length A0] rfl C2 rfl HP _ AZ AH U U ?_);intro CS CU DR By hg2;obtain⟨Bu,Bx,rfl⟩:=CG DR;have R:=BA.o.blk.grown hg2 (BA.o.blk.apart hown AD);have CT:=R.frozen 2;have B0:=R.lt;have A3:=R.cell 2;simp only[CH,A8,Bt] at A3;have AW:=O vP)
    go_roundg AM
    case measure=>omega
    case rel=>exact⟨l,vs++[Ft],_,AW.o,by rw[Cp];exact(show vs.length+1<=l by omega),.inr ⟨rfl,U,by show _=_;rw[AX.o];exact a.o⟩⟩
end
section
variable{u:List AB}{p:Int × CL}{Z:AA}{v':AB}
structure Em where
 fr:Int
 min:Int
 post:Int
 sub:Int
 mem:Ay
deriving DecidableEq
structure Rat where
 cur:Int
 Fd:Int
 num:Int
 den:Int
deriving DecidableEq
structure B6 where
 Ao:List (Int × CL)
 Bc:List Em
 rat:List Rat
def Cz(B:Nat)(w:AA)(p:Int × CL)(u:List AB):Prop:=∃A,u=.int .i64 p.1::A/\J3 B w p.2 A
def D3(B:Nat)(w:AA)(r:Em)(u:List AB):Prop:=∃FE,u=[.int .i64 r.fr,.int .i64 r.min,.int .i64 r.post,.int .i64 r.sub,FE]/\w.ownsRow B 3 1 FE r.mem.length (r.mem.map (Value.int .i64))
def FR(r:Rat)(u:List AB):Prop:=u=[.int .i64 r.cur,.int .i64 r.Fd,.int .i64 r.num,.int .i64 r.den]
structure CP(B:Nat)(w:AA)(X:B6)(v1 v2 v3:AB):Prop where
 c1:AS B w 126 4 (Cz B w) X.Ao v1
 c2:AS B w 128 5 (D3 B w) X.Bc v2
 c3:AS B w 121 4 FR X.rat v3
abbrev WT(t:Nat):Prop:=t=126\/t=128\/t=121\/t=3\/JX t
section
variable {B B':Nat} {w w':AA} {S:List Nat}
def Cz.len(A:Cz B w p u):u.length=4:=by obtain⟨C,rfl,A⟩:=A;simp[A.len]
def D3.len{r:Em}(A:D3 B w r u):u.length=5:=by obtain⟨FE,rfl,_⟩:=A;rfl
def FR.len{r:Rat}(h:FR r u):u.length=4:=M5
def Cz.kept(A:Cz B w p u)(D:AP S w w')(C:∀g t cs,AG w g t cs->JX t->g∉S):Cz B w' p u:=by
 obtain⟨E,rfl,A⟩:=A;exact⟨E,rfl,A.kept D C⟩
def D3.kept{r:Em}(A:D3 B w r u)(D:AP S w w')(C:∀g cs,AG w g 3 cs->g∉S):D3 B w' r u:=by
 obtain⟨FE,rfl,A⟩:=A;exact⟨FE,rfl,Bl A D C⟩
def CP.kept{X:B6}{v1 E v3:AB}(h:CP B w X v1 E v3)(D:AP S w w')(C:∀g t cs,AG w g t cs->WT t->g∉S):CP B w' X v1 E v3:=
 ⟨h.c1.kept D (λg cs A=>C g _ cs A (.inl rfl)) (λ_ _ q=>q.kept D (λg t cs A F=>C g t cs A (.inr (.inr (.inr (.inr F)))))),
  h.c2.kept D (λg cs A=>C g _ cs A (.inr (.inl rfl))) (λ_ _ q=>q.kept D (λg cs A=>C g _ cs A (.inr (.inr (.inr (.inl rfl)))))),
  h.c3.kept D (λg cs A=>C g _ cs A (.inr (.inr (.inl rfl)))) BW⟩
def CP.below{X:B6}{v1 A v3:AB}(h:CP B w X v1 A v3)(hb:Below w w w'):CP B w' X v1 A v3:=
 h.kept (S:=[]) CX My
def CP.lower{X:B6}{v1 C v3:AB}(h:CP B w X v1 C v3)(A:B'<=B):CP B' w X v1 C v3:=by
 refine⟨h.c1.lower A (λp u q=>?_),h.c2.lower A (λE u q=>?_),h.c3.lower A BW⟩
 .obtain⟨D,rfl,q⟩:=q;exact⟨D,rfl,q.lower A⟩
 .obtain⟨FE,rfl,q⟩:=q;exact⟨FE,rfl,F_ q A⟩
def Qb{g e n size:Nat}{cs:List AB}(h:AG w g e cs.toArray)(A:B<=g)(hn:cs.length=n*size)(C:n<=1000000):w.ownsRow B e size (.slice g n n) n cs:=by
 refine⟨hn,.inr ⟨g,n,cs.toArray,rfl,A,h,Bh _,?_,gY,?_⟩⟩
 .simp only[maxLen];omega
 .rw[<-hn];simp
end
def KN(n:Ay):List (Int × CL):=[(0,NC n 0),(1,NC n 1),(2,NC n 2)]
def H0(n:Ay):Int:=90*(Fz n 2%6)
def VZ(n:Ay):List Em:=
 if Fz n 5%3=0 then [⟨0,H0 n,730,25,[0,1,2]⟩]
 else if Fz n 5%3=1 then [⟨0,H0 n,730,25,[0,1]⟩,⟨35000,H0 n,365,30,[0,1,2]⟩]
 else [⟨0,H0 n,730,25,[0,1,2]⟩,⟨36000,H0 n,730,25,[0,1]⟩]
def Jc:List Rat:=[⟨1,0,1,1⟩,⟨2,0,3,2⟩,⟨3,0,1,7⟩,⟨3,1150,1,9⟩]
def Bp(n:Ay):B6:=⟨KN n,VZ n,Jc⟩
def tE:(prog.info? 126).map (λi=>(i.zero,i.size,i.bytes))=some (some (.agg #[(),.string .empty,(),AL]),4,56):=AF
def ez:(prog.info? 128).map (λi=>(i.zero,i.size,i.bytes))=some (some (.agg #[(),(),(),(),AL]),5,56):=AF
def jo:(prog.info? 33).map (·.size)=some 3:=AF
def AMY(n:Ay)(w:AA)(e:Ending)(w':AA):Prop:=∃v1 A v3,e=.returned (.agg #[v1,A,v3])/\CP w w' (Bp n) v1 A v3/\Below w w w'
structure Im(w X:AA)(b:Nat)(l:List (Int × CL))(v1 v3:AB):Prop where
 blk:AG X b 33 #[v1,AL,v3]
 c1:AS w X 126 4 (Cz w X) l v1
 c3:AS w X 121 4 FR Jc v3
 res:AG X w 33 #[AL,AL,AL]
 lo:w.heap.size<b
 AJ:Below w w X
structure HN(w X:AA)(b g:Nat)(few:Int)(l:List (Int × CL))(v1 v3 FE:AB)(mem:Ay):Prop where
 blk:AG X b 33 #[v1,.slice g 1 1,v3]
 c1:AS w X 126 4 (Cz w X) l v1
 c3:AS w X 121 4 FR Jc v3
 JZ:AG X g 128 #[(),few,.int .i64 730,.int .i64 25,FE]
 mem:X.ownsRow w 3 1 FE mem.length (mem.map (Value.int .i64))
 res:AG X w 33 #[AL,AL,AL]
 lo:w.heap.size<b
 hg:w.heap.size<=g
 AJ:Below w w X
section
variable {w X Y:AA} {b g:Nat} {few:Int} {l:List (Int × CL)} {v1 v3 FE:AB} {mem:Ay}
def Im.below(h:Im w X b l v1 v3)(A:Below X X Y):Im w Y b l v1 v3:=
 have C:=AP.of_below (S:=[]) A;⟨h.blk.below A h.blk.lt,h.c1.kept C J9 (λ_ _ q=>q.kept C Ur),h.c3.kept C J9 BW,h.res.below A h.res.lt,h.lo,AW h.AJ A⟩
def HN.below(h:HN w X b g few l v1 v3 FE mem)(A:Below X X Y):HN w Y b g few l v1 v3 FE mem:=
 have C:=AP.of_below (S:=[]) A;⟨h.blk.below A h.blk.lt,h.c1.kept C J9 (λ_ _ q=>q.kept C Ur),h.c3.kept C J9 BW,h.JZ.below A h.JZ.lt,
  Bl h.mem C J9,h.res.below A h.res.lt,h.lo,h.hg,AW h.AJ A⟩
def Im.app(h:Im w X b l v1 v3){us:List (List AB)}(N:Rows (Cz w X) l us)(O:Cz w X p u)
 (K:X.ownsRow w 126 4 v1 l.length us.flatten)(L:Z.ownsRow w 126 4 v' (l.length+1) (us.flatten++u))(hg:X.grownBy Z v1.ownBlock):
 Im w (Z.setCell ⟨b,0,none⟩ v') b (l++[p]) v' v3:=by
 obtain⟨S,hk,hS⟩:=Gd K hg;have D:∀g C A,AG X g C A->C≠126->g∉S:=λg C A hg h1 hm=>by
  exact Pa
 have G:∀g C A,AG X g C A->JX C->g∉S:=λg C A hg ht=>D g C A hg Zy;have H:=h.blk.kept hk (D _ _ _ h.blk AD);have M:=h.res.kept hk (D _ _ _ h.res AD);have F:AP [b] Z (Z.setCell ⟨b,0,none⟩ v'):=(AP.refl _ _).setCell AH _;have E:∀g C A,AG Z g C A->C≠33->g∉[b]:=λg C A hg h1 hm=>by
  simp only[Aj,A',A_] at hm;subst hm;exact h1 (hg.same H)
 have I:∀g C A,AG Z g C A->JX C->g∉[b]:=λg C A hg ht=>E g C A hg Zy;have J:AS w Z 126 4 (Cz w Z) (l++[p]) v':=AS.snoc (N.mono (λ_ _ q=>q.kept hk G)) (O.kept hk G) L;exact⟨H.put 0 _,J.kept F (λg A hg=>E g _ A hg AD) (λ_ _ q=>q.kept F I),(h.c3.kept hk (λg A hg=>D g _ A hg AD) BW).kept F (λg A hg=>E g _ A hg AD) BW,
  M.far Zq _,h.lo,(h.AJ.trans Mx).setCell Zp _⟩
def Im.away{q H:Nat}{cs:Array AB}(h:Im w X b l v1 v3)(J:AG X q H cs)(I:¬WT H)(i:Nat)(u:AB):
 AS w (X.setCell ⟨q,i,none⟩ u) 126 4 (Cz w (X.setCell ⟨q,i,none⟩ u)) l v1/\AS w (X.setCell ⟨q,i,none⟩ u) 121 4 FR Jc v3:=by
 have E:AP [q] X (X.setCell ⟨q,i,none⟩ u):=(AP.refl _ _).setCell AH _;have D:∀g C cs,AG X g C cs->WT C->g∉[q]:=λg C cs A F G=>by
  simp only[Aj,A',A_] at G;subst G;rw[A.same J] at F;exact I F
 exact⟨h.c1.kept E (λg cs A=>D g _ cs A (.inl rfl)) (λ_ _ q=>q.kept E (λg C cs A K=>D g C cs A (.inr (.inr (.inr (.inr K)))))),h.c3.kept E (λg cs A=>D g _ cs A (.inr (.inr (.inl rfl)))) BW⟩
def cA:¬WT 33:=AD
def Im.rules(h:Im w X b l v1 v3)(few:Int):
 HN w (((X.setCell ⟨b,1,none⟩ (.slice (some ⟨X.heap.size+1,0,none⟩) 1 1)).alloc (.cells #[(),.int .i64 1] 3)).alloc (.cells #[(),few,.int .i64 730,.int .i64 25,.slice X 2 2] 128)) b (X.heap.size+1) few l v1 v3 (.slice X 2 2) [0,1]:=by
 have W:=h.AJ.size;have a:=h.blk.lt;have T:=h.lo;obtain⟨I,J⟩:=h.away h.blk cA 1 (.slice (some ⟨X.heap.size+1,0,none⟩) 1 1);have K:=h.blk.put 1 (.slice (some ⟨X.heap.size+1,0,none⟩) 1 1);have O:=h.res.far (p:=⟨b,1,none⟩) (by show w.heap.size≠b;omega) (.slice (some ⟨X.heap.size+1,0,none⟩) 1 1);have F:=h.AJ.setCell (p:=⟨b,1,none⟩) (by show w.heap.size<=b;omega) (.slice (some ⟨X.heap.size+1,0,none⟩) 1 1);have Q:(X.setCell ⟨b,1,none⟩ (.slice (some ⟨X.heap.size+1,0,none⟩) 1 1)).heap.size=X.heap.size:=AH;generalize X.setCell ⟨b,1,none⟩ (.slice (some ⟨X.heap.size+1,0,none⟩) 1 1)=A at *;have E:Below A A (A.alloc (.cells #[(),.int .i64 1] 3)):=(AN _ _).alloc AK _;have M:=AG.new A 3 #[(),.int .i64 1];have V:(A.alloc (.cells #[(),.int .i64 1] 3)).heap.size=X.heap.size+1:=by simp[Q]
 rw[Q] at M;have L:=K.below E K.lt;have P:=O.below E O.lt;have G:=AP.of_below (S:=[]) E;replace I:=I.kept G J9 (λ_ _ q=>q.kept G Ur);replace J:=J.kept G J9 BW;replace F:=F.trans (E.mono (show w.heap.size<=A.heap.size by omega));generalize A.alloc (.cells #[(),.int .i64 1] 3)=C at *;have D:Below C C (C.alloc (.cells #[(),few,.int .i64 730,.int .i64 25,.slice X 2 2] 128)):=(AN _ _).alloc AK _;have N:=AG.new C 128 #[(),few,.int .i64 730,.int .i64 25,.slice X 2 2];rw[V] at N;have H:=AP.of_below (S:=[]) D;have R:AG C X 3 [Value.int .i64 0,.int .i64 1].toArray:=M;exact⟨L.below D L.lt,I.kept H J9 (λ_ _ q=>q.kept H Ur),J.kept H J9 BW,N,
  Qb (n:=2) (size:=1) (R.below D U) W rfl AD,P.below D P.lt,T,by omega,F.trans (D.mono U)⟩
def HN.ju(h:HN w X b g few l v1 v3 FE mem):
 HN w ((X.setCell ⟨g,4,none⟩ (.slice X 3 3)).alloc (.cells #[(),.int .i64 1,.int .i64 2] 3)) b g few l v1 v3 (.slice X 3 3) [0,1,2]:=by
 have V:=h.AJ.size;have c:=h.JZ.lt;have R:=h.hg;have H:AP [g] X (X.setCell ⟨g,4,none⟩ (.slice X 3 3)):=(AP.refl _ _).setCell AH _;have F:∀q C A,AG X q C A->C≠128->q∉[g]:=λq C A D O M=>by
  simp only[Aj,A',A_] at M;subst M;exact O (D.same h.JZ)
 have P:∀q C A,AG X q C A->JX C->q∉[g]:=λq C A D ht=>F q C A D Zy;have W:=h.c1.kept H (λq A D=>F q _ A D AD) (λ_ _ q=>q.kept H P);have a:=h.c3.kept H (λq A D=>F q _ A D AD) BW;have J:=h.blk.kept H (F _ _ _ h.blk AD);have N:=h.res.kept H (F _ _ _ h.res AD);have K:=h.JZ.put 4 (.slice X 3 3);have Q:=h.AJ.setCell (p:=⟨g,4,none⟩) (by show w.heap.size<=g;omega) (.slice X 3 3);have T:(X.setCell ⟨g,4,none⟩ (.slice X 3 3)).heap.size=X.heap.size:=AH;generalize X.setCell ⟨g,4,none⟩ (.slice X 3 3)=E at *;have G:Below E E (E.alloc (.cells #[(),.int .i64 1,.int .i64 2] 3)):=(AN _ _).alloc AK _;have L:AG (E.alloc (.cells #[(),.int .i64 1,.int .i64 2] 3)) E 3 [Value.int .i64 0,.int .i64 1,.int .i64 2].toArray:=AG.new E 3 #[(),.int .i64 1,.int .i64 2];rw[T] at L;have I:=AP.of_below (S:=[]) G;exact⟨J.below G J.lt,W.kept I J9 (λ_ _ q=>q.kept I Ur),a.kept I J9 BW,K.below G K.lt,
  Qb (n:=3) (size:=1) L V rfl AD,N.below G N.lt,h.lo,R,Q.trans (G.mono U)⟩
structure M1(w X:AA)(b:Nat)(L:B6)(v1 v2 v3:AB):Prop where
 blk:AG X b 33 #[v1,v2,v3]
 laws:CP w X L v1 v2 v3
 res:AG X w 33 #[AL,AL,AL]
 lo:w.heap.size<b
 AJ:Below w w X
def HN.row(h:HN w X b g few l v1 v3 FE mem):X.ownsRow w 128 5 (.slice g 1 1) 1 [.int .i64 0,.int .i64 few,.int .i64 730,.int .i64 25,FE]:=by
 have A:AG X g 128 [Value.int .i64 0,.int .i64 few,.int .i64 730,.int .i64 25,FE].toArray:=h.JZ;exact Qb (n:=1) (size:=5) A h.hg rfl AD
def HN.fin(A:HN w X b g few l v1 v3 FE mem):M1 w X b ⟨l,[⟨0,few,730,25,mem⟩],Jc⟩ v1 (.slice g 1 1) v3:=
 ⟨A.blk,⟨A.c1,⟨[_],.cons ⟨FE,rfl,A.mem⟩ .nil,A.row⟩,A.c3⟩,A.res,A.lo,A.AJ⟩
def HN.app{r:Em}{E:AB}(h:HN w X b g few l v1 v3 FE mem)(K:X.ownsRow w 3 1 E r.mem.length (r.mem.map (Value.int .i64)))
 (L:Z.ownsRow w 128 5 v' (1+1) ([.int .i64 0,.int .i64 few,.int .i64 730,.int .i64 25,FE]++[.int .i64 r.fr,.int .i64 r.min,.int .i64 r.post,.int .i64 r.sub,E]))(hg:X.grownBy Z (Value.slice g 1 1).ownBlock):
 M1 w (Z.setCell ⟨b,1,none⟩ v') b ⟨l,[⟨0,few,730,25,mem⟩,r],Jc⟩ v1 v' v3:=by
 obtain⟨S,hk,hS⟩:=Gd h.row hg;have D:∀g C A,AG X g C A->C≠128->g∉S:=λg C A hg h1 hm=>by
  exact Pa
 have H:∀g C A,AG X g C A->JX C->g∉S:=λg C A hg ht=>D g C A hg Zy;have G:=h.blk.kept hk (D _ _ _ h.blk AD);have M:=h.res.kept hk (D _ _ _ h.res AD);have F:∀g A,AG X g 3 A->g∉S:=λg A hg=>D g _ A hg AD;have P:=h.c1.kept hk (λg A hg=>D g _ A hg AD) (λ_ _ q=>q.kept hk H);have Q:=h.c3.kept hk (λg A hg=>D g _ A hg AD) BW;have N:=Bl h.mem hk F;have O:=Bl K hk F;have J:CP w Z ⟨l,[⟨0,few,730,25,mem⟩,r],Jc⟩ v1 v' v3:=⟨P,⟨[_,_],.cons ⟨FE,rfl,N⟩ (.cons ⟨E,rfl,O⟩ .nil),L⟩,Q⟩;have I:AP [b] Z (Z.setCell ⟨b,1,none⟩ v'):=(AP.refl _ _).setCell AH _;refine⟨G.put 1 _,J.kept I (λg C A hg ht hm=>?_),M.far Zq _,h.lo,(h.AJ.trans Mx).setCell Zp _⟩;simp only[Aj,A',A_] at hm;subst hm;rw[hg.same G] at ht;exact cA ht
def M1.below{D:B6}{E:AB}(A:M1 w X b D v1 E v3)(C:Below X X Y):M1 w Y b D v1 E v3:=
 ⟨A.blk.below C A.blk.lt,A.laws.below C,A.res.below C A.res.lt,A.lo,AW A.AJ C⟩
def M1.ret{C:B6}{A:AB}(h:M1 w X b C v1 A v3):
 CP w (((X.setCell ⟨w,0,none⟩ v1).setCell ⟨w,1,none⟩ A).setCell ⟨w,2,none⟩ v3) C v1 A v3/\Below w w (((X.setCell ⟨w,0,none⟩ v1).setCell ⟨w,1,none⟩ A).setCell ⟨w,2,none⟩ v3)
  /\AG (((X.setCell ⟨w,0,none⟩ v1).setCell ⟨w,1,none⟩ A).setCell ⟨w,2,none⟩ v3) w 33 #[v1,A,v3]:=by
 have G:AP [w.heap.size] X (((X.setCell ⟨w,0,none⟩ v1).setCell ⟨w,1,none⟩ A).setCell ⟨w,2,none⟩ v3):=(((AP.refl [w.heap.size] X).setCell AH _).setCell AH _).setCell AH _;refine⟨h.laws.kept G (λg I H F E D=>?_),((h.AJ.setCell (p:=⟨w,0,none⟩) AK v1).setCell (p:=⟨w,1,none⟩) AK A).setCell (p:=⟨w,2,none⟩) AK v3,((h.res.put 0 v1).put 1 A).put 2 v3⟩;simp only[Aj,A',A_] at D;subst D;rw[F.same h.res] at E;exact cA E
end
end
def AKF{P:Program}{f:FuncId}{args:Array AB}{w0:AA}{Q:Ending->AA->Prop}(A:AA->Prop)(C:A w0)(B:∀W,A W->Calls P f args W Q):Calls P f args w0 Q:=B w0 C
def zO(n:Ay)(i:Nat)(A:i<3):(KN n).take (i+1)=(KN n).take i++[((i:Int),NC n i)]:=by
 rcases i with _|_|_|i
 .rfl
 .rfl
 .rfl
 .omega
def mQ(n:Ay)(Af:AB)(w:AA)(AO:Fo w Af n)(Z:n.length<=1000000000000000000):
 AI 14 #[Af] w (AMY n w):=by
 have l:Hid (∀A:Nat,A<3->∀Q:AA,AI 43 #[AR (textOf n A)] Q (ui (NC n A) Q)):=by
  intro A AF Q;refine AEP _ _ Q ?_;have:=y_ n A;exact E_
 have Ag:=O AO;obtain⟨A_,A',At,A9,_⟩:=AO;subst At;have x:=(AN w w).alloc AK (.cells #[AL,AL,AL] 33);have AT:=AG.new w 33 #[AL,AL,AL];have AW:(w.alloc (.cells #[AL,AL,AL] 33)).heap.size=w.heap.size+1:=AH;generalize t:w.alloc (.cells #[AL,AL,AL] 33)=B at *;have Am:=O t;have Y:=(AN B B).alloc AK (.cells [Value.int .i64 1,.int .i64 0,.int .i64 1,.int .i64 1,.int .i64 2,.int .i64 0,.int .i64 3,.int .i64 2,.int .i64 3,.int .i64 0,.int .i64 1,.int .i64 7,.int .i64 3,.int .i64 1150,.int .i64 1,.int .i64 9].toArray 121);have AQ:=Qb (B:=w.heap.size) (n:=4) (size:=4) (AG.new B 121 [Value.int .i64 1,.int .i64 0,.int .i64 1,.int .i64 1,.int .i64 2,.int .i64 0,.int .i64 3,.int .i64 2,.int .i64 3,.int .i64 0,.int .i64 1,.int .i64 7,.int .i64 3,.int .i64 1150,.int .i64 1,.int .i64 9].toArray) U rfl AD;have Au:(B.alloc (.cells [Value.int .i64 1,.int .i64 0,.int .i64 1,.int .i64 1,.int .i64 2,.int .i64 0,.int .i64 3,.int .i64 2,.int .i64 3,.int .i64 0,.int .i64 1,.int .i64 7,.int .i64 3,.int .i64 1150,.int .i64 1,.int .i64 9].toArray 121)).heap.size=B.heap.size+1:=AH;have AM:AS w (B.alloc (.cells [Value.int .i64 1,.int .i64 0,.int .i64 1,.int .i64 1,.int .i64 2,.int .i64 0,.int .i64 3,.int .i64 2,.int .i64 3,.int .i64 0,.int .i64 1,.int .i64 7,.int .i64 3,.int .i64 1150,.int .i64 1,.int .i64 9].toArray 121)) 121 4 FR Jc (.slice B 4 4):=
  ⟨[_,_,_,_],.cons rfl (.cons rfl (.cons rfl (.cons rfl .nil))),AQ⟩
 generalize u:B.alloc (.cells [Value.int .i64 1,.int .i64 0,.int .i64 1,.int .i64 1,.int .i64 2,.int .i64 0,.int .i64 3,.int .i64 2,.int .i64 3,.int .i64 0,.int .i64 1,.int .i64 7,.int .i64 3,.int .i64 1150,.int .i64 1,.int .i64 9].toArray 121)=I at *;have An:=O u;have R:=(AN I I).alloc AK (.cells #[AL,AL,.slice B 4 4] 33);have HG:Hid (Im w (I.alloc (.cells #[AL,AL,.slice B 4 4] 33)) I [] AL (.slice B 4 4)):=
  ⟨AG.new I _ _,AS.mt,AM.kept (S:=[]) (AP.of_below R) J9 BW,(AT.below Y U).below R U,U,(x.trans (Y.mono U)).trans (R.mono U)⟩
 have W:I.heap.size=w.heap.size+1+1:=U;have d:B.heap.size=w.heap.size+1:=AW;rw[W,d] at HG;have Ai:Hid (B.heap.size=w.heap.size+1):=d;clear x AT AW Y AQ Au AM R W d Ai Am An;subst u;subst t;go_in;go_wp2_with fail;refine Bn (λX=>Im w X (w.heap.size+1+1) [] AL (.slice (some ⟨w.heap.size+1,0,none⟩) 4 4)) HG.o ?_;clear HG;intro Ax AC;have HG:=O AC;clear AC;generalize V:Value.slice (some ⟨w.heap.size+1,0,none⟩) 4 4=Ae at *;have A3:w.heap.size<w.heap.size+1+1:=U;generalize w.heap.size+1+1=b at *;have Ak:=O (show ∃a N c,Ae=.slice a N c from ⟨_,_,_,V.symm⟩);clear V;go_loopw [4] (λk wr=>∃(A:Nat) (D:List (Int × CL)) (Ad:AB),k=.int .i64 (A:Int)/\A<=3/\Im w wr b D Ad Ae/\Hid (D=(KN n).take A)) (λk _=>3-(intOf k).toNat)
 case atStart=>exact⟨0,[],_,rfl,Az _,HG.o,rfl⟩
 case round=>
  clear HG;obtain⟨A,D,Ad,rfl,AF,z,J⟩:=hrel;have HG:=O z;clear z;by_cases T:A<3
  .have dl:=Ar A 3;have Py:=O fj;go_wp2_with fail;refine(y9 n _ A _ Py.o Z T).mono ?_;rintro K E ⟨rfl,y⟩;replace HG:=O (HG.o.below y);clear y Py;go_wp2_with fail;refine(l.o A T _).mono ?_;rintro K C ⟨BD,rfl,AV,hb2⟩;have Aq:=HG.o.AJ.size;have P:=O (AV.lower Aq);replace HG:=O (HG.o.below hb2);clear AV hb2;obtain⟨AY,Aa,rfl,_⟩:=P.o.slice;have Aj:=O (zO n A T);have ZL:=O (show D.length=A by rw[J.o];simp[KN];omega);generalize NC n A=H at *;obtain⟨g,i,rfl,_⟩:=HG.o.c1.slice;have F:Below C C (C.alloc (.cells #[AR H.name,H.cur,.slice AY H.A0.length Aa] 78)):=(AN _ _).alloc AK _;replace P:=O (P.o.below F);replace HG:=O (HG.o.below F);have S:=HG.o.blk;obtain⟨Av,As,hown⟩:=HG.o.c1;have y0:=S.cell 0;have A0:=S.frozen 0;have hbl:=S.lt;simp only[CH,A8] at y0;have AJ:=HG.o.lo;have A1:=HG.o.AJ.size;clear S F;unfold AR;go_wp2_with (at_builtin;go_loud (refine ET AZ _ _ 29 126 AZ underlying29 (.agg #[(),.string .empty,(),AL]) 4 56 U U tE rfl w _ D.length Av.flatten _ [.int .i64 (A:Int),AR H.name,.int .i64 H.cur,.slice AY H.A0.length Aa] rfl C2 rfl HP _ AZ AH VD U ?_);intro Ac Ah DR hb2 hg2;obtain⟨o,s,rfl⟩:=CG DR;have HZ:=HG.o.blk.grown hg2 (HG.o.blk.apart hown AD);have BA:=HZ.frozen 0;have Jo:=HZ.lt;have Aw:=HZ.cell 0;simp only[CH,A8] at Aw;have U0:=O (Im.app HG.o As (p:=((A:Int),H)) ⟨_,rfl,_,rfl,P.o⟩ hown DR hg2))
   go_roundw
   case rel=>exact⟨A+1,_,_,A7,U,U0.o,by show _=_;rw[Aj.o,J.o]⟩
   case measure=>exact A5
  .obtain rfl:A=3:=U;have dl:decide ((((3:Nat):Int))<3)=false:=AD;replace J:=O (show D=KN n from J.o);clear T AF l;have Py:=O fj;obtain⟨m,AX,r,V⟩:=Ak.o;subst V;obtain⟨g,i,rfl,_⟩:=HG.o.c1.slice;go_wp2_with fail;refine(WC n _ 2 _ Py.o Z AD).mono ?_;rintro K j ⟨rfl,rfl⟩;go_wp2_with fail;refine(WN _ 6 _ AD AD).mono ?_;rintro K j ⟨rfl,rfl⟩;have Ap:=dI (Fz n 2) 6 AD;have U3:=O (show H0 n=90*(Fz n 2%6) from rfl);generalize Fz n 2%6=G at *;obtain⟨A4,A6⟩:=Ap;obtain⟨y0,y1,y2,hbl⟩:=HG.o.blk.y3;have f1:=HG.o.blk.frozen 1;go_wp2_with fail;refine AKF (λX=>HN w X b (wr.heap.size+1) (90*G) D (.slice g D.length i) (.slice m AX r) (.slice wr 2 2) [0,1]) (HG.o.rules (90*G)) ?_;clear HG y0 y1 y2 f1 hbl Py;intro E AE;have HG:=O AE;clear AE;generalize wr.heap.size+1=Ao at *;have Al:=O (show ∃a N c,Value.slice wr 2 2=.slice a N c from ⟨_,_,_,rfl⟩);generalize Value.slice wr 2 2=BB at *;have Py:=O fj;refine(WC n _ 5 _ Py.o Z AD).mono ?_;rintro K j ⟨rfl,rfl⟩;go_wp2_with fail;refine(WN _ 3 _ AD AD).mono ?_;rintro K j ⟨rfl,rfl⟩;have A2:=dI (Fz n 5) 3 AD;have By:=O (show Bp n=⟨KN n,(if Fz n 5%3=0 then [⟨0,H0 n,730,25,[0,1,2]⟩] else if Fz n 5%3=1 then [⟨0,H0 n,730,25,[0,1]⟩,⟨35000,H0 n,365,30,[0,1,2]⟩]
    else [⟨0,H0 n,730,25,[0,1,2]⟩,⟨36000,H0 n,730,25,[0,1]⟩]),Jc⟩ from rfl)
   rw[U3.o,<-J.o] at By;generalize Fz n 5%3=f at *;have y1:=HG.o.blk.g1;have y4:=HG.o.JZ.g4;have f1:=HG.o.blk.frozen 1;have hbl:=HG.o.blk.lt;have f4:=HG.o.JZ.frozen 4;have hgl:=HG.o.JZ.lt;rcases (show f=0\/f=1\/f=2 by omega) with rfl|rfl|rfl
   .replace By:=O (By.o.trans (by rw[Ab rfl]));go_upto_region 17 with (fail);refine Bn (λX=>M1 w X b _ _ _ _) HG.o.ju.fin ?_;clear HG y1 f1 hbl y4 f4 hgl Py Ag U3;intro C hz;exact tj
   .replace By:=O (By.o.trans (by rw[AU AD,Ab rfl]));have F:Below E E (E.alloc (.cells #[(),.int .i64 1,.int .i64 2] 3)):=(AN _ _).alloc AK _;have HG2:=O (HG.o.below F);have M:=HG2.o.row;have e:=HG.o.AJ.size;have L:=Qb (B:=w.heap.size) (n:=3) (size:=1) (cs:=[Value.int .i64 0,.int .i64 1,.int .i64 2]) (AG.new E 3 #[(),.int .i64 1,.int .i64 2]) e rfl AD;have W:=HG2.o.AJ.size;have AJ:=HG.o.lo;have SB:=O M;have ZN:=O L;clear F M L;go_upto_region 17 with (at_builtin;go_loud (refine ET AZ _ _ 30 128 AZ underlying30 (.agg #[(),(),(),(),AL]) 5 56 U U ez rfl w _ 1 _ _ [.int .i64 35000,.int .i64 (90*G),.int .i64 365,.int .i64 30,.slice E 3 3] rfl C2 rfl (by exact SB.o) _ AZ AH U U ?_);intro Ac Ah DR hb2 hg2;obtain⟨o,s,rfl⟩:=CG DR;have HZ:=HG2.o.blk.grown hg2 (HG2.o.blk.apart SB.o AD);have i_:=HZ.frozen 1;have Jo:=HZ.lt;have VV:=HZ.cell 1;simp only[CH,A8,Bt] at VV;have U0:=O (HN.app HG2.o (r:=⟨35000,90*G,365,30,[0,1,2]⟩) ZN.o DR hg2))
    exact sK
   .replace By:=O (By.o.trans (by rw[AU AD,AU AD]));go_upto_region 12 with (fail);refine Bn (λX=>HN w X b Ao (90*G) D (.slice g D.length i) (.slice m AX r) (.slice E 3 3) [0,1,2]) HG.o.ju ?_;clear HG y1 f1 hbl y4 f4 hgl Py Ag U3;intro C hg2;have HG:=O hg2;clear hg2;replace Al:=O (show ∃a N c,Value.slice E 3 3=.slice a N c from ⟨_,_,_,rfl⟩);generalize Value.slice E 3 3=BC at *;have y1:=HG.o.blk.g1;have y4:=HG.o.JZ.g4;have f1:=HG.o.blk.frozen 1;have hbl:=HG.o.blk.lt;have f4:=HG.o.JZ.frozen 4;have hgl:=HG.o.JZ.lt;have Ag:=O True.intro;have Py:=O True.intro;have U3:=O True.intro;have F:Below C C (C.alloc (.cells #[(),.int .i64 1] 3)):=(AN _ _).alloc AK _;have HG2:=O (HG.o.below F);have M:=HG2.o.row;have e:=HG.o.AJ.size;have L:=Qb (B:=w.heap.size) (n:=2) (size:=1) (cs:=[Value.int .i64 0,.int .i64 1]) (AG.new C 3 #[(),.int .i64 1]) e rfl AD;have W:=HG2.o.AJ.size;have AJ:=HG.o.lo;have SB:=O M;have ZN:=O L;clear F M L;go_upto_region 17 with (at_builtin;go_loud (refine ET AZ _ _ 30 128 AZ underlying30 (.agg #[(),(),(),(),AL]) 5 56 U U ez rfl w _ 1 _ _ [.int .i64 36000,.int .i64 (90*G),.int .i64 730,.int .i64 25,.slice C 2 2] rfl C2 rfl (by exact SB.o) _ AZ AH U U ?_);intro Ac Ah DR hb2 hg2;obtain⟨o,s,rfl⟩:=CG DR;have HZ:=HG2.o.blk.grown hg2 (HG2.o.blk.apart SB.o AD);have i_:=HZ.frozen 1;have Jo:=HZ.lt;have VV:=HZ.cell 1;simp only[CH,A8,Bt] at VV;have U0:=O (HN.app HG2.o (r:=⟨36000,90*G,730,25,[0,1]⟩) ZN.o DR hg2))
    exact sK
def L3(l:AE)(w:AA)(e:Ending)(A:AA):Prop:=e=.returned (.tuple #[.int .i64 ((GE.lookup l).getD 0),.bool (GE.lookup l).isSome])/\w=A
def AG5{l:AE}{w:AA}(h:GE.lookup l=none):L3 l w (.returned (.tuple #[(),false])) w:=by
 unfold L3;rw[h];exact N1
def av(l:AE)(w:AA):AI 240 #[.string ⟨l.toArray⟩] w (L3 l w):=by
 exact uI
def bJ(l:AE)(w:AA):AI 230 #[.string ⟨l.toArray⟩] w (L3 l w):=by
 exact uI
def C3(op:Int)(l:Ay):Int:=
 match l with
 | [a]=>NL op a
 | [a,b]=>NK op a b
 | [a,b,c]=>if a=1/\b=c then b else 0
 | _=>0
def gT(w:AA)(v:AB)(l:Ay):Prop:=∃A c,v=.slice (some ⟨A,0,none⟩) l.length c/\l.length<=c/\A<w.heap.size/\∀B,B<l.length->w.cell? ⟨A,B,none⟩=(l[B]?).map (Value.int .i64)
def AAv(a x:Int)(w:AA)(g k:Nat)(C:1<=k)(B:g<w.heap.size)(D:w.cell? ⟨g,0,none⟩=some (a:AB))(h:C3 4 [a]=x)(hx:x≠0):
 AI 355 #[.int .i64 4,.slice g 1 k] w λe A=>e=.returned x/\Below w w A:=by
 exact rb
def AAu(a x:Int)(w:AA)(g k:Nat)(D:1<=k)(C:g<w.heap.size)(E:w.cell? ⟨g,0,none⟩=some (a:AB))(h:C3 5 [a]=x)(hx:x≠0):
 AI 355 #[.int .i64 5,.slice g 1 k] w λe B=>e=.returned x/\Below w w B:=by
 have h':(if a=1 then 1 else 0)=x:=h;split at h'
 .rename_i A;obtain rfl:=A;exact YZ
 .exact Lq
def AAt(a x:Int)(w:AA)(g k:Nat)(C:1<=k)(B:g<w.heap.size)(D:w.cell? ⟨g,0,none⟩=some (a:AB))(h:C3 6 [a]=x)(hx:x≠0):
 AI 355 #[.int .i64 6,.slice g 1 k] w λe A=>e=.returned x/\Below w w A:=by
 exact rb
def AAs(a b x:Int)(w:AA)(g k:Nat)(C:2<=k)(B:g<w.heap.size)(D:w.cell? ⟨g,0,none⟩=some (a:AB))(E:w.cell? ⟨g,1,none⟩=some (b:AB))(h:C3 7 [a,b]=x)(hx:x≠0):
 AI 355 #[.int .i64 7,.slice g 2 k] w λe A=>e=.returned x/\Below w w A:=by
 exact Xz
def AAr(a b x:Int)(w:AA)(g k:Nat)(C:2<=k)(B:g<w.heap.size)(D:w.cell? ⟨g,0,none⟩=some (a:AB))(E:w.cell? ⟨g,1,none⟩=some (b:AB))(h:C3 8 [a,b]=x)(hx:x≠0):
 AI 355 #[.int .i64 8,.slice g 2 k] w λe A=>e=.returned x/\Below w w A:=by
 exact Xz
def AAq(a b x:Int)(w:AA)(g k:Nat)(C:2<=k)(B:g<w.heap.size)(D:w.cell? ⟨g,0,none⟩=some (a:AB))(E:w.cell? ⟨g,1,none⟩=some (b:AB))(h:C3 9 [a,b]=x)(hx:x≠0):
 AI 355 #[.int .i64 9,.slice g 2 k] w λe A=>e=.returned x/\Below w w A:=by
 have h':(if a=2/\b≠1 then b else (if b=2/\a≠1 then a else 0))=x:=h;exact tV
def AA7(a b x:Int)(w:AA)(g k:Nat)(C:2<=k)(B:g<w.heap.size)(D:w.cell? ⟨g,0,none⟩=some (a:AB))(E:w.cell? ⟨g,1,none⟩=some (b:AB))(h:C3 10 [a,b]=x)(hx:x≠0):
 AI 355 #[.int .i64 10,.slice g 2 k] w λe A=>e=.returned x/\Below w w A:=by
 have h':(if b=2/\a≠1 then a else (if a=b/\a≠1 then 2 else 0))=x:=h;exact tV
def AA6(a b x:Int)(w:AA)(g k:Nat)(C:2<=k)(B:g<w.heap.size)(D:w.cell? ⟨g,0,none⟩=some (a:AB))(E:w.cell? ⟨g,1,none⟩=some (b:AB))(h:C3 11 [a,b]=x)(hx:x≠0):
 AI 355 #[.int .i64 11,.slice g 2 k] w λe A=>e=.returned x/\Below w w A:=by
 exact Rj
def AA5(a b x:Int)(w:AA)(g k:Nat)(C:2<=k)(B:g<w.heap.size)(D:w.cell? ⟨g,0,none⟩=some (a:AB))(E:w.cell? ⟨g,1,none⟩=some (b:AB))(h:C3 12 [a,b]=x)(hx:x≠0):
 AI 355 #[.int .i64 12,.slice g 2 k] w λe A=>e=.returned x/\Below w w A:=by
 exact Rj
def AA4(a b x:Int)(w:AA)(g k:Nat)(C:2<=k)(B:g<w.heap.size)(D:w.cell? ⟨g,0,none⟩=some (a:AB))(E:w.cell? ⟨g,1,none⟩=some (b:AB))(h:C3 13 [a,b]=x)(hx:x≠0):
 AI 355 #[.int .i64 13,.slice g 2 k] w λe A=>e=.returned x/\Below w w A:=by
 exact Rj
def AA3(a b x:Int)(w:AA)(g k:Nat)(C:2<=k)(B:g<w.heap.size)(D:w.cell? ⟨g,0,none⟩=some (a:AB))(E:w.cell? ⟨g,1,none⟩=some (b:AB))(h:C3 14 [a,b]=x)(hx:x≠0):
 AI 355 #[.int .i64 14,.slice g 2 k] w λe A=>e=.returned x/\Below w w A:=by
 exact Rj
def AA2(a b x:Int)(w:AA)(g k:Nat)(C:2<=k)(B:g<w.heap.size)(D:w.cell? ⟨g,0,none⟩=some (a:AB))(E:w.cell? ⟨g,1,none⟩=some (b:AB))(h:C3 15 [a,b]=x)(hx:x≠0):
 AI 355 #[.int .i64 15,.slice g 2 k] w λe A=>e=.returned x/\Below w w A:=by
 exact Rj
def AA1(a b x:Int)(w:AA)(g k:Nat)(C:2<=k)(B:g<w.heap.size)(D:w.cell? ⟨g,0,none⟩=some (a:AB))(E:w.cell? ⟨g,1,none⟩=some (b:AB))(h:C3 16 [a,b]=x)(hx:x≠0):
 AI 355 #[.int .i64 16,.slice g 2 k] w λe A=>e=.returned x/\Below w w A:=by
 exact Rj
def AA0(a b x:Int)(w:AA)(g k:Nat)(C:2<=k)(B:g<w.heap.size)(D:w.cell? ⟨g,0,none⟩=some (a:AB))(E:w.cell? ⟨g,1,none⟩=some (b:AB))(h:C3 17 [a,b]=x)(hx:x≠0):
 AI 355 #[.int .i64 17,.slice g 2 k] w λe A=>e=.returned x/\Below w w A:=by
 exact ph
def AAz(a b x:Int)(w:AA)(g k:Nat)(C:2<=k)(B:g<w.heap.size)(D:w.cell? ⟨g,0,none⟩=some (a:AB))(E:w.cell? ⟨g,1,none⟩=some (b:AB))(h:C3 18 [a,b]=x)(hx:x≠0):
 AI 355 #[.int .i64 18,.slice g 2 k] w λe A=>e=.returned x/\Below w w A:=by
 exact ph
def AAy(a b x:Int)(w:AA)(g k:Nat)(C:2<=k)(B:g<w.heap.size)(D:w.cell? ⟨g,0,none⟩=some (a:AB))(E:w.cell? ⟨g,1,none⟩=some (b:AB))(h:C3 19 [a,b]=x)(hx:x≠0):
 AI 355 #[.int .i64 19,.slice g 2 k] w λe A=>e=.returned x/\Below w w A:=by
 exact Xz
def AAx(a b x:Int)(w:AA)(g k:Nat)(C:2<=k)(B:g<w.heap.size)(D:w.cell? ⟨g,0,none⟩=some (a:AB))(E:w.cell? ⟨g,1,none⟩=some (b:AB))(h:C3 20 [a,b]=x)(hx:x≠0):
 AI 355 #[.int .i64 20,.slice g 2 k] w λe A=>e=.returned x/\Below w w A:=by
 exact Xz
def AAw(a b c x:Int)(w:AA)(g k:Nat)(C:3<=k)(B:g<w.heap.size)(D:w.cell? ⟨g,0,none⟩=some (a:AB))(E:w.cell? ⟨g,1,none⟩=some (b:AB))(F:w.cell? ⟨g,2,none⟩=some (c:AB))(h:C3 21 [a,b,c]=x)(hx:x≠0):
 AI 355 #[.int .i64 21,.slice g 3 k] w λe A=>e=.returned x/\Below w w A:=by
 have h':(if a=1/\b=c then b else 0)=x:=h;exact sG
def AAp(op:Int)(l:Ay)(x:Int)(w:AA)(v:AB)(M:gT w v l)(L:LE op l.length)(O:4<=op)(B:C3 op l=x)(E:x≠0):
 AI 355 #[op,v] w λe N=>e=.returned x/\Below w w N:=by
 obtain⟨A,F,rfl,D,C,I⟩:=M;unfold LE at L;rcases L with ⟨_,K,_⟩|⟨_,K,J⟩|⟨P,K,J⟩|⟨rfl,J⟩
 .omega
 .match l,J with
  | [a],_=>
   have G:=I 0 (by show 0<1;decide);rcases (show op=4\/op=5\/op=6 by omega) with rfl|rfl|rfl
   .exact AAv a x w A F D C G B E
   .exact AAu a x w A F D C G B E
   .exact AAt a x w A F D C G B E
 .match l,J with
  | [a,b],_=>
   have G:=I 0 (by show 0<2;decide);have H:=I 1 (by show 1<2;decide);rcases (show op=7\/op=8\/op=9\/op=10\/op=11\/op=12\/op=13\/op=14\/op=15\/op=16\/op=17\/op=18\/op=19\/op=20 by omega) with rfl|rfl|rfl|rfl|rfl|rfl|rfl|rfl|rfl|rfl|rfl|rfl|rfl|rfl
   .exact AAs a b x w A F D C G H B E
   .exact AAr a b x w A F D C G H B E
   .exact AAq a b x w A F D C G H B E
   .exact AA7 a b x w A F D C G H B E
   .exact AA6 a b x w A F D C G H B E
   .exact AA5 a b x w A F D C G H B E
   .exact AA4 a b x w A F D C G H B E
   .exact AA3 a b x w A F D C G H B E
   .exact AA2 a b x w A F D C G H B E
   .exact AA1 a b x w A F D C G H B E
   .exact AA0 a b x w A F D C G H B E
   .exact AAz a b x w A F D C G H B E
   .exact AAy a b x w A F D C G H B E
   .exact AAx a b x w A F D C G H B E
 .match l,J with
  | [a,b,c],_=>
   exact AAw a b c x w A F D C (I 0 (by show 0<3;decide)) (I 1 (by show 1<3;decide)) (I 2 (by show 2<3;decide)) B E
def AC4(a x:Int)(w:AA)(g k:Nat)(B:1<=k)(A:g<w.heap.size)(C:w.cell? ⟨g,0,none⟩=some (a:AB))(h:C3 4 [a]=x)(hx:x≠0):
 AI 354 #[.int .i64 4,.slice g 1 k] w (Bz (.tuple #[x,true]) w):=by
 exact ra
def AC3(a x:Int)(w:AA)(g k:Nat)(C:1<=k)(B:g<w.heap.size)(D:w.cell? ⟨g,0,none⟩=some (a:AB))(h:C3 5 [a]=x)(hx:x≠0):
 AI 354 #[.int .i64 5,.slice g 1 k] w (Bz (.tuple #[x,true]) w):=by
 have h':(if a=1 then 1 else 0)=x:=h;split at h'
 .rename_i A;obtain rfl:=A;exact Ya
 .exact Lq
def AC2(a x:Int)(w:AA)(g k:Nat)(B:1<=k)(A:g<w.heap.size)(C:w.cell? ⟨g,0,none⟩=some (a:AB))(h:C3 6 [a]=x)(hx:x≠0):
 AI 354 #[.int .i64 6,.slice g 1 k] w (Bz (.tuple #[x,true]) w):=by
 exact ra
def AC1(a b x:Int)(w:AA)(g k:Nat)(B:2<=k)(A:g<w.heap.size)(C:w.cell? ⟨g,0,none⟩=some (a:AB))(D:w.cell? ⟨g,1,none⟩=some (b:AB))(h:C3 7 [a,b]=x)(hx:x≠0):
 AI 354 #[.int .i64 7,.slice g 2 k] w (Bz (.tuple #[x,true]) w):=by
 exact Xy
def AC0(a b x:Int)(w:AA)(g k:Nat)(B:2<=k)(A:g<w.heap.size)(C:w.cell? ⟨g,0,none⟩=some (a:AB))(D:w.cell? ⟨g,1,none⟩=some (b:AB))(h:C3 8 [a,b]=x)(hx:x≠0):
 AI 354 #[.int .i64 8,.slice g 2 k] w (Bz (.tuple #[x,true]) w):=by
 exact Xy
def ACz(a b x:Int)(w:AA)(g k:Nat)(B:2<=k)(A:g<w.heap.size)(C:w.cell? ⟨g,0,none⟩=some (a:AB))(D:w.cell? ⟨g,1,none⟩=some (b:AB))(h:C3 9 [a,b]=x)(hx:x≠0):
 AI 354 #[.int .i64 9,.slice g 2 k] w (Bz (.tuple #[x,true]) w):=by
 have h':(if a=2/\b≠1 then b else (if b=2/\a≠1 then a else 0))=x:=h;exact tU
def ADE(a b x:Int)(w:AA)(g k:Nat)(B:2<=k)(A:g<w.heap.size)(C:w.cell? ⟨g,0,none⟩=some (a:AB))(D:w.cell? ⟨g,1,none⟩=some (b:AB))(h:C3 10 [a,b]=x)(hx:x≠0):
 AI 354 #[.int .i64 10,.slice g 2 k] w (Bz (.tuple #[x,true]) w):=by
 have h':(if b=2/\a≠1 then a else (if a=b/\a≠1 then 2 else 0))=x:=h;exact tU
def ADD(a b x:Int)(w:AA)(g k:Nat)(B:2<=k)(A:g<w.heap.size)(C:w.cell? ⟨g,0,none⟩=some (a:AB))(D:w.cell? ⟨g,1,none⟩=some (b:AB))(h:C3 11 [a,b]=x)(hx:x≠0):
 AI 354 #[.int .i64 11,.slice g 2 k] w (Bz (.tuple #[x,true]) w):=by
 exact Ri
def ADC(a b x:Int)(w:AA)(g k:Nat)(B:2<=k)(A:g<w.heap.size)(C:w.cell? ⟨g,0,none⟩=some (a:AB))(D:w.cell? ⟨g,1,none⟩=some (b:AB))(h:C3 12 [a,b]=x)(hx:x≠0):
 AI 354 #[.int .i64 12,.slice g 2 k] w (Bz (.tuple #[x,true]) w):=by
 exact Ri
def ADB(a b x:Int)(w:AA)(g k:Nat)(B:2<=k)(A:g<w.heap.size)(C:w.cell? ⟨g,0,none⟩=some (a:AB))(D:w.cell? ⟨g,1,none⟩=some (b:AB))(h:C3 13 [a,b]=x)(hx:x≠0):
 AI 354 #[.int .i64 13,.slice g 2 k] w (Bz (.tuple #[x,true]) w):=by
 exact Ri
def ADA(a b x:Int)(w:AA)(g k:Nat)(B:2<=k)(A:g<w.heap.size)(C:w.cell? ⟨g,0,none⟩=some (a:AB))(D:w.cell? ⟨g,1,none⟩=some (b:AB))(h:C3 14 [a,b]=x)(hx:x≠0):
 AI 354 #[.int .i64 14,.slice g 2 k] w (Bz (.tuple #[x,true]) w):=by
 exact Ri
def AC'(a b x:Int)(w:AA)(g k:Nat)(B:2<=k)(A:g<w.heap.size)(C:w.cell? ⟨g,0,none⟩=some (a:AB))(D:w.cell? ⟨g,1,none⟩=some (b:AB))(h:C3 15 [a,b]=x)(hx:x≠0):
 AI 354 #[.int .i64 15,.slice g 2 k] w (Bz (.tuple #[x,true]) w):=by
 exact Ri
def AC_(a b x:Int)(w:AA)(g k:Nat)(B:2<=k)(A:g<w.heap.size)(C:w.cell? ⟨g,0,none⟩=some (a:AB))(D:w.cell? ⟨g,1,none⟩=some (b:AB))(h:C3 16 [a,b]=x)(hx:x≠0):
 AI 354 #[.int .i64 16,.slice g 2 k] w (Bz (.tuple #[x,true]) w):=by
 exact Ri
def AC9(a b x:Int)(w:AA)(g k:Nat)(B:2<=k)(A:g<w.heap.size)(C:w.cell? ⟨g,0,none⟩=some (a:AB))(D:w.cell? ⟨g,1,none⟩=some (b:AB))(h:C3 17 [a,b]=x)(hx:x≠0):
 AI 354 #[.int .i64 17,.slice g 2 k] w (Bz (.tuple #[x,true]) w):=by
 exact pg
def AC8(a b x:Int)(w:AA)(g k:Nat)(B:2<=k)(A:g<w.heap.size)(C:w.cell? ⟨g,0,none⟩=some (a:AB))(D:w.cell? ⟨g,1,none⟩=some (b:AB))(h:C3 18 [a,b]=x)(hx:x≠0):
 AI 354 #[.int .i64 18,.slice g 2 k] w (Bz (.tuple #[x,true]) w):=by
 exact pg
def AC7(a b x:Int)(w:AA)(g k:Nat)(B:2<=k)(A:g<w.heap.size)(C:w.cell? ⟨g,0,none⟩=some (a:AB))(D:w.cell? ⟨g,1,none⟩=some (b:AB))(h:C3 19 [a,b]=x)(hx:x≠0):
 AI 354 #[.int .i64 19,.slice g 2 k] w (Bz (.tuple #[x,true]) w):=by
 exact Xy
def AC6(a b x:Int)(w:AA)(g k:Nat)(B:2<=k)(A:g<w.heap.size)(C:w.cell? ⟨g,0,none⟩=some (a:AB))(D:w.cell? ⟨g,1,none⟩=some (b:AB))(h:C3 20 [a,b]=x)(hx:x≠0):
 AI 354 #[.int .i64 20,.slice g 2 k] w (Bz (.tuple #[x,true]) w):=by
 exact Xy
def AC5(a b c x:Int)(w:AA)(g k:Nat)(B:3<=k)(A:g<w.heap.size)(C:w.cell? ⟨g,0,none⟩=some (a:AB))(D:w.cell? ⟨g,1,none⟩=some (b:AB))(E:w.cell? ⟨g,2,none⟩=some (c:AB))(h:C3 21 [a,b,c]=x)(hx:x≠0):
 AI 354 #[.int .i64 21,.slice g 3 k] w (Bz (.tuple #[x,true]) w):=by
 have h':(if a=1/\b=c then b else 0)=x:=h;exact sF
def ACy(op:Int)(l:Ay)(x:Int)(w:AA)(v:AB)(M:gT w v l)(L:LE op l.length)(N:4<=op)(B:C3 op l=x)(E:x≠0):
 AI 354 #[op,v] w (Bz (.tuple #[x,true]) w):=by
 obtain⟨A,F,rfl,D,C,I⟩:=M;unfold LE at L;rcases L with ⟨_,K,_⟩|⟨_,K,J⟩|⟨O,K,J⟩|⟨rfl,J⟩
 .omega
 .match l,J with
  | [a],_=>
   have G:=I 0 (by show 0<1;decide);rcases (show op=4\/op=5\/op=6 by omega) with rfl|rfl|rfl
   .exact AC4 a x w A F D C G B E
   .exact AC3 a x w A F D C G B E
   .exact AC2 a x w A F D C G B E
 .match l,J with
  | [a,b],_=>
   have G:=I 0 (by show 0<2;decide);have H:=I 1 (by show 1<2;decide);rcases (show op=7\/op=8\/op=9\/op=10\/op=11\/op=12\/op=13\/op=14\/op=15\/op=16\/op=17\/op=18\/op=19\/op=20 by omega) with rfl|rfl|rfl|rfl|rfl|rfl|rfl|rfl|rfl|rfl|rfl|rfl|rfl|rfl
   .exact AC1 a b x w A F D C G H B E
   .exact AC0 a b x w A F D C G H B E
   .exact ACz a b x w A F D C G H B E
   .exact ADE a b x w A F D C G H B E
   .exact ADD a b x w A F D C G H B E
   .exact ADC a b x w A F D C G H B E
   .exact ADB a b x w A F D C G H B E
   .exact ADA a b x w A F D C G H B E
   .exact AC' a b x w A F D C G H B E
   .exact AC_ a b x w A F D C G H B E
   .exact AC9 a b x w A F D C G H B E
   .exact AC8 a b x w A F D C G H B E
   .exact AC7 a b x w A F D C G H B E
   .exact AC6 a b x w A F D C G H B E
 .match l,J with
  | [a,b,c],_=>
   exact AC5 a b c x w A F D C (I 0 (by show 0<3;decide)) (I 1 (by show 1<3;decide)) (I 2 (by show 2<3;decide)) B E
section
variable{v:AB}{X Y:AA}{l:List AB}
def VL(p:AE × Int)(u:List AB):Prop:=u=[AR p.1,.int .i64 p.2]
def VL.len{p:AE × Int}{u:List AB}(h:VL p u):u.length=2:=M5
def CQ(B:Nat)(w:AA)(A:Env)(v:AB):Prop:=AS B w 326 2 VL A v
def CQ.below{B:Nat}{w C:AA}{A:Env}(h:CQ B w A v)(D:Below w w C):CQ B C A v:=AS.below h D BW
def Pw(x:Int)(w:AA)(e:Ending)(A:AA):Prop:=e=.returned (.tuple #[x,()])/\Below w w A
def mu{K:Env}{e:AY}{x:Int}(F:C5 K e=some x)(H:4<=e.op):
 ∃G:Ay,G.length=e.kids.length/\(∀(i:Nat) (k:AY),e.kids[i]? = some k->C5 K k=G[i]?)/\C3 e.op G=x/\x≠0:=by
 cases e with
 | zero=>cases F
 | lit v E=>exact absurd H (by show ¬(4:Int)<=1;decide)
 | name P=>exact absurd H (by show ¬(4:Int)<=2;decide)
 | EY O=>exact absurd H (by show ¬(4:Int)<=3;decide)
 | un N J=>
  obtain⟨E,B,C,D⟩:=mr F;exact⟨[E],rfl,λi k A=>by match i,A with|0,A=>cases A;exact B,C,D⟩
 | bin N J L=>
  obtain⟨E,M,B,C,D,I⟩:=mw F;exact⟨[E,M],rfl,λi k A=>by match i,A with|0,A=>cases A;exact B|1,A=>cases A;exact C,D,I⟩
 | ite c J L=>
  obtain⟨B,C,D,I⟩:=mv F;exact⟨[1,x,x],rfl,λi k A=>by match i,A with|0,A=>cases A;exact B|1,A=>cases A;exact C|2,A=>cases A;exact D,by show(if (1:Int)=1/\x=x then x else 0)=x;simp,I⟩
def tI:(prog.info? 3).map (λi=>(i.zero,i.size,i.bytes))=some (some (():AB),1,8):=AF
def ml{w:AA}{B:Nat}{l:Ay}(h:w.ownsRow B 3 1 v l.length (l.map (Value.int .i64)))(G:0<l.length):gT w v l:=by
 rcases h.2 with ⟨_,H⟩|⟨D,C,cur,rfl,_,A,E,_,_,F⟩
 .omega
 .refine⟨D,C,rfl,E,AG.lt (t:=3) (cs:=cur) A,λJ I=>?_⟩;rw[AG.cell (t:=3) (cs:=cur) A,<-JA,<-F,Lc,Ab U];simp
def ABT(P:Nat->Prop)(D:Env)(B:BH)(C:Nat)(x:EP)(d:Int)(w:AA)(E:List AB)(h:Ai P w (.lit x d) E):
 AI 314 #[.agg E.toArray,.slice B D.length C] w (Pw d w):=by
 obtain⟨A,c,F,o,G,rfl,_⟩:=h.inv;have AC:=O (Bd.new h);change Hid (Bd P w (w.alloc (.cells [.int .i64 1,.int .i64 x.n,.int .i64 x.d,.int .i64 d,.string ⟨([]:AE).toArray⟩,.slice A 0 c].toArray 213)) (AY.lit x d) w [.int .i64 1,.int .i64 x.n,.int .i64 x.d,.int .i64 d,.string ⟨([]:AE).toArray⟩,.slice A 0 c]) at AC
 show AI 314 #[.agg #[.int .i64 1,x.n,x.d,d,.string ⟨([]:AE).toArray⟩,.slice A 0 c],.slice B D.length C] w _;exact X3
def ABU(P:Nat->Prop)(D:Env)(B:BH)(C:Nat)(n:Int)(w:AA)(E:List AB)(h:Ai P w (.EY n) E):
 AI 314 #[.agg E.toArray,.slice B D.length C] w (Pw 4 w):=by
 obtain⟨A,c,F,o,G,rfl,_⟩:=h.inv;have AC:=O (Bd.new h);change Hid (Bd P w (w.alloc (.cells [.int .i64 3,.int .i64 n,.int .i64 1,.int .i64 0,.string ⟨([]:AE).toArray⟩,.slice A 0 c].toArray 213)) (AY.EY n) w [.int .i64 3,.int .i64 n,.int .i64 1,.int .i64 0,.string ⟨([]:AE).toArray⟩,.slice A 0 c]) at AC
 show AI 314 #[.agg #[.int .i64 3,n,.int .i64 1,(),.string ⟨([]:AE).toArray⟩,.slice A 0 c],.slice B D.length C] w _;exact X3
def CQ.cells{B:Nat}{w:AA}{A:Env}{D:BH}{E:Nat}(h:CQ B w A (.slice D A.length E))(i:Nat)(p:AE × Int)(G:A[i]? = some p):
 ∃g,D=some ⟨g,0,none⟩/\A.length<=E/\g<w.heap.size/\w.cell? ⟨g,i*2,none⟩=some (AR p.1)/\w.cell? ⟨g,i*2+1,none⟩=some (p.2:AB):=by
 obtain⟨g,I,J⟩:=AS.Ch h (λ_ _ C=>VL.len C) i p G;subst I;obtain⟨M,K,L,F⟩:=AS.BT h (λ_ _ C=>VL.len C) i p G;have H:M=[AR p.1,.int .i64 p.2]:=L;subst H;exact⟨g,rfl,J,K,F 0 AD,F 1 AD⟩
def ABS(P:Nat->Prop)(B:Nat)(A:Env)(J:BH)(K:Nat)(s:AE)(x:Int)(w:AA)(f:List AB)(y:CQ B w A (.slice J A.length K))(AP:A.length<=1000)(h:Ai P w (.name s) f)(I:Iz s A=some x):
 AI 314 #[.agg f.toArray,.slice J A.length K] w (Pw x w):=by
 have L:=O y;unfold Iz at I;cases M:GE.lookup s with
 | some W=>
  rw[M] at I;simp only[CW] at I;have N:=O M;have G:=O I;obtain⟨F,c,Z,o,AH,rfl,_⟩:=h.inv;have C:=O (Bd.new h);change Hid (Bd P w (w.alloc (.cells [.int .i64 2,.int .i64 0,.int .i64 0,.int .i64 0,.string ⟨s.toArray⟩,.slice F 0 c].toArray 213)) (AY.name s) w [.int .i64 2,.int .i64 0,.int .i64 0,.int .i64 0,.string ⟨s.toArray⟩,.slice F 0 c]) at C
  show AI 314 #[.agg #[.int .i64 2,(),(),(),.string ⟨s.toArray⟩,.slice F 0 c],.slice J A.length K] w _;obtain⟨j,k,m,n,V,q,a⟩:=C.o.blk.y6;go_in;go_wp2_with fail;refine(av s _).mono ?_;unfold L3;rw[N.o];rintro r AJ ⟨rfl,rfl⟩;go_wp2_with fail;go_ret2;exact⟨by rw[<-G.o];rfl,C.o.AJ⟩
 | none=>
  rw[M] at I;have N:=O M;have G:=O (show(A.take A.length).reverse.lookup s=some x by rw[F6];exact I);obtain⟨F,c,Z,o,AH,rfl,_⟩:=h.inv;have C:=O (Bd.new h);change Hid (Bd P w (w.alloc (.cells [.int .i64 2,.int .i64 0,.int .i64 0,.int .i64 0,.string ⟨s.toArray⟩,.slice F 0 c].toArray 213)) (AY.name s) w [.int .i64 2,.int .i64 0,.int .i64 0,.int .i64 0,.string ⟨s.toArray⟩,.slice F 0 c]) at C
  show AI 314 #[.agg #[.int .i64 2,(),(),(),.string ⟨s.toArray⟩,.slice F 0 c],.slice J A.length K] w _;obtain⟨j,k,m,n,V,q,a⟩:=C.o.blk.y6;go_in;go_wp2_with fail;refine(av s _).mono ?_;unfold L3;rw[N.o];rintro r AJ ⟨rfl,rfl⟩;go_wp2_with fail;have g:=O (L.o.below C.o.AJ);go_loopw [8] (λS wr=>∃H:Int,S=.int .i64 H/\-1<=H/\H<(A.length:Int)/\Bd P w wr (.name s) w [.int .i64 2,.int .i64 0,.int .i64 0,.int .i64 0,.string ⟨s.toArray⟩,.slice F 0 c]/\CQ B wr A (.slice J A.length K)/\Hid ((A.take (H+1).toNat).reverse.lookup s=some x)) (λS _=>(intOf S+1).toNat)
  case atStart=>exact⟨(A.length:Int)-1,rfl,U,U,C.o,g.o,by show _=_;rw[show((A.length:Int)-1+1).toNat=A.length by omega];exact G.o⟩
  case round=>
   obtain⟨H,rfl,AL,AM,R,z,T⟩:=hrel;have C:=O R;have L:=O z;have V:=R.blk.g4;have a:=R.blk.lt;by_cases AC:0<=H
   .obtain⟨E,rfl⟩:=O' AC;have AD:E<A.length:=U;obtain⟨p,d⟩:=BQ A E AD;obtain⟨Z,u,AO,AK,e,AQ⟩:=L.o.cells E p d;subst u;have D:=T.o;rw[show((E:Int)+1).toNat=E+1 by omega,AF6 A E p s d] at D;by_cases hc:s=p.1
    .have Q:(s==p.1)=true:=ZT;rw[Ab Q] at D;simp only[CW] at D;have G:=O D;have t:(p.1==s)=true:=by simpa using hc.symm
     generalize p.1=AG at *;generalize p.2=W at *;unfold AR at e;go_wp2_with fail;go_quiet (fail)
     go_wp2_with fail;go_ret2;have AF:=G.o;subst AF;exact⟨rfl,Do C.o.AJ _⟩
    .have Q:(s==p.1)=false:=ZT;rw[Q] at D;simp only[DW,DV] at D;have G:=O D;have t:(p.1==s)=false:=by simpa using λh=>hc h.symm
     generalize p.1=AG at *;generalize p.2=W at *;unfold AR at e;go_wp2_with fail;go_quiet (fail)
     have b:Below wr wr (wr.drewN nq):=Do DL _;go_wp2_with fail;go_roundw
     case rel=>exact⟨(E:Int)-1,rfl,U,U,C.o.below b,L.o.below b,by show _=_;rw[show((E:Int)-1+1).toNat=E by omega];exact G.o⟩
     case measure=>simp[intOf]
   .exfalso;have D:=T.o;rw[show(H+1).toNat=0 by omega] at D;cases D
def Bd.AHe{P:Nat->Prop}{W:AA}{e:AY}{b n:Nat}{E:List AB}(h:Bd P W X e b E)(B:X.grownBy Y v.ownBlock)(I:X.ownsRow W 3 1 v n l):Bd P W Y e b E:=by
 obtain⟨F,hk,hS⟩:=Gd I B;have D:∀A C,AG X A 213 C->A∉F:=λA C B H=>by
  obtain⟨_,J,G⟩:=hS A H;exact absurd (B.same G) AD
 exact⟨h.AJ.trans Mx,h.blk.kept hk (D _ _ h.blk),h.tree.kept hk (λA C _ B=>D A C B)⟩
def CQ.AHd{B B':Nat}{C:Env}{u:AB}{n:Nat}(h:CQ B X C u)(A:X.grownBy Y v.ownBlock)(I:X.ownsRow B' 3 1 v n l):CQ B Y C u:=by
 obtain⟨J,G,F⟩:=Gd I A;exact AS.kept h G (λD K A H=>by
  obtain⟨_,L,E⟩:=F D H;exact absurd (A.same E) AD) BW
def ABR(P:Nat->Prop)(B:Nat)(A:Env)(C:BH)(D:Nat)(AW:A.length<=1000)(e:AY)
 (R:∀k∈e.kids,∀(x:Int) (w:AA) (E:List AB),CQ B w A (.slice C A.length D)->Ai P w k E->k.DG=true->C5 A k=some x->AI 314 #[.agg E.toArray,.slice C A.length D] w (Pw x w))
 (x:Int)(w:AA)(E:List AB)(he:CQ B w A (.slice C A.length D))(h:Ai P w e E)(M:e.DG=true)(m:C5 A e=some x)(H:4<=e.op):
 AI 314 #[.agg E.toArray,.slice C A.length D] w (Pw x w):=by
 have u:=O R;have r:=O (e.WX M);have I:=e.Xm M;obtain⟨ds,K,S,T,L⟩:=mu m H;obtain⟨a,c,AU,Ao,Ap,g,_⟩:=h.inv;rw[e.Wz M H] at g;have ZR:=O (λw v AK=>AAp e.op ds x w v AK (by rw[K];exact I) H T L);have q:=O S;have Ab:(x==0)=false:=Aw.2 L;have Aa:=e.Qo;have AX:1<=e.kids.length:=by
  unfold LE at I;omega
 subst g;have AC:=O (Bd.new h);change Hid (Bd P w (w.alloc (.cells [.int .i64 e.op,.int .i64 0,.int .i64 0,.int .i64 0,.string ⟨([]:AE).toArray⟩,.slice a e.kids.length c].toArray 213)) e w [.int .i64 e.op,.int .i64 0,.int .i64 0,.int .i64 0,.string ⟨([]:AE).toArray⟩,.slice a e.kids.length c]) at AC
 have Aq:=O R4;clear h R I he S T L m;show AI 314 #[.agg #[e.op,(),(),(),.string ⟨([]:AE).toArray⟩,.slice a e.kids.length c],.slice C A.length D] w _;have As:(e.op==1)=false:=Aw.2 U;have At:(e.op==2)=false:=Aw.2 U;have Au:(e.op==3)=false:=Aw.2 U;have AG:Hid (∀i,i<e.kids.length->∃k,e.kids[i]? = some k):=λi W=>⟨_,BL W⟩;generalize e.op=AL at *;generalize AJ:e.kids.length=n at *;have An:=O K;clear AJ K;obtain⟨b0,y,z,AD,AF,b5,hbl⟩:=AC.o.blk.y6;go_in;go_wp2_with fail;clear b0 y z AD AF b5 hbl;go_loopw [9,10] (λAS N wr=>∃i:Nat,N=.int .i64 (i:Int)/\i<=n/\wr.ownsRow w 3 1 AS i ((ds.take i).map (Value.int .i64))/\Bd P w wr e w [.int .i64 AL,.int .i64 0,.int .i64 0,.int .i64 0,.string ⟨([]:AE).toArray⟩,.slice a n c]/\CQ B wr A (.slice C A.length D)) (λ_ N _=>n-(intOf N).toNat)
 case atStart=>exact⟨0,rfl,Az _,Ia _ _ _ _,AC.o,Aq.o⟩
 case round=>
  clear AC Aq;obtain⟨i,rfl,W,hown,F,V⟩:=hrel;have AC:=O F;have Aq:=O V;have BI:=O hown;obtain⟨b0,hbl⟩:=F.blk.y1;have b5:=F.blk.g5;clear F V;by_cases Z:i<n
  .obtain⟨k,G⟩:=AG.o i Z;obtain⟨d,J⟩:=BQ ds i (by rw[An.out];exact Z);obtain⟨AT,o,Ae,Af,Ag,Ah,Aj,Al,Am,Ak,rfl,-,Ac,AV,f,AM,AN,AO,AP,AQ,AR⟩:=AC.o.tree.MW rfl i k G;have dl:=Ar i n;have s:=O f;have Q:=O (Bu G);have t:=O ((q.o i k G).trans J);have OF:=O (show ds.take (i+1)=ds.take i++[d] by rw[Mk,J];rfl);obtain⟨va,Gz,rfl⟩:=CG hown;clear f G J hown;go_wp2_with fail;refine(u.o k Q.o d _ _ Aq.o s.o (r.o k Q.o) t.o).mono ?_;rintro en w1 ⟨rfl,hb1⟩;replace BI:=O (IQ BI.o hb1 Y4);have ZQ:=O Bg;have wY:=O Ik;have Ad:=ZQ.o.AJ.size;clear AM AN AO AP AQ AR b0 b5 hbl hb1 AC Aq;exact ta
  .exact tb
def ABV(P:Nat->Prop)(B:Nat)(A:Env)(D:BH)(E:Nat)(J:A.length<=1000):∀(e:AY) (x:Int) (w:AA) (C:List AB),CQ B w A (.slice D A.length E)->Ai P w e C->e.DG=true->C5 A e=some x->
 AI 314 #[.agg C.toArray,.slice D A.length E] w (Pw x w):=by
 refine AY.MV ?_;intro e K x w C H G I F;rcases e.XZ I with ⟨v,L,rfl⟩|⟨O,rfl⟩|⟨N,rfl⟩|M
 .simp only[C5,CW] at F;subst F;exact ABT P A D E v L w C G
 .exact ABS P B A D E O x w C H J G F
 .simp only[C5,CW] at F;subst F;exact ABU P A D E N w C G
 .exact ABR P B A D E J e K x w C H G I F M
end
section
open Go.RowKit Go.Shelf
attribute [local go_sem] Oper.semAt_some
abbrev MA:=Int × AE × Int
def XK(x:MA):Array AB:=#[.int .i64 x.1,.agg #[AR x.2.1,.int .i64 x.2.2]]
def upto(f:Nat->MA)(k:Nat):List MA:=(List.range k).map f
def jI(f:Nat->MA)(k:Nat):upto f (k+1)=upto f k++[f k]:=by simp[upto,List.range_succ]
def yh(f:Nat->MA)(k:Nat):(upto f k).length=k:=by simp[upto]
def Kr(A:Env)(t:Nat):MA:=(((A.length-1-t:Nat):Int),A[A.length-1-t]?.getD ([],0))
def VK(F:Nat)(W:AA)(v:AB)(B:Env):Prop:=
 (v=.slice none 0 0/\B=[])\/∃A E,v=.slice (some ⟨A,0,none⟩) B.length E/\A<F/\∀(C:Nat) (D:AE × Int),B[C]? = some D->W.cell? ⟨A,C*2,none⟩=some (AR D.1)/\W.cell? ⟨A,C*2+1,none⟩=some (D.2:AB)
def VK.below{C:Nat}{D B:AA}(F:Below C D B){v:AB}{E:Env}: VK C D v E->VK C B v E
 | .inl e=>.inl e
 | .inr ⟨b,cap,e,hb,hc⟩=>.inr ⟨b,cap,e,hb,λA H G=>⟨(F.cell (p:=⟨b,A*2,none⟩) hb).trans (hc A H G).1,(F.cell (p:=⟨b,A*2+1,none⟩) hb).trans (hc A H G).2⟩⟩
def AKg(H:Fence)(n:Nat)(g:H.fn 379)(r:H.round=none)(AI:1<=n)(l G I b N:Nat)(A:Env)(AG:A.length<=1000)(AC:A.length<=N)(P:b<I)(E M:List MA->AA->Prop)
 (f:∀pre x W,E pre W->pre.length<A.length->YieldAt H (n-1) prog l (XK x) W λe D=>
  (e=.returned (.bool true)/\E (pre++[x]) D/\Below I W D)\/(e=.returned (.bool false)/\M (pre++[x]) D))
 (W:AA) (Z:W.cell? ⟨G,0,none⟩=some (.slice b A.length N)) (Y:G<I)
 (Q:∀(i:Nat) (p:AE × Int),A[i]? = some p->W.cell? ⟨b,i*2,none⟩=some (AR p.1)/\W.cell? ⟨b,i*2+1,none⟩=some (p.2:AB)) (X:E [] W) :
 CallsIn H n prog 379 #[.func (.yield l) #[] #[],.pointer G] W λe D=>(∃v,e=.returned v)/\
  ((∃S,S=upto (Kr A) A.length/\E S D)\/(∃pre,(∃k,k<=A.length/\pre=upto (Kr A) k)/\M pre D)):=by
 refine callsIn_of_wp func379 rfl g ?_ r;refine ug ?_;gi_wp2
 gi_loopw [3] (λi wr=>∃C:Int,i=.int .i64 C/\-1<=C/\C<(A.length:Int)/\E (upto (Kr A) ((A.length:Int)-1-C).toNat) wr/\Below I W wr)
  (λi _=>(intOf i+1).toNat)
 case atStart=>exact⟨(A.length:Int)-1,rfl,U,U,by rw[show((A.length:Int)-1-((A.length:Int)-1)).toNat=0 by omega];exact X,AN _ _⟩
 case round=>
  obtain⟨C,rfl,AD,AF,J,F⟩:=hrel;by_cases j:0<=C
  .obtain⟨B,rfl⟩:=O' j;have o:B<A.length:=U;obtain⟨p,K⟩:=BQ A B o;have L:Hid (Kr A ((A.length:Int)-1-(B:Int)).toNat=((B:Int),p)):=by
    show _=_;unfold Kr;rw[show A.length-1-((A.length:Int)-1-(B:Int)).toNat=B by omega,K];rfl
   obtain⟨T,V⟩:=Q B p K;have s:=(F.cell (p:=⟨b,B*2,none⟩) P).trans T;have AK:=(F.cell (p:=⟨b,B*2+1,none⟩) P).trans V;have AL:=(F.cell (p:=⟨G,0,none⟩) Y).trans Z;have AJ:=F.size;obtain⟨y,tmps,assign,body,R,d⟩:=f _ ((B:Int),p) wr J (by rw[yh];omega);unfold XK AR at R;dsimp only at R;unfold AR at s;have t:=O Q;have u:=O K;gi_wp2
   refine d.mono ?_;rintro e w (⟨rfl,a,m⟩|⟨rfl,c⟩)
   .gi_wp2
    go_roundw
    case rel=>
     refine⟨(B:Int)-1,AH,U,U,?_,F.trans m⟩;rw[show((A.length:Int)-1-((B:Int)-1)).toNat=((A.length:Int)-1-(B:Int)).toNat+1 by omega,jI,L.o];exact a
    case measure=>simp[intOf]
   .gi_wp2
    refine BE (results_none rfl _ _ _) rfl ?_;refine⟨⟨_,rfl⟩,.inr ⟨_,⟨((A.length:Int)-1-(B:Int)).toNat+1,U,?_⟩,c⟩⟩;rw[jI,L.o]
  .obtain rfl:C = -1:=U;rw[show((A.length:Int)-1 - -1).toNat=A.length by omega] at J;gi_wp2
   go_end0
   exact⟨⟨_,rfl⟩,.inl J⟩
def AKf(A:Fence)(n:Nat)(G:A.fn 379)(H:A.round=none)(l C:Nat)(B:List MA->AA->Prop)(W:AA)(J:W.cell? ⟨C,0,none⟩=some (.slice none 0 0))(E:B [] W):
 CallsIn A n prog 379 #[.func (.yield l) #[] #[],.pointer C] W λe D=>(∃v,e=.returned v)/\B [] D:=by
 refine callsIn_of_wp func379 rfl G ?_ H;refine ug ?_;gi_wp2
 gi_loopw [3] (λI wr=>I=.int .i64 (-1)/\B [] wr) (λ_ _=>0)
 case atStart=>exact⟨rfl,E⟩
 case round=>
  obtain⟨rfl,F⟩:=hrel;gi_wp2
  go_end0
  exact⟨⟨_,rfl⟩,F⟩
def AKe(A:Fence)(n:Nat)(D:A.fn 373)(E:A.round=none)(a:BH)(C B:Nat)(w:AA):
 CallsIn A n prog 373 #[.slice a C B] w λe F=>e=.returned (.func (.func 379) #[] #[.pointer w])/\F=w.alloc (.cells #[.slice a C B] 266):=by
 refine callsIn_of_wp func373 rfl D ?_ E;simp only[ntmps373,List.size_toArray,CB,EE,Nat.reduceAdd,Nat.reduceSub,Array.replicate_succ,Array.replicate_zero,List.push_toArray,List.append_toArray,Dg,DC];gi_wp2
 exact H7
def AKd(C:Fence)(n:Nat)(K:C.fn 379)(M:C.round=none)(b:1<=n)(B D:Nat)(v:AB)(A:Env)(Z:A.length<=1000)(V:∀a m c,v=.slice a m c->A.length<=c)(w:AA)(H:B<D)(L:D<=w.heap.size)
 (U:w.cell? ⟨B,0,none⟩=some v)(R:VK D w v A):
 SeqStopsK C n prog 379 #[.pointer B] XK (Below D) (λd=>d=upto (Kr A) A.length) (λpre=>∃k,k<=A.length/\pre=upto (Kr A) k) A.length w:=λN E O F I _ _ S G=>by
 have J:=(I.cell (p:=⟨B,0,none⟩) (Co H L)).trans U;rcases R.below (I.mono L) with ⟨rfl,rfl⟩|⟨P,Q,rfl,T,W⟩
 .exact(AKf C n K M N B E F J G).mono λf e ⟨X,Y⟩=>⟨X,.inl ⟨_,rfl,Y⟩⟩
 .exact AKg C n K M b N B D P Q A Z (V _ _ _ rfl) T E O S F J H W G
end
def ki(P:Nat->Prop)(B:Nat)(A:Env)(v:AB)(N:A.length<=1000)(K:Hq A)(e:AY)(x:Int)(w:AA)(C:List AB)(he:CQ B w A v)(h:Ai P w e C)(hv:e.BY=true)(R:C5 A e=some x):
 AI 241 #[.agg C.toArray,v] w (Pw x w):=by
 obtain⟨E,F,rfl,_⟩:=AS.slice he;have Ag:=O (λw C he h=>ABV P B A E F N e x w C he h xS R);have I:=O (λw C h=>Sx P e w C h hv);obtain⟨S,T,V,W,X,Z,c,Y,rfl⟩:=h.BS;have AC:=O (Bd.new h);have Aq:=O R4;have H:=O K;obtain⟨b0,b1,b2,b3,b4,b5,hbl⟩:=AC.o.blk.y6;go_in;go_wp2_with fail;go_call I.o _ _ AC.o.tree as en w1 ⟨rfl,hb1⟩;replace AC:=O Bg;replace Aq:=O Ik;go_wp2_with fail;go_loopw [6] (λD wr=>∃i:Nat,D=.int .i64 (i:Int)/\i<=A.length/\Bd P w wr e w [.int .i64 S,.int .i64 T,.int .i64 V,.int .i64 W,AR X,.slice Z c Y]/\CQ B wr A (.slice E A.length F)) (λD _=>A.length-(intOf D).toNat)
 case atStart=>exact⟨0,rfl,Az _,AC.o,Aq.o⟩
 case round=>
  obtain⟨i,rfl,o,L,M⟩:=hrel;have AC:=O L;have Aq:=O M;by_cases Q:i<A.length
  .obtain⟨p,G⟩:=BQ A i Q;obtain⟨j,J,q,n,r,s⟩:=Aq.o.cells i p G;subst J;obtain⟨k,m⟩:=H.o p (Bu G);have dl:=Ar i A.length;have f:=A4 p.2 1;have g:=A4 4 p.2;generalize p.1=t at *;generalize p.2=d at *;exact Pe
  .obtain rfl:i=A.length:=U;have dl:decide ((A.length:Int)<(A.length:Int))=false:=AH;obtain⟨b0,b1,b2,b3,b4,b5,hbl⟩:=AC.o.blk.y6;exact r9
def Yq(w:AA)(e:Ending)(A:AA):Prop:=e=.returned ()/\Below w w A
def ABK(P:Nat->Prop)(B:Nat)(A:Env)(v:AB)(G:A.length<=1000)(F:Hq A)(e:AY)(x:Int)(w:AA)(C:List AB)(he:CQ B w A v)(h:Ai P w e C)(H:Dk A e x=true):
 AI 177 #[.agg C.toArray,v,x] w (Yq w):=by
 obtain⟨I,J⟩:=l7 H;have E:=O (λw C he h=>ki P B A v G F e x w C he h I J);obtain⟨S,T,rfl,_⟩:=AS.slice he;obtain⟨V,W,X,Y,Z,b,c,a,rfl⟩:=h.BS;have AC:=O (Bd.new h);have D:=O R4;obtain⟨K,L,M,N,Q,R,U⟩:=AC.o.blk.y6;go_in;go_wp2_with fail;go_call E.o _ _ D.o AC.o.tree as en w2 ⟨rfl,hb2⟩;replace AC:=O K1;exact Pg
section
variable{i:Nat}{y:Fm}
structure K2(B:Nat)(W X:AA)(l:List Fm)(v:AB):Prop where
 AJ:Below W W X
 ls:AS B X 215 7 (D9 (λg=>B<=g) X) l v
section
variable {B:Nat} {W X Y:AA} {l:List Fm} {v:AB}
def K2.below(h:K2 B W X l v)(hb:Below X X Y):K2 B W Y l v:=
 ⟨AW h.AJ hb,h.ls.below hb (λ_ _ A=>A.kept (S:=[]) CX CE)⟩
def K2.grow{u:AB}{n:Nat}{r:List AB}(h:K2 B W X l v)(hg:X.grownBy Y u.ownBlock)(F:X.ownsRow W 326 2 u n r):K2 B W Y l v:=by
 obtain⟨E,hk,hS⟩:=Gd F hg;have D:∀g C A,AG X g C A->C≠326->g∉E:=λg C A hg h1 hm=>by
  exact Pa
 exact⟨h.AJ.trans Mx,h.ls.kept hk (λg A hg=>D g _ A hg AD) (λ_ _ q=>q.kept hk (λg A hg=>D g _ A hg AD))⟩
end
def vQ(C:Env)(w:AA)(e:Ending)(A:AA):Prop:=∃v,e=.returned (.tuple #[v,()])/\CQ w A C v/\Below w w A
def AFS{C:Env}{l:List Fm}{k:Nat}{s:AE}(H:C.map (·.1)=(l.take i).map (·.name))(ha:C.any (λp=>p.1==s)=false)(G:k<i)(I:l[k]? = some y):y.name≠s:=by
 intro E;have A:((l.take i).map (·.name))[k]? = some y.name:=by rw[JA,Lc,Ab G,I];rfl
 rw[<-H,JA] at A;cases D:C[k]? with
 | none=>rw[D] at A;cases A
 | some p=>
  rw[D] at A;simp only[Td,CW] at A;have F:C.any (λp=>p.1==s)=true:=Nl.2 ⟨p,Bu D,by rw[A,E];simp⟩;rw[F] at ha;cases ha
def AFR{A:Env}{l:List Fm}{d:Int}(C:A.map (·.1)=(l.take i).map (·.name))(D:l[i]? = some y):(A++[(y.name,d)]).map (·.1)=(l.take (i+1)).map (·.name):=by
 rw[Se l i y D,Li,Li,C];rfl
def ALj:(prog.info? 326).map (λi=>(i.zero,i.size,i.bytes))=some (some (.agg #[.string .empty,()]),2,24):=AF
def ABL(B:Nat)(l:List Fm)(env:Env)(w:AA)(v:AB)(h:AS B w 215 7 (D9 (λg=>B<=g) w) l v)(Af:l.length<=10)(G:G5 l []=some env):
 AI 176 #[v] w (vQ env w):=by
 obtain⟨a,K,rfl,Ag⟩:=h.slice;have AC:Hid (K2 B w w l (.slice a l.length K)):=⟨AN _ _,h⟩;have A2:=O G;have Ad:=A4 10 l.length;go_in;go_wp2_with fail;go_loopw [4,5] (λAa y wr=>∃(i:Nat) (CZ:Env),y=.int .i64 (i:Int)/\i<=l.length/\K2 B w wr l (.slice a l.length K)/\CQ w wr CZ Aa/\Hid (G5 (l.drop i) CZ=some env)/\Hid (CZ.map (·.1)=(l.take i).map (·.name))/\Hid (Hq CZ)/\Hid (CZ.length=i)) (λ_ y _=>l.length-(intOf y).toNat)
 case atStart=>exact⟨0,[],rfl,Az _,AC.o,AS.mt,A2.o,rfl,O Y2,rfl⟩
 case round=>
  obtain⟨i,CZ,rfl,hi,J,F,A2,An,U6,ZL⟩:=hrel;have AC:=O J;have Aq:=O F;obtain⟨Ab,Ac,rfl,Ak⟩:=AS.slice F;by_cases hlt:i<l.length
  .have dl:=Ar i l.length;obtain⟨c,hc⟩:=BQ l i hlt;have AK:l.drop i=c::l.drop (i+1):=by
    exact qy
   have G:=A2.o;rw[AK] at G;obtain⟨AP,AQ,AT,AU,d,AV,AW⟩:=WS G;have t:=O AP;have u:=O AQ;have z:=O AT;have Yw:=O AU;have Yv:=O AV;have vL:=O AW;obtain⟨g,AG,Ai⟩:=AC.o.ls.Ch (λ_ _ A=>D9.len A) i c hc;subst AG;have HC:=O hc;obtain⟨e,N,E,D⟩:=AC.o.ls.BT (λ_ _ A=>D9.len A) i c HC.o;obtain⟨f,rfl,C⟩:=E;obtain⟨x0,x1,x2,x3,Bk,r,s,q,rfl⟩:=C.BS;have I:=O C;obtain⟨H,Q,R,S,T,V,Z⟩:=KJ D;go_wp2_with fail;refine(av c.name _).mono ?_;unfold L3;rw[t.o];rintro AF AX ⟨rfl,rfl⟩;go_wp2_with fail;go_call Ts c.name _ u.o as AF AX ⟨rfl,rfl⟩;go_wp2_with fail;go_loopw [8] (λy n=>∃k:Nat,y=.int .i64 (k:Int)/\k<=i/\K2 B w n l (.slice g l.length K)/\CQ w n CZ (.slice Ab CZ.length Ac)) (λy _=>i-(intOf y).toNat)
   case atStart=>exact⟨0,rfl,Az _,AC.o,Aq.o⟩
   case round=>
    obtain⟨k,rfl,Ah,J,F⟩:=hrel;have AC:=O J;have Aq:=O F;obtain⟨e,N,E,D⟩:=AC.o.ls.BT (λ_ _ A=>D9.len A) i c HC.o;obtain⟨f,rfl,C⟩:=E;obtain⟨x0,x1,x2,x3,Bk,r,s,q,rfl⟩:=C.BS;have I:=O C;obtain⟨H,Q,R,S,T,V,Z⟩:=KJ D;by_cases AL:k<i
    .have AE:=Ar k i;obtain⟨L,M⟩:=BQ l k U;obtain⟨u2,_,AO,AJ⟩:=AC.o.ls.BT (λ_ _ A=>D9.len A) k L M;obtain⟨Al,rfl,_⟩:=AO;have P:=AJ 0 AD;simp only[Ci,A8] at P;have AM:=AFS An.o z.o AL M;have Ae:(L.name==c.name)=false:=by simpa using AM
     unfold AR at H P;exact YQ
    .obtain rfl:i=k:=U;have AE:decide ((i:Int)<(i:Int))=false:=AH;go_wp2_with fail;go_call ki _ w CZ _ VD U6.o c.body d _ _ Aq.o I.o Yw.o Yv.o as en w3 ⟨rfl,hb3⟩;replace AC:=O fp;replace Aq:=O (Aq.o.below hb3);obtain⟨e,N,E,D⟩:=AC.o.ls.BT (λ_ _ A=>D9.len A) i c HC.o;obtain⟨f,rfl,C⟩:=E;obtain⟨x0,x1,x2,x3,Bk,r,s,q,rfl⟩:=C.BS;have I:=O C;obtain⟨H,Q,R,S,T,V,Z⟩:=KJ D;obtain⟨us,GF,hown⟩:=Aq.o;have Aj:=AC.o.AJ.size;unfold AR at H;exact tn
  .exact sq
end
def AAJ(B:Nat)(x:Ah)(E:Env)(w:AA)(Ak Al Am An Ao:AB)(h:B5 B w x Ak Al Am An Ao)(BD:IF x=true)(F:eV x E):
 AI 108 #[.agg #[x.fr,x.mode,x.unit,Ak,Al,Am,An,Ao]] w (Yq w):=by
 have AP:=Sa BD;have BJ:=AP.l1;have BK:=AP.l2;have BE:=AP.l3;have BM:=AP.FK;have BN:=AP.TY;have A':E.length<=1000:=by
  have:=mM _ _ _ F.lets;simp at this;omega
 have A_:Hq E:=mN _ _ _ Y2 F.lets;obtain⟨AF,V,rfl,_⟩:=h.c1.slice;obtain⟨S,W,rfl,_⟩:=h.c2.slice;obtain⟨T,X,rfl,_⟩:=h.c3.slice;obtain⟨AG,Y,rfl,_⟩:=h.c4.slice;obtain⟨AJ,Z,rfl,_⟩:=h.c5.slice;have AC:=O (DA.new h);have R:=O F;have Ac:=O (λ(A6:AY) (A3:Int) (BI:AA) (Ai:AB) (AL:List AB) A9 h BB=>ABK (λg=>B<=g) w E Ai A' A_ A6 A3 BI AL A9 h BB);obtain⟨b0,b1,b2,b3,b4,b5,Bw,Bv,hbl⟩:=AC.o.blk.BF;go_in;go_wp2_with fail;go_call ABL B x.lets E _ _ AC.o.lists.c3 BE R.o.lets as en w1 ⟨Ai,rfl,G,hb1⟩;have BC:=AC.o.AJ.size;replace AC:=O Bg;have Aq:Hid (CQ w w1 E Ai):=AS.lower G BC BW;obtain⟨d,e,rfl,_⟩:=AS.slice G;go_wp2_with fail;go_loopw [5] (λD wr=>∃i:Nat,D=.int .i64 (i:Int)/\i<=x.Ae.length/\DA B w wr x w (.slice (AF) x.Ae.length V) (.slice S x.Ad.length W) (.slice T x.lets.length X) (.slice (AG) x.Ac.length Y) (.slice (AJ) x.red.length Z)/\CQ w wr E (.slice d E.length e)) (λD _=>x.Ae.length-(intOf D).toNat)
 case atStart=>exact⟨0,rfl,Az _,AC.o,Aq.o⟩
 case' round=>
  obtain⟨i,rfl,hi,I,G⟩:=hrel;have AC:=O I;have Aq:=O G;obtain⟨b0,b1,b2,b3,b4,b5,Bw,Bv,hbl⟩:=AC.o.blk.BF
 by_cases hlt:i<x.Ae.length
 .skip
  have dl:=Ar i x.Ae.length;obtain⟨c,L⟩:=BQ x.Ae i hlt;obtain⟨g,f,Ag⟩:=AC.o.lists.c1.Ch (λ_ _ q=>FX.len q) i c L;subst f;have H:=O L;go_wp2_with fail;go_loopw [6] (λD wr=>∃k:Nat,D=.int .i64 (k:Int)/\k<=i/\DA B w wr x w (.slice g x.Ae.length V) (.slice S x.Ad.length W) (.slice T x.lets.length X) (.slice (AG) x.Ac.length Y) (.slice (AJ) x.red.length Z)/\CQ w wr E (.slice d E.length e)) (λD _=>i-(intOf D).toNat)
  case atStart=>exact⟨0,rfl,Az _,AC.o,Aq.o⟩
  case' round=>
   obtain⟨k,rfl,Aj,I,G⟩:=hrel;have AC:=O I;have Aq:=O G;obtain⟨b0,b1,b2,b3,b4,b5,Bw,Bv,hbl⟩:=AC.o.blk.BF
  by_cases AO:k<i
  .have AM:=Ar k i;obtain⟨C,K⟩:∃C,x.Ae[k]? = some C:=⟨_,BL U⟩;obtain⟨AX,_,r,n⟩:=AC.o.lists.c1.BT (λ_ _ q=>FX.len q) k C K;obtain rfl:AX=[.int .i64 C.kind,.int .i64 C.limit]:=r;have s:=n 0 AD;simp only[Ci,A8] at s;have Af:(C.kind==c.kind)=false:=Aw.2 (R.o.Ae k i C c AO K H.o);obtain⟨Q,AK,J,A⟩:=AC.o.lists.c1.BT (λ_ _ q=>FX.len q) i c H.o;obtain rfl:Q=[.int .i64 c.kind,.int .i64 c.limit]:=J;obtain⟨M,P⟩:=QB A;exact YQ
  .obtain rfl:i=k:=U;have AM:decide ((i:Int)<(i:Int))=false:=AH;exact Pe
 .skip
  obtain rfl:i=x.Ae.length:=U;have dl:decide ((x.Ae.length:Int)<(x.Ae.length:Int))=false:=AH;go_wp2_with fail;go_loopw [7] (λD wr=>∃i:Nat,D=.int .i64 ((i:Int)+1)/\i<=x.Ad.length/\DA B w wr x w (.slice (AF) x.Ae.length V) (.slice S x.Ad.length W) (.slice T x.lets.length X) (.slice (AG) x.Ac.length Y) (.slice (AJ) x.red.length Z)/\CQ w wr E (.slice d E.length e)) (λD _=>x.Ad.length+1-(intOf D).toNat)
  case atStart=>exact⟨0,rfl,Az _,AC.o,Aq.o⟩
  case round=>
   obtain⟨i,rfl,hi,I,G⟩:=hrel;have AC:=O I;have Aq:=O G;obtain⟨b0,b1,b2,b3,b4,b5,Bw,Bv,hbl⟩:=AC.o.blk.BF;by_cases BA:i+1<x.Ad.length
   .have dl:=Ar ((i:Int)+1) x.Ad.length;obtain⟨c,L⟩:=BQ x.Ad (i+1) BA;obtain⟨C,K⟩:∃C,x.Ad[i]? = some C:=⟨_,BL U⟩;obtain⟨g,f,Ag⟩:=AC.o.lists.c2.Ch (λ_ _ q=>Fj.len q) i C K;subst f;have Af:decide (c.year<=C.year)=false:=DI (by have:=R.o.Ad i C c K L;omega);obtain⟨Q,AK,J,A⟩:=AC.o.lists.c2.BT (λ_ _ q=>Fj.len q) (i+1) c L;obtain rfl:Q=[.int .i64 c.year,.int .i64 c.f.n,.int .i64 c.f.d]:=J;obtain⟨AX,_,r,n⟩:=AC.o.lists.c2.BT (λ_ _ q=>Fj.len q) i C K;obtain rfl:AX=[.int .i64 C.year,.int .i64 C.f.n,.int .i64 C.f.d]:=r;have M:=A 0 AD;have s:=n 0 AD;simp only[Ci,A8] at M s;go_wp2_with fail;go_quiet (fail)
    have Hy:Below wr wr (wr.drewN nq):=Do DL _;go_wp2_with fail;go_roundw
    case rel=>exact⟨i+1,A7,U,AC.o.below Hy,Aq.o.below Hy⟩
    case measure=>exact A5
   .have dl:=A4 ((i:Int)+1) x.Ad.length;go_wp2_with fail;go_loopw [8] (λD wr=>∃i:Nat,D=.int .i64 (i:Int)/\i<=x.Ac.length/\DA B w wr x w (.slice (AF) x.Ae.length V) (.slice S x.Ad.length W) (.slice T x.lets.length X) (.slice (AG) x.Ac.length Y) (.slice (AJ) x.red.length Z)/\CQ w wr E (.slice d E.length e)) (λD _=>x.Ac.length-(intOf D).toNat)
    case atStart=>exact⟨0,rfl,Az _,AC.o,Aq.o⟩
    case' round=>
     obtain⟨i,rfl,hi,I,G⟩:=hrel;have AC:=O I;have Aq:=O G;obtain⟨b0,b1,b2,b3,b4,b5,Bw,Bv,hbl⟩:=AC.o.blk.BF
    by_cases hlt:i<x.Ac.length
    .skip
     have dl:=Ar i x.Ac.length;obtain⟨c,L⟩:=BQ x.Ac i hlt;obtain⟨g,f,Ag⟩:=AC.o.lists.c4.Ch (λ_ _ q=>D4.len q) i c L;subst f;have H:=O L;go_wp2_with fail;go_loopw [9] (λD wr=>∃k:Nat,D=.int .i64 (k:Int)/\k<=i/\DA B w wr x w (.slice (AF) x.Ae.length V) (.slice S x.Ad.length W) (.slice T x.lets.length X) (.slice g x.Ac.length Y) (.slice (AJ) x.red.length Z)/\CQ w wr E (.slice d E.length e)) (λD _=>i-(intOf D).toNat)
     case atStart=>exact⟨0,rfl,Az _,AC.o,Aq.o⟩
     case' round=>
      obtain⟨k,rfl,Aj,I,G⟩:=hrel;have AC:=O I;have Aq:=O G;obtain⟨b0,b1,b2,b3,b4,b5,Bw,Bv,hbl⟩:=AC.o.blk.BF
     by_cases AO:k<i
     .have AM:=Ar k i;obtain⟨C,K⟩:∃C,x.Ac[k]? = some C:=⟨_,BL U⟩;obtain⟨AX,_,r,n⟩:=AC.o.lists.c4.BT (λ_ _ q=>D4.len q) k C K;obtain⟨BH,BP,rfl,_,_⟩:=r;have s:=n 0 AD;simp only[Ci,A8] at s;have Af:(C.CN==c.CN)=false:=Aw.2 (R.o.Ac k i C c AO K H.o);obtain⟨Q,AK,J,A⟩:=AC.o.lists.c4.BT (λ_ _ q=>D4.len q) i c H.o;obtain⟨AL,Ap,rfl,F,N⟩:=J;obtain⟨x0,x1,x2,x3,Bk,Aa,Ab,AZ,rfl⟩:=F.BS;obtain⟨As,At,Au,Av,Ax,A0,A1,Ay,rfl⟩:=N.BS;have AE:=O F;have Ad:=O N;have M:=A 0 AD;have P:=A 1 AD;have t:=A 2 AD;have u:=A 3 AD;have v:=A 4 AD;have y:=A 5 AD;have z:=A 6 AD;have AU:=A 7 AD;have AV:=A 8 AD;have AW:=A 9 AD;have AQ:=A 10 AD;have AR:=A 11 AD;have AT:=A 12 AD;simp only[Ci,DC,Dg,A8,Bt] at M P t u v y z AU AV AW AQ AR AT;exact YQ
     .obtain rfl:i=k:=U;have AM:decide ((i:Int)<(i:Int))=false:=AH;obtain⟨BF,BG⟩:=R.o.nP c (Bu H.o);have Ae:=O BF;have A2:=O BG;obtain⟨Q,AK,J,A⟩:=AC.o.lists.c4.BT (λ_ _ q=>D4.len q) i c H.o;obtain⟨AL,Ap,rfl,F,N⟩:=J;obtain⟨x0,x1,x2,x3,Bk,Aa,Ab,AZ,rfl⟩:=F.BS;obtain⟨As,At,Au,Av,Ax,A0,A1,Ay,rfl⟩:=N.BS;have AE:=O F;have Ad:=O N;have M:=A 0 AD;have P:=A 1 AD;have t:=A 2 AD;have u:=A 3 AD;have v:=A 4 AD;have y:=A 5 AD;have z:=A 6 AD;have AU:=A 7 AD;have AV:=A 8 AD;have AW:=A 9 AD;have AQ:=A 10 AD;have AR:=A 11 AD;have AT:=A 12 AD;simp only[Ci,DC,Dg,A8,Bt] at M P t u v y z AU AV AW AQ AR AT;go_wp2_with fail;go_call Ac.o c.cond 1 _ _ _ Aq.o AE.o Ae.o as en w4 ⟨rfl,hb1⟩;replace AC:=O Bg;replace Aq:=O Ik;obtain⟨b0,b1,b2,b3,b4,b5,Bw,Bv,hbl⟩:=AC.o.blk.BF;obtain⟨Q,AK,J,A⟩:=AC.o.lists.c4.BT (λ_ _ q=>D4.len q) i c H.o;obtain⟨AL,Ap,rfl,F,N⟩:=J;obtain⟨x0,x1,x2,x3,Bk,Aa,Ab,AZ,rfl⟩:=F.BS;obtain⟨As,At,Au,Av,Ax,A0,A1,Ay,rfl⟩:=N.BS;have AE:=O F;have Ad:=O N;have M:=A 0 AD;have P:=A 1 AD;have t:=A 2 AD;have u:=A 3 AD;have v:=A 4 AD;have y:=A 5 AD;have z:=A 6 AD;have AU:=A 7 AD;have AV:=A 8 AD;have AW:=A 9 AD;have AQ:=A 10 AD;have AR:=A 11 AD;have AT:=A 12 AD;simp only[Ci,DC,Dg,A8,Bt] at M P t u v y z AU AV AW AQ AR AT;go_wp2_with fail;go_call Ac.o c.pay 4 _ _ _ Aq.o Ad.o A2.o as en BO ⟨rfl,hb1⟩;replace AC:=O Bg;replace Aq:=O Ik;exact Pe
    .skip
     obtain rfl:i=x.Ac.length:=U;have dl:decide ((x.Ac.length:Int)<(x.Ac.length:Int))=false:=AH;go_wp2_with fail;go_loopw [12] (λD wr=>∃i:Nat,D=.int .i64 (i:Int)/\i<=x.red.length/\DA B w wr x w (.slice (AF) x.Ae.length V) (.slice S x.Ad.length W) (.slice T x.lets.length X) (.slice (AG) x.Ac.length Y) (.slice (AJ) x.red.length Z)/\CQ w wr E (.slice d E.length e)) (λD _=>x.red.length-(intOf D).toNat)
     case atStart=>exact⟨0,rfl,Az _,AC.o,Aq.o⟩
     case' round=>
      obtain⟨i,rfl,hi,I,G⟩:=hrel;have AC:=O I;have Aq:=O G;obtain⟨b0,b1,b2,b3,b4,b5,Bw,Bv,hbl⟩:=AC.o.blk.BF
     by_cases hlt:i<x.red.length
     .skip
      have dl:=Ar i x.red.length;obtain⟨c,L⟩:=BQ x.red i hlt;obtain⟨g,f,Ag⟩:=AC.o.lists.c5.Ch (λ_ _ q=>EO.len q) i c L;subst f;have H:=O L;go_wp2_with fail;go_loopw [13] (λD wr=>∃k:Nat,D=.int .i64 (k:Int)/\k<=i/\DA B w wr x w (.slice (AF) x.Ae.length V) (.slice S x.Ad.length W) (.slice T x.lets.length X) (.slice (AG) x.Ac.length Y) (.slice g x.red.length Z)/\CQ w wr E (.slice d E.length e)) (λD _=>i-(intOf D).toNat)
      case atStart=>exact⟨0,rfl,Az _,AC.o,Aq.o⟩
      case' round=>
       obtain⟨k,rfl,Aj,I,G⟩:=hrel;have AC:=O I;have Aq:=O G;obtain⟨b0,b1,b2,b3,b4,b5,Bw,Bv,hbl⟩:=AC.o.blk.BF
      by_cases AO:k<i
      .have AM:=Ar k i;obtain⟨C,K⟩:∃C,x.red[k]? = some C:=⟨_,BL U⟩;obtain⟨AX,_,r,n⟩:=AC.o.lists.c5.BT (λ_ _ q=>EO.len q) k C K;obtain⟨BH,rfl,_⟩:=r;have s:=n 0 AD;simp only[Ci,A8] at s;have Af:(C.CN==c.CN)=false:=Aw.2 (R.o.red k i C c AO K H.o);obtain⟨Q,AK,J,A⟩:=AC.o.lists.c5.BT (λ_ _ q=>EO.len q) i c H.o;obtain⟨AL,rfl,F⟩:=J;obtain⟨x0,x1,x2,x3,Bk,Aa,Ab,AZ,rfl⟩:=F.BS;have AE:=O F;obtain⟨M,P,t,u,v,y,z⟩:=KJ A;exact YQ
      .obtain rfl:i=k:=U;have AM:decide ((i:Int)<(i:Int))=false:=AH;have Ae:=O (R.o.kT c (Bu H.o));obtain⟨Q,AK,J,A⟩:=AC.o.lists.c5.BT (λ_ _ q=>EO.len q) i c H.o;obtain⟨AL,rfl,F⟩:=J;obtain⟨x0,x1,x2,x3,Bk,Aa,Ab,AZ,rfl⟩:=F.BS;have AE:=O F;obtain⟨M,P,t,u,v,y,z⟩:=KJ A;go_wp2_with fail;go_call Ac.o c.H5 2 _ _ _ Aq.o AE.o Ae.o as en w4 ⟨rfl,hb1⟩;replace AC:=O Bg;replace Aq:=O Ik;exact Pe
     .exact YS
def bQ(l:AE)(v:EP)(A:Int)(w:AA)(E:Cl w)(F:l.length<=100)(h:Ff l=some (v,A)):
 AI 349 #[.string ⟨l.toArray⟩] w (um v A w):=by
 unfold Ff at h;split at h
 .rename_i B C D hp;simp only[CW,Hg] at h;obtain⟨rfl,rfl⟩:=h;exact AEF ⟨l.toArray⟩ B C D w E (by show l.toArray.size<=100;simpa using F) P6
 .cases h
def oE{d:Nat}(h:d<10):BG d=[UInt8.ofNat (48+d)]:=by
 unfold BG;rw[show(20:Nat)=19+1 from rfl,Dm,Ab U]
def LP(q r d k:Nat):AE:=BG q++(if k=0 then [] else 46::I2 r d k)
def lQ(q r d:Nat):LP q r d 0=BG q:=by simp[LP]
def AEO(q r d:Nat):LP q r d 1=(BG q++[46])++[UInt8.ofNat (48+H3 r d 0)]:=by
 simp[LP,XT];simp[I2]
def AEN(q r d k:Nat)(A:k≠0):LP q r d (k+1)=LP q r d k++[UInt8.ofNat (48+H3 r d k)]:=by
 simp[LP,XT,A]
def lR(q r d k:Nat)(B:(BG q).length<=9)(A:k<=4):(LP q r d k).length<=14:=by
 unfold LP;rw[Cp];split
 .simp;omega
 .rw[CB,oB];omega
def lI(v:EP)(J:Int)(w:AA)(r:Cl w)(h:Ej v J=true):
 AI 305 #[.agg #[v.n,v.d],J] w (ZY w):=by
 obtain⟨B,A,rfl,AW⟩:=cx h;obtain⟨W,Ai,Aj,f4,n,AT,AU,_,o⟩:=AW;show AI 305 #[.agg #[B,A],J] w (ZY w);have AO:=A4 A 1;have AP:=A4 10000 A;have AQ:=A4 B 0;have AR:=A4 1000000000000000 B;have Af:((A:Int)==0)=false:=Aw.2 U;have Tx:(B:Int) / (A:Int)=((B / A:Nat):Int):=AH;have y:(B:Int)%(A:Int)=((B%A:Nat):Int):=AH;have Al:B / A<=999999999:=f4;have AY:0<=(B:Int) / (A:Int):=wk;have AZ:(B:Int) / (A:Int)<=999999999:=wL;have i:=O Tx;have j:=O y;have Aa:B%A<A:=Mi _ W;have l:=O (λC (Q:IL (B%A) A C=0) (h4:C<=4)=>AHs B A C J W o f4 ⟨AT,AU⟩ Q h4);have g:=O (n_ (B / A) f4).1.hi;have AJ:=O (kH (B%A) A Aa);have AL:=O (λAb AX=>ABf (B%A) A Ab n AX);have AC:=O (show FQ w (w.alloc (.cells #[B,A] 119)) (B:Int) (A:Int) from ⟨(AN _ _).alloc AK _,AG.new w _ _⟩);have K:=O r;clear h r f4 n o Tx y;go_in;go_wp2_with fail;rw[i.o];refine(cP (B / A) _ (K.o.after AC.o.AJ) U).mono ?_;rintro N At ⟨rfl,hb1⟩;replace AC:=O Bg;clear hb1 AO AP AQ AR AY AZ;obtain⟨G,H,F⟩:=AC.o.blk.y2;go_wp2_with fail;rw[j.o];clear G H F;generalize x:B%A=E at *;generalize u:B / A=e at *;have AF:=O x;have AD:=O u;clear x u i j;go_loopw [6,7,8] (λAc Ad f wr=>∃(t:AE) (C D:Nat),Ac=.string ⟨t.toArray⟩/\Ad=.int .i64 (D:Int)/\f=.int .i64 (C:Int)/\C<=4/\Hid (t=LP e E A C)/\Hid (D=IL E A C)/\FQ w wr (B:Int) (A:Int)) (λ_ _ f _=>(5-intOf f).toNat)
 case atStart=>exact⟨_,0,E,rfl,rfl,rfl,U,(lQ _ _ _).symm,AJ.o.symm,AC.o⟩
 case round=>
  clear AC;obtain⟨t,C,D,rfl,rfl,rfl,Q,M,L,z⟩:=hrel;have AC:=O z;obtain⟨G,H,F⟩:=AC.o.blk.y2;clear z;have As:t.length<=14:=by rw[M.o];exact lR e E A C g.o Q
  have Aq:D<A:=by rw[L.o];exact kI _ _ _ W
  by_cases AV:0<D
  .have Ak:C<4:=by
    rcases Fg C 4 with h|h
    .exact h
    .have:=AL.o C h;have:=L.o;omega
   have Ag:=Ar 0 D;have Ah:((C:Int)==4)=false:=Aw.2 U;have q:H3 E A C<10:=dT _ _ _ W;have AB:=O (show H3 E A C=D*10 / A by unfold H3;rw[<-L.o]);have k:=O (show IL E A (C+1)=D*10%A by rw[ABe,<-L.o]);have T:=O (show((D:Int)*10) / (A:Int)=((H3 E A C:Nat):Int) by rw[AB.o];simp);have V:=O (show((D:Int)*10)%(A:Int)=((D*10%A:Nat):Int) by simp);have S:=O q;have Am:0<=((D:Int)*10) / (A:Int):=by rw[T.o];exact Kp _
   have An:((D:Int)*10) / (A:Int)<=9:=by rw[T.o];omega
   have Ao:0<=((D:Int)*10)%(A:Int):=by rw[V.o];exact Kp _
   have Ap:((D:Int)*10)%(A:Int)<=10000:=by rw[V.o];have:=Mi (D*10) (show 0<A by omega);omega
   clear q;by_cases X:C=0
   .have AS:((C:Int)==0)=true:=AM;go_wp2_with fail;rw[T.o];refine(cP (H3 E A C) _ (K.o.after AC.o.AJ) (by have:=S.o;omega)).mono ?_;rw[oE S.o];generalize P:UInt8.ofNat (48+H3 E A C)=c;have Z:=O P;clear P;rintro N Y ⟨rfl,hb2⟩;replace AC:=O K1;clear hb2 G H F;obtain⟨G,H,F⟩:=AC.o.blk.y2;rw[GV];go_wp2_with fail;go_roundw
    case rel=>
     refine⟨(t++[46])++[c],1,D*10%A,by rw[GV],by rw[V.o],rfl,U,?_,?_,AC.o⟩
     .show _=_;rw[M.o,X,lQ,AEO,<-Z.o,X]
     .show _=_;rw[<-k.o,X]
    case measure=>exact A5
   .have AS:((C:Int)==0)=false:=Aw.2 U;go_wp2_with fail;rw[T.o];refine(cP (H3 E A C) _ (K.o.after AC.o.AJ) (by have:=S.o;omega)).mono ?_;rw[oE S.o];generalize P:UInt8.ofNat (48+H3 E A C)=c;have Z:=O P;clear P;rintro N Y ⟨rfl,hb2⟩;replace AC:=O K1;clear hb2 G H F;obtain⟨G,H,F⟩:=AC.o.blk.y2;go_wp2_with fail;go_roundw
    case rel=>
     refine⟨t++[c],C+1,D*10%A,by rw[GV],by rw[V.o],A7,U,?_,?_,AC.o⟩
     .show _=_;rw[M.o,AEN _ _ _ _ X,<-Z.o]
     .exact k.o.symm
    case measure=>exact A5
  .obtain rfl:D=0:=U;have m:=O (l.o C L.o.symm Q);have s:=lR e E A C g.o Q;clear AV;have I:Hid (Ff (t++QN J)=some (⟨(B:Int),(A:Int)⟩,J)):=by
    have d:=m.o;unfold Sc UH at d;rw[AD.o,AF.o] at d;show _=_;rw[M.o];exact d
   have Ae:t.length<=14:=by rw[M.o];exact s
   clear m l s;rcases (show J=2\/J=3\/J=4 by omega) with rfl|rfl|rfl
   .replace I:=O (show Ff t=some (⟨(B:Int),(A:Int)⟩,2) by have:=I.o;rwa [show QN 2=[] from rfl,El] at this);go_wp2_with fail;refine(bQ (t) ⟨(B:Int),(A:Int)⟩ 2 _ (K.o.after AC.o.AJ) iH I.o).mono ?_;rintro N Y ⟨rfl,hb2⟩;replace AC:=O K1;clear hb2 G H F;obtain⟨G,H,F⟩:=AC.o.blk.y2;have R:=AC.o.AJ.size;go_wp2_with fail;go_ret2;exact⟨t,rfl,AC.o.AJ.alloc R _⟩
   .replace I:=O (show Ff (t++[100])=some (⟨(B:Int),(A:Int)⟩,3) from I.o);go_wp2_with fail;rw[GV];refine(bQ (t++[100]) ⟨(B:Int),(A:Int)⟩ 3 _ (K.o.after AC.o.AJ) iH I.o).mono ?_;rintro N Y ⟨rfl,hb2⟩;replace AC:=O K1;clear hb2 G H F;obtain⟨G,H,F⟩:=AC.o.blk.y2;have R:=AC.o.AJ.size;go_wp2_with fail;go_ret2;exact⟨t++[100],rfl,AC.o.AJ.alloc R _⟩
   .replace I:=O (show Ff (t++[109])=some (⟨(B:Int),(A:Int)⟩,4) from I.o);go_wp2_with fail;rw[GV];refine(bQ (t++[109]) ⟨(B:Int),(A:Int)⟩ 4 _ (K.o.after AC.o.AJ) iH I.o).mono ?_;rintro N Y ⟨rfl,hb2⟩;replace AC:=O K1;clear hb2 G H F;obtain⟨G,H,F⟩:=AC.o.blk.y2;have R:=AC.o.AJ.size;go_wp2_with fail;go_ret2;exact⟨t++[109],rfl,AC.o.AJ.alloc R _⟩
def AG6(c:UInt8)(h:HY c=true)(w:AA):AI 302 #[.int .u8 (c.toNat:Int)] w (BX (.bool true) w):=by
 (iterate 70 have:=Az c.toNat);rcases mi h with A|⟨A,B⟩|⟨A,B,C⟩
 .have A2:=O A;have HG:=O (show CD c=CD c from rfl);clear A h;exact fC
 .have A2:=O A;have HG:=O B;clear A B h;exact fC
 .have A2:=O A;have HG:=O B;have D:((c.toNat:Int)==95)=true:=AM;clear A B h C;exact fC
def ADx(l:AE)(w:AA)(h:SW l=true):AI 222 #[.string ⟨l.toArray⟩] w (BX (.bool true) w):=by
 obtain⟨P,N,J,G⟩:=iq h;have D:=O G;have K:=A4 l.length 1;have L:=A4 12 l.length;have M:=Ar 0 l.length;have A:(ByteArray.mk l.toArray)[0]'(by show 0<l.toArray.size;simp;omega)=l[0]' U:=rfl;have C:=J U;rw[<-A] at C;have E:=O C;go_in;go_wp2_with (go_at_call 301;refine(lB _ _ E.o _).mono ?_;rintro e w' ⟨rfl,rfl⟩)
 go_loop [3] (λB=>∃i:Nat,i<=l.length/\B=.int .i64 (i:Int)) (λB=>l.length-(intOf B).toNat)
 case atStart=>exact⟨0,Az _,rfl⟩
 case round=>
  obtain⟨i,Q,rfl⟩:=hrel;by_cases hlt:i<l.length
  .have H:decide ((i:Int)<(l.length:Int))=true:=AM;have I:decide (i<l.length)=true:=AM;have A:(ByteArray.mk l.toArray)[i]' Zt=l[i]:=rfl;have hw:=D.o i hlt;rw[<-A] at hw;have F:=O hw;go_wp2_with (go_at_call 302;refine(AG6 _ F.o _).mono ?_;rintro e w' ⟨rfl,rfl⟩)
   exact qB
  .have H:decide ((i:Int)<(l.length:Int))=false:=AM;have I:decide (i<l.length)=false:=AM;go_wp2;exact H7
def ADt(l:AE)(w:AA)(h:Oz l=false):AI 223 #[.string ⟨l.toArray⟩] w (BX (.bool false) w):=by
 exact uJ
def bI(l:AE)(w:AA)(h:FJ l=true):AI 161 #[.string ⟨l.toArray⟩] w (BX (.bool true) w):=by
 unfold FJ at h;rw[At] at h;have A:=O h.1;have B:=O (show Oz l=false by simpa using h.2);go_in;go_wp2_with (first
  | (go_at_call 222;refine(ADx l _ A.o).mono ?_;rintro e w' ⟨rfl,rfl⟩)
  | (go_at_call 223;refine(ADt l _ B.o).mono ?_;rintro e w' ⟨rfl,rfl⟩))
 exact H7
def Xh(op:Int)(n:Nat)(h:LE op n)(w:AA):AI 371 #[op] w λC D=>C=.returned n/\w=D:=by
 rcases h with ⟨A,B,rfl⟩|⟨A,B,rfl⟩|⟨A,B,rfl⟩|⟨A,rfl⟩
 .rcases (show op=1\/op=2\/op=3 by omega) with rfl|rfl|rfl<;>
  .exact FA
 .rcases (show op=4\/op=5\/op=6 by omega) with rfl|rfl|rfl<;>
  .exact FA
 .have E:decide (7<=op)=true:=CA A;have F:decide (op<=20)=true:=CA B;have G:(op==1)=false:=Aw.2 U;have H:(op==2)=false:=Aw.2 U;have I:(op==3)=false:=Aw.2 U;have J:(op==4)=false:=Aw.2 U;have K:(op==5)=false:=Aw.2 U;have L:(op==6)=false:=Aw.2 U;exact FA
 .subst A;exact FA
def ADb(P:Nat->Prop)(x:EP)(d:Int)(w:AA)(C:List AB)(I:Cl w)(h:Ai P w (.lit x d) C)(H:Ej x d=true):
 AI 350 #[.agg C.toArray] w (Ca true w):=by
 have E:=O I;obtain⟨A,c,K,o,L,rfl,_⟩:=h.inv;have AC:=O (Bd.new h);have D:=O (λw=>Xh 1 0 SK w);change Hid (Bd P w (w.alloc (.cells [.int .i64 1,.int .i64 x.n,.int .i64 x.d,.int .i64 d,.string ⟨([]:AE).toArray⟩,.slice A 0 c].toArray 213)) (AY.lit x d) w [.int .i64 1,.int .i64 x.n,.int .i64 x.d,.int .i64 d,.string ⟨([]:AE).toArray⟩,.slice A 0 c]) at AC
 show AI 350 #[.agg #[.int .i64 1,x.n,x.d,d,.string ⟨([]:AE).toArray⟩,.slice A 0 c]] w (Ca true w);obtain⟨b0,b1,b2,b3,b4,b5,hbl⟩:=AC.o.blk.y6;go_in;go_wp2_with fail;refine EZ ?_;repeat (go_big_quiet_step ((go_at_call 371;exact EN (D.o _))))
 refine Cj ?_;rintro M ⟨⟨N,G⟩,J⟩;subst J;refine Bn (λB=>Bd P w B (AY.lit x d) w [.int .i64 1,.int .i64 x.n,.int .i64 x.d,.int .i64 d,.string ⟨([]:AE).toArray⟩,.slice A 0 c]) (AC.o.below G) ?_;intro B F;have AC:=O F;obtain⟨b0,b1,b2,b3,b4,b5,hbl⟩:=AC.o.blk.y6;go_wp2_with fail;refine(lI x d _ (E.o.after AC.o.AJ) H).mono ?_;exact sD
def ADa(P:Nat->Prop)(s:AE)(w:AA)(C:List AB)(h:Ai P w (.name s) C)(N:FJ s=true):
 AI 350 #[.agg C.toArray] w (Ca true w):=by
 obtain⟨A,c,S,o,T,rfl,_⟩:=h.inv;have AC:=O (Bd.new h);have D:=O (λw=>Xh 2 0 SK w);change Hid (Bd P w (w.alloc (.cells [.int .i64 2,.int .i64 0,.int .i64 0,.int .i64 0,.string ⟨s.toArray⟩,.slice A 0 c].toArray 213)) (AY.name s) w [.int .i64 2,.int .i64 0,.int .i64 0,.int .i64 0,.string ⟨s.toArray⟩,.slice A 0 c]) at AC
 show AI 350 #[.agg #[.int .i64 2,(),(),(),.string ⟨s.toArray⟩,.slice A 0 c]] w (Ca true w);obtain⟨E,F,G,H,I,J,M⟩:=AC.o.blk.y6;go_in;go_wp2_with fail;refine EZ ?_;repeat (go_big_quiet_step ((go_at_call 371;exact EN (D.o _))))
 refine Cj ?_;rintro V ⟨⟨W,L⟩,Q⟩;subst Q;refine Bn (λB=>Bd P w B (AY.name s) w [.int .i64 2,.int .i64 0,.int .i64 0,.int .i64 0,.string ⟨s.toArray⟩,.slice A 0 c]) (AC.o.below L) ?_;intro B K;have AC:=O K;obtain⟨E,F,G,H,I,J,M⟩:=AC.o.blk.y6;go_wp2_with (go_at_call 161;refine(bI s _ N).mono ?_;rintro R U ⟨rfl,rfl⟩)
 exact Xp
def ADc(P:Nat->Prop)(n:Int)(w:AA)(N:List AB)(h:Ai P w (.EY n) N)(M:1<=n/\n<=45):
 AI 350 #[.agg N.toArray] w (Ca true w):=by
 have W:decide (1<=n)=true:=CA M.1;have X:decide (n<=45)=true:=CA M.2;obtain⟨B,c,S,o,T,rfl,_⟩:=h.inv;have A:=O (Bd.new h);have Q:=O (λw=>Xh 3 0 SK w);change Hid (Bd P w (w.alloc (.cells [.int .i64 3,.int .i64 n,.int .i64 1,.int .i64 0,.string ⟨([]:AE).toArray⟩,.slice B 0 c].toArray 213)) (AY.EY n) w [.int .i64 3,.int .i64 n,.int .i64 1,.int .i64 0,.string ⟨([]:AE).toArray⟩,.slice B 0 c]) at A
 clear h;show AI 350 #[.agg #[.int .i64 3,n,.int .i64 1,(),.string ⟨([]:AE).toArray⟩,.slice B 0 c]] w (Ca true w);obtain⟨D,E,F,G,H,I,L⟩:=A.o.blk.y6;go_in;go_wp2_with fail;refine xm AF AF ?_;repeat (go_big_quiet_step ((go_at_call 371;exact EN (Q.o _))))
 refine Cj ?_;rintro U ⟨⟨V,K⟩,R⟩;subst R;refine Bn (λC=>Bd P w C (AY.EY n) w [.int .i64 3,.int .i64 n,.int .i64 1,.int .i64 0,.string ⟨([]:AE).toArray⟩,.slice B 0 c]) (A.o.below K) ?_;clear A D E F G H I L K;intro C J;have A:=O J;clear J;obtain⟨D,E,F,G,H,I,L⟩:=A.o.blk.y6;go_wp2_with fail;go_ret;exact⟨rfl,A.o.AJ⟩
def ADZ(P:Nat->Prop)(e:AY)(w:AA)(D:List AB)(h:Ai P w e D)(B:e.DG=true)(F:4<=e.op):
 AI 350 #[.agg D.toArray] w (Ca true w):=by
 have G:=e.Xm B;obtain⟨A,c,K,L,M,C,_⟩:=h.inv;rw[e.Wz B F] at C;have E:=O (λw=>Xh e.op e.kids.length G w);subst C;have AC:=O (Bd.new h);change Hid (Bd P w (w.alloc (.cells [.int .i64 e.op,.int .i64 0,.int .i64 0,.int .i64 0,.string ⟨([]:AE).toArray⟩,.slice A e.kids.length c].toArray 213)) e w [.int .i64 e.op,.int .i64 0,.int .i64 0,.int .i64 0,.string ⟨([]:AE).toArray⟩,.slice A e.kids.length c]) at AC
 show AI 350 #[.agg #[e.op,(),(),(),.string ⟨([]:AE).toArray⟩,.slice A e.kids.length c]] w (Ca true w);have R:(e.op==1)=false:=Aw.2 U;have S:(e.op==2)=false:=Aw.2 U;have T:(e.op==3)=false:=Aw.2 U;generalize e.op=J at *;generalize e.kids.length=I at *;obtain⟨b0,b1,b2,b3,b4,b5,hbl⟩:=AC.o.blk.y6;go_in;go_wp2_with fail;refine EZ ?_;repeat (go_big_quiet_step ((go_at_call 371;exact EN (E.o _))))
 refine Cj ?_;rintro N ⟨⟨Q,hb3⟩,H⟩;subst H;refine Bn (λX=>Bd P w X e w [.int .i64 J,.int .i64 0,.int .i64 0,.int .i64 0,.string ⟨([]:AE).toArray⟩,.slice A I c]) (AC.o.below hb3) ?_;exact sd
def ADd(P:Nat->Prop)(e:AY)(w:AA)(B:List AB)(F:Cl w)(C:Ai P w e B)(A:e.DG=true):AI 350 #[.agg B.toArray] w (Ca true w):=by
 rcases e.XZ A with ⟨I,D,rfl⟩|⟨H,rfl⟩|⟨G,rfl⟩|E
 .exact ADb P I D w B F C A
 .exact ADa P H w B C A
 .simp only[AY.DG,At,CJ] at A;exact ADc P G w B C A
 .exact ADZ P e w B C A E
def AGt(P:Nat->Prop)(e:AY)(B:∀k∈e.kids,∀W us,Cl W->Ai P W k us->AI 352 #[.agg us.toArray] W (Ca false W))(w:AA)(op J K L:Int)(M:AE)(a:BH)(n c:Nat)
 (F:n=e.kids.length)(E:Cl w)(h:Ai P w e [.int .i64 op,.int .i64 J,.int .i64 K,.int .i64 L,AR M,.slice a n c]):
 AI 372 #[.slice a n c,.func (.func 352) #[] #[]] w (Rt (-1) w):=by
 have Q:=O B;have N:=O E;have A:=O h;have S:=O F;have q:n<=3:=by rw[F];exact e.Qo
 clear B E h F;go_in;go_wp2_with fail;go_loopw [8] (λG wr=>∃i:Nat,G=.int .i64 (i:Int)/\i<=n/\Ai P wr e [.int .i64 op,.int .i64 J,.int .i64 K,.int .i64 L,AR M,.slice a n c]/\Below w w wr) (λG _=>n-(intOf G).toNat)
 case atStart=>exact⟨0,rfl,Az _,A.o,AN _ _⟩
 case round=>
  clear A;obtain⟨i,rfl,m,I,C⟩:=hrel;have A:=O I;clear I;by_cases U:i<n
  .obtain⟨k,B⟩:=BQ e.kids i (by rw[<-S.out];exact U);obtain⟨j,o,s,t,u,v,y,AB,AC,z,rfl,-,r,E,H,V,X,Y,Z,d,f⟩:=A.o.MW rfl i k B;have dl:=Ar i n;have T:=O H;have R:=O (Bu B);clear H B;go_wp2_with fail;refine(Q.o k R.o _ _ (N.o.after C) T.o).mono ?_;rintro g AD ⟨rfl,D⟩;replace A:=O (A.o.stay D);replace C:=AW C D;clear V X Y Z d f D;go_wp2_with fail;go_roundw
   case rel=>exact⟨i+1,by go_num,by omega,A.o,C⟩
   case measure=>exact A5
  .obtain rfl:i=n:=by omega
   have dl:decide ((i:Int)<(i:Int))=false:=AH;go_wp2_with fail;go_ret;exact⟨rfl,C⟩
def AJ_(P:Nat->Prop)(e:AY)(B:∀k∈e.kids,∀W us,Cl W->Ai P W k us->AI 352 #[.agg us.toArray] W (Ca false W))(w:AA)(op D E F:Int)(G:AE)(a:BH)(n c:Nat)
 (C:n=e.kids.length)(A:Cl w)(h:Ai P w e [.int .i64 op,.int .i64 D,.int .i64 E,.int .i64 F,AR G,.slice a n c]):
 AI 351 #[.slice a n c,.func (.func 352) #[] #[]] w (Ca false w):=by
 have H:=O (AGt P e B w op D E F G a n c C A h);clear B C A h;go_in;go_wp2_with fail;refine(H.o).mono ?_;exact ee
def AHr{P:Nat->Prop}{k:AY}(D:∀W us,Cl W->Ai P W k us->AI 309 #[.agg us.toArray] W (Ca true W))(W:AA)(us:List AB)(C:Cl W)(h:Ai P W k us):AI 352 #[.agg us.toArray] W (Ca false W):=by
 have B:=O D;have A:=O C;obtain⟨E,F,G,H,I,K,L,J,rfl⟩:=h.BS;have AC:=O (Bd.new h);obtain⟨b0,b1,b2,b3,b4,b5,hbl⟩:=AC.o.blk.y6;go_in;go_wp2_with fail;go_call B.o _ _ (A.o.after AC.o.AJ) AC.o.tree as en w1 ⟨rfl,hb1⟩;exact UQ
def AD'(P:Nat->Prop):∀(e:AY) (w:AA) (M:List AB),Cl w->Ai P w e M->e.DG=true->AI 309 #[.agg M.toArray] w (Ca true w):=by
 refine AY.MV ?_;intro e R w M A h N;have U:=O (λL (S:L∈e.kids) B C (A:Cl B) (h:Ai P B L C)=>AHr (λB C A h=>R L S B C A h (e.WX N L S)) B C A h);have V:=O (λB C A h=>ADd P e B C A h N);have Q:=O A;have T:∀E F G H I K D J,M=[.int .i64 E,.int .i64 F,.int .i64 G,.int .i64 H,AR I,.slice K D J]->Hid (D=e.kids.length):=by
  intro E F G H I K D J b;obtain⟨X,Y,c,o,C,h1,_⟩:=h.inv;obtain⟨g,i,j,k,a⟩:=e.RK (.slice X e.kids.length Y);rw[a,b] at h1;exact rV
 obtain⟨E,F,G,H,I,K,D,J,rfl⟩:=h.BS;have W:=T E F G H I K D J rfl;have AC:=O (Bd.new h);clear h T A R N;obtain⟨b0,b1,b2,b3,b4,b5,hbl⟩:=AC.o.blk.y6;go_in;go_wp2_with fail;refine(V.o _ _ (Q.o.after AC.o.AJ) AC.o.tree).mono ?_;rintro Z d ⟨rfl,hb1⟩;replace AC:=O Bg;clear b0 b1 b2 b3 b4 b5 hbl hb1;obtain⟨b0,b1,b2,b3,b4,b5,hbl⟩:=AC.o.blk.y6;go_wp2_with fail;refine(AJ_ P e U.o _ E F G H I K D J W.o (Q.o.after AC.o.AJ) AC.o.tree).mono ?_;rintro Z f ⟨rfl,hb1⟩;exact UQ
def Qa(P:Nat->Prop)(e:AY)(w:AA)(A:List AB)(C:Cl w)(h:Ai P w e A)(D:e.BY=true):
 AI 228 #[.agg A.toArray] w (Ca true w):=by
 unfold AY.BY at D;simp only[At,CJ] at D;obtain⟨⟨I,J⟩,K⟩:=D;have E:=O (λw A B=>AAG P e w A B (Ap I AD));have H:=O (λw A B=>zb P e w A B (Ap J AD));have F:=O (λw A C B=>AD' P e w A C B K);have G:=O C;obtain⟨R,S,T,U,V,X,Y,W,rfl⟩:=h.BS;have AC:=O (Bd.new h);have L:=LC e.depth 10;have M:=LC e.size 60;generalize e.depth=N at *;generalize e.size=Q at *;obtain⟨b0,b1,b2,b3,b4,b5,hbl⟩:=AC.o.blk.y6;go_in;go_wp2_with fail;go_call E.o _ _ AC.o.tree as en w1 ⟨rfl,hb1⟩;replace AC:=O Bg;obtain⟨b0,b1,b2,b3,b4,b5,hbl⟩:=AC.o.blk.y6;go_wp2_with fail;go_call H.o _ _ AC.o.tree as en w2 ⟨rfl,hb1⟩;replace AC:=O Bg;obtain⟨b0,b1,b2,b3,b4,b5,hbl⟩:=AC.o.blk.y6;go_wp2_with fail;go_call F.o _ _ (G.o.after AC.o.AJ) AC.o.tree as en w3 ⟨rfl,hb1⟩;exact UQ
structure Mr(w:AA)(g:Nat)(T:List (AE × Int)):Prop where
 lt:g<w.heap.size
 cells:∀(i:Nat) (p:AE × Int),T[i]? = some p->w.cell? ⟨g,i*2,none⟩=some (AR p.1)/\w.cell? ⟨g,i*2+1,none⟩=some (p.2:AB)
def Mr.below{w F:AA}{g:Nat}{T:List (AE × Int)}(A:Mr w g T)(C:Below w w F):Mr F g T:=
 ⟨Co A.lt C.size,λB E D=>⟨(C.cell (p:=⟨g,B*2,none⟩) A.lt).trans (A.cells B E D).1,(C.cell (p:=⟨g,B*2+1,none⟩) A.lt).trans (A.cells B E D).2⟩⟩
def fA(T:List (AE × Int))(w:AA)(e:Ending)(B:AA):Prop:=∃A,e=.returned (.slice (some ⟨A,0,none⟩) T.length T.length)/\Mr B A T/\Below w w B
def aQ(w:AA)(T:List (AE × Int)):Mr (w.alloc (.cells (T.flatMap λp=>[AR p.1,.int .i64 p.2]).toArray 381)) w T:=by
 refine⟨AH,λA p C=>?_⟩;have B:=AG.new w 381 (T.flatMap λp=>[AR p.1,.int .i64 p.2]).toArray;rw[B.cell,B.cell,CH,CH];have:∀(T:List (AE × Int)) (A:Nat),T[A]? = some p->(T.flatMap λp=>[AR p.1,.int .i64 p.2])[A*2]? = some (AR p.1)/\(T.flatMap λp=>[AR p.1,.int .i64 p.2])[A*2+1]? = some (p.2:AB):=by
  intro T;induction T with
  | nil=>intro A h;cases h
  | cons E T D=>
   intro A h;rcases A with _|A
   .rw[A8] at h;cases h;exact⟨rfl,rfl⟩
   .rw[Bt] at h;have:=D A h;rw[show(A+1)*2=A*2+1+1 by omega];simpa[I4] using this
 exact this T A C
def AGd(w:AA):AI 226 #[] w (fA GD w):=by
 have By:=O (aQ w GD);have hb:Below w w (w.alloc (.cells ((GD).flatMap λp=>[AR p.1,.int .i64 p.2]).toArray 381)):=(AN _ _).alloc AK _;exact ef
def pI(w:AA):AI 229 #[] w (fA F5 w):=by
 have By:=O (aQ w F5);have hb:Below w w (w.alloc (.cells ((F5).flatMap λp=>[AR p.1,.int .i64 p.2]).toArray 381)):=(AN _ _).alloc AK _;exact ef
def AFm(w:AA):AI 225 #[] w (fA IS w):=by
 have By:=O (aQ w IS);have hb:Below w w (w.alloc (.cells ((IS).flatMap λp=>[AR p.1,.int .i64 p.2]).toArray 381)):=(AN _ _).alloc AK _;exact ef
def AKS(s:AE)(n m:Int)(q:Nat)(W:AA)(D:W.cell? ⟨q,0,none⟩=some (m:AB))(C:q<W.heap.size):
 AI 304 #[.agg #[AR s,n],.pointer q] W (Ca (n==m) W):=by
 have B:Below W W (W.alloc (.cells #[AR s,n] 381)):=(AN _ _).alloc AK _;have A:=O B;go_in;go_wp2;go_ret;exact⟨rfl,A.o⟩
def AGu(T:List (AE × Int))(g c q:Nat)(m:Int)(j:Nat)(p:AE × Int)(w:AA)(L:Mr w g T)(k:T.length<=c)(s:T.length<=100)(Q:w.cell? ⟨q,0,none⟩=some (m:AB))(N:q<w.heap.size)
 (J:T[j]? = some p)(P:p.2=m)(M:∀(i:Nat) (r:AE × Int),i<j->T[i]? = some r->r.2≠m):
 AI 303 #[.slice g T.length c,.func (.func 304) #[] #[.pointer q]] w (Rt (j:Int) w):=by
 have B:=O L;have X:=O J;have Y:=O P;have V:=O M;have Z:=O Q;have o:j<T.length:=(Cd.1 J).1;clear L J P M Q;go_in;go_wp2_with fail;go_loopw [8] (λK wr=>∃i:Nat,K=.int .i64 (i:Int)/\i<=j/\Mr wr g T/\Below w w wr) (λK _=>j-(intOf K).toNat)
 case atStart=>exact⟨0,rfl,Az _,B.o,AN _ _⟩
 case round=>
  clear B;obtain⟨i,rfl,n,H,D⟩:=hrel;have B:=O H;have e:=H.lt;obtain⟨r,E⟩:=BQ T i U;obtain⟨R,S⟩:=H.cells i r E;have dl:=Ar i T.length;have t:i<T.length:=U;have A:=O (AKS r.1 r.2 m q wr ((D.cell (p:=⟨q,0,none⟩) N).trans Z.o) (Co N D.size));clear H;by_cases G:i=j
  .have F:(r.2==m)=true:=by
    rw[G,X.o] at E;cases E;simpa using Y.o
   rw[F] at A;have W:=O G;clear E F G;go_wp2_with fail;refine(A.o).mono ?_;rintro d f ⟨rfl,C⟩;have I:=AW D C;clear R S C A D;go_wp2_with fail;go_ret;have G:=W.o;subst G;exact⟨rfl,I⟩
  .have F:(r.2==m)=false:=Aw.2 (V.o i r U E);rw[F] at A;clear E F;go_wp2_with fail;refine(A.o).mono ?_;rintro d f ⟨rfl,C⟩;have I:=AW D C;replace B:=O (B.o.below C);clear R S C A D e;go_wp2_with fail;go_roundw
   case rel=>exact⟨i+1,A7,U,B.o,I⟩
   case measure=>exact A5
def AKM(T:List (AE × Int))(g c:Nat)(m:Int)(j:Nat)(p:AE × Int)(w:AA)(C:Mr w g T)(K:T.length<=c)(M:T.length<=100)
 (B:T[j]? = some p)(N:p.2=m)(L:∀(i:Nat) (r:AE × Int),i<j->T[i]? = some r->r.2≠m):
 AI 224 #[.slice g T.length c,m] w (Bz (AR p.1) w):=by
 have A:Below w w (w.alloc (.cells #[m] 3)):=(AN _ _).alloc AK _;have J:=AG.new w 3 #[m];have G:=O (AGu T g c w m j p _ (C.below A) K M (J.cell 0) AH B N L);have I:=O (C.below A);have E:=O A;have H:=O B;have Q:j<T.length:=(Cd.1 B).1;go_in;go_wp2_with fail;go_call G.o as en w1 ⟨rfl,hb1⟩;have D:=I.o.below hb1;obtain⟨R,S⟩:=D.cells j p H.o;have P:=D.lt;have F:=O (AW E.o hb1);go_wp2_with fail;go_ret;exact⟨rfl,F.o⟩
def zJ{T:List (AE × Int)}{m:Int}(h:T.any (λp=>p.2==m)=true):∃(j:Nat) (p:AE × Int),T[j]? = some p/\p.2=m/\∀(i:Nat) (r:AE × Int),i<j->T[i]? = some r->r.2≠m:=by
 induction T with
 | nil=>cases h
 | cons C T H=>
  by_cases A:C.2=m
  .exact⟨0,C,rfl,A,λi r G=>by omega⟩
  .rw[Qy,Aw.2 A,No] at h;obtain⟨j,p,D,E,F⟩:=H h;refine⟨j+1,p,D,E,λi r G B=>?_⟩;rcases i with _|i
   .cases B;exact A
   .exact F i r U B
def Xa(T:List (AE × Int))(F:∀p∈T,p.1≠[])(E:T.length<=100)(m:Int)(h:T.any (λp=>p.2==m)=true):∃t:AE,t≠[]/\∀(g:Nat) (w:AA),Mr w g T->
 AI 224 #[.slice g T.length T.length,m] w (Bz (AR t) w):=by
 obtain⟨G,p,A,B,C⟩:=zJ h;exact⟨p.1,F p (Bu A),λg w D=>AKM T g T.length m G p w D AK E A B C⟩
