import Derived.Test.YtcpcgpbohiineaaGreatDoorY12
import Derived.Test.YtcpcgpbohiineaaGreatDoorY13
import Derived.Test.YtcpcgpbohiineaaGreatDoorY14
import Derived.Test.YtcpcgpbohiineaaGreatDoorY15
namespace Go.Proofs.YtcpcgpbohiineaaGreatDoor
open Go.RowKit Go.Proofs.Tryz
set_option linter.all false
set_option maxRecDepth 100000
set_option maxHeartbeats 4000000
section
variable{w':AA}
def Ew(l:AE):Bool:=DZ l&&decide (LL l=(l.length:Int))
def IY(l:AE):Bm:=if Ew l then KP l else GR
def YE(l:AE)(w:AA)(e:Ending)(w':AA):Prop:=e=.returned (.tuple #[.agg (BP (IY l)),.bool (Ew l)])/\Below w w w'
def yt{l:AE}{w:AA}(A:Ew l=false)(B:Below w w w'):YE l w (.returned (.tuple #[.agg (BP ⟨0,0,0,false,0,0,0,0,0,0,0,0,0,0⟩),false])) w':=by
 refine⟨?_,B⟩;simp[IY,A,GR]
def yr{l:AE}{f:Bm}{w:AA}(A:Ew l=true)(C:f=KP l)(B:Below w w w'):YE l w (.returned (.tuple #[.agg (BP f),true])) w':=by
 refine⟨?_,B⟩;simp[IY,A,C]
attribute [local irreducible] World.setCell in
def jU(v:AB)(l:AE)(w:AA)(hsl:Af w w v l)(N:l.length<=4611686018427387904):AI 81 #[v] w (YE l w):=by
 obtain⟨S,c,Q,U,R⟩:=id hsl;subst Q;clear R;obtain⟨A,hW⟩:∃A,A=w.alloc (.cells #[(),(),(),false,(),(),(),(),(),(),(),(),(),()] 105):=⟨_,rfl⟩;have hz:AG A w 105 (BP GR):=P8;have Aa:Below w w A:=xP;have M:=O Pt;obtain⟨C,hF⟩:∃C,C=KP l:=⟨_,rfl⟩;obtain⟨B,F⟩:∃B,B=LL l:=⟨_,rfl⟩;obtain⟨k,E⟩:∃k,k=DZ l:=⟨_,rfl⟩;have Gu:Hid (Ew l=(k&&decide (B=(l.length:Int)))):=by unfold Hid Ew;rw[E,F]
 have G:=O (And.intro hF (And.intro F E));have FB:=O hF;clear hF F E hsl;obtain⟨g0,g1,g2,g3,g4,g5,g6,g7,g8,g9,g10,g11,g12,g13⟩:=C;go_in;go_wp2_with fail;rw[<-hW];clear hW;refine(ABq _ l _ M.o N).mono ?_;rintro T K ⟨rfl,D⟩;obtain⟨H,I,J⟩:=G.o;rw[<-H,<-I,<-J];clear H I J G;simp only[BP];replace hz:=(hz.below D hz.lt).alloc (.cells #[g0,g1,g2,g3,g4,g5,g6,g7,g8,g9,g10,g11,g12,g13] 105);replace Aa:=AW Aa D;have P:=AG.new K 105 #[g0,g1,g2,g3,g4,g5,g6,g7,g8,g9,g10,g11,g12,g13];replace Aa:=Aa.alloc Aa.size (.cells #[g0,g1,g2,g3,g4,g5,g6,g7,g8,g9,g10,g11,g12,g13] 105);clear D;have W:∀L,(K.alloc (.cells #[g0,g1,g2,g3,g4,g5,g6,g7,g8,g9,g10,g11,g12,g13] 105)).cell? ⟨w,L,none⟩=(#[(),(),(),false,(),(),(),(),(),(),(),(),(),()]:Array AB)[L]?:=hz.cell;have X:=hz.frozen;have V:=P.cell;cases k
 .have hok:Ew l=false:=by rw[Gu.o];rfl
  go_wp2;refine uR ?_;exact X_
 .by_cases hmm:B=(l.length:Int)
  .have hok:Ew l=true:=Zd;go_wp2;refine BE (v:=.tuple #[.agg (BP ⟨g0,g1,g2,g3,g4,g5,g6,g7,g8,g9,g10,g11,g12,g13⟩),true]) (DT results81 _ _ w 105 _ (0,0) _ _ rfl rfl (La hz g0 g1 g2 g3 g4 g5 g6 g7 g8 g9 g10 g11 g12 g13) underlying105 rfl Ke) rfl ?_;exact rL
  .have hok:Ew l=false:=Zd;go_wp2;refine uR ?_;exact X_
attribute [local irreducible] World.setCell in
def AAd(v:AB)(l:AE)(w:AA)(hsl:Af w w v l)(N:l.length<=4611686018427387904):AI 281 #[v] w (YE l w):=by
 obtain⟨S,c,Q,U,R⟩:=id hsl;subst Q;clear R;obtain⟨A,hW⟩:∃A,A=w.alloc (.cells #[(),(),(),false,(),(),(),(),(),(),(),(),(),()] 105):=⟨_,rfl⟩;have hz:AG A w 105 (BP GR):=P8;have Aa:Below w w A:=xP;have M:=O Pt;obtain⟨C,hF⟩:∃C,C=KP l:=⟨_,rfl⟩;obtain⟨B,F⟩:∃B,B=LL l:=⟨_,rfl⟩;obtain⟨k,E⟩:∃k,k=DZ l:=⟨_,rfl⟩;have Gu:Hid (Ew l=(k&&decide (B=(l.length:Int)))):=by unfold Hid Ew;rw[E,F]
 have G:=O (And.intro hF (And.intro F E));have FB:=O hF;clear hF F E hsl;obtain⟨g0,g1,g2,g3,g4,g5,g6,g7,g8,g9,g10,g11,g12,g13⟩:=C;go_in;go_wp2_with fail;rw[<-hW];clear hW;refine(AA8 _ l _ M.o N).mono ?_;rintro T K ⟨rfl,D⟩;obtain⟨H,I,J⟩:=G.o;rw[<-H,<-I,<-J];clear H I J G;simp only[BP];replace hz:=(hz.below D hz.lt).alloc (.cells #[g0,g1,g2,g3,g4,g5,g6,g7,g8,g9,g10,g11,g12,g13] 105);replace Aa:=AW Aa D;have P:=AG.new K 105 #[g0,g1,g2,g3,g4,g5,g6,g7,g8,g9,g10,g11,g12,g13];replace Aa:=Aa.alloc Aa.size (.cells #[g0,g1,g2,g3,g4,g5,g6,g7,g8,g9,g10,g11,g12,g13] 105);clear D;have W:∀L,(K.alloc (.cells #[g0,g1,g2,g3,g4,g5,g6,g7,g8,g9,g10,g11,g12,g13] 105)).cell? ⟨w,L,none⟩=(#[(),(),(),false,(),(),(),(),(),(),(),(),(),()]:Array AB)[L]?:=hz.cell;have X:=hz.frozen;have V:=P.cell;cases k
 .have hok:Ew l=false:=by rw[Gu.o];rfl
  go_wp2;refine uQ ?_;exact X_
 .by_cases hmm:B=(l.length:Int)
  .have hok:Ew l=true:=Zd;go_wp2;refine BE (v:=.tuple #[.agg (BP ⟨g0,g1,g2,g3,g4,g5,g6,g7,g8,g9,g10,g11,g12,g13⟩),true]) (DT results281 _ _ w 105 _ (0,0) _ _ rfl rfl (La hz g0 g1 g2 g3 g4 g5 g6 g7 g8 g9 g10 g11 g12 g13) underlying105 rfl Ke) rfl ?_;exact rL
  .have hok:Ew l=false:=Zd;go_wp2;refine uQ ?_;exact X_
end
section
variable{l:AE}{k s n p:Int}
def AJp(A:E0 l=true):l.length=9:=by
 unfold E0 at A;simp only[At,CJ] at A;exact A.1
def ABi(A:Fw l=true):l.length=8:=by
 unfold Fw at A;simp only[At,CJ] at A;exact A.1
def ABn(A:Es l=true):l.length=16:=by
 unfold Es at A;simp only[At,CJ] at A;exact A.1
def AFK(A:Fc l=true):l.length=14:=by
 unfold Fc at A;simp only[At,CJ] at A;exact A.1
def dA{f:Bm}(E:BY f=true):Ew (DU f)=true/\IY (DU f)=f:=by
 obtain⟨A,B,C⟩:=ABz E [];rw[El] at A B C;have D:Ew (DU f)=true:=by simp[Ew,A,C]
 exact⟨D,by simp[IY,D,B]⟩
def AH3(h:Ew l=true):BY (IY l)=true/\l=DU (IY l):=by
 have I:=h;unfold Ew at h;simp only[At,CJ] at h;obtain⟨C,D⟩:=h;have E:=kY C;rcases B:FG l with ⟨H,G,L⟩;rw[B] at E;simp only at E;subst E;have A:=C;unfold DZ at A;rw[B] at A;simp only[At,CJ,Bool.not_false,true_and] at A;unfold LL at D;rw[Ab C,B] at D;simp only at D;have K:G=[]:=by
  have:G.length=0:=U;exact Jw this
 subst K;have F:=(kX B).2 A.1;rw[El] at F;have J:IY l=H:=by simp[IY,I,KP,C,B]
 rw[J];exact⟨A.2,F.symm⟩
def nV(B:Ew l=true):7<=l.length/\l.length<=43:=by
 have C:=(AH3 B).2;have A:=dB (IY l);rw[<-C] at A;exact A
def GH(k s:Int)(l:AE):Bool:=
 if k=1 then Ew l&&((IY l).B9==s) else if k=2 then E0 l&&(UE l==s) else if k=3 then Fw l else if k=4 then Es l && !(S7 l==s) else if k=5 then Fc l else false
def Xb(A:GH k s l=true):7<=l.length/\l.length<=43:=by
 unfold GH at A;by_cases B:k=1
 .rw[Ab B] at A;simp only[At] at A;exact nV A.1
 rw[AU B] at A;by_cases C:k=2
 .rw[Ab C] at A;simp only[At] at A;have:=AJp A.1;omega
 rw[AU C] at A;by_cases D:k=3
 .rw[Ab D] at A;have:=ABi A;omega
 rw[AU D] at A;by_cases E:k=4
 .rw[Ab E] at A;simp only[At] at A;have:=ABn A.1;omega
 rw[AU E] at A;by_cases F:k=5
 .rw[Ab F] at A;have:=AFK A;omega
 rw[AU F] at A;cases A
def Ex(s n k p:Int)(l:AE):Bool:=BJ s 0 5&&BJ n 1 999&&(decide (1<n)||(p==0))&&GH k s l
def T'(A:Ex s n k p l=true):(0<=s/\s<=5)/\(1<=n/\n<=999)/\(1<n\/p=0)/\GH k s l=true:=by
 simpa[Ex,BJ,and_assoc] using A
def DN(s n k p:Int)(l:AE):AE:=[68,byteOf k,byteOf s]++be 2 n++be 4 p++be 2 (l.length:Int)++l
def Dz(s n k p:Int)(l:AE):AE:=DN s n k p l++be 4 (Da (DN s n k p l):Int)
def Jq(s n k p:Int)(l:AE):AE:=if Ex s n k p l then Dz s n k p l else []
def T8(s n k p:Int)(l:AE):(DN s n k p l).length=11+l.length:=by simp[DN,Dn];omega
def T9(s n k p:Int)(l:AE):(Dz s n k p l).length=15+l.length:=by simp[Dz,Dn,T8];omega
def Au(l:AE):Int:=AQ (List.take 1 (List.drop 2 l))
def Br(l:AE):Int:=AQ (List.take 1 (List.drop 1 l))
def Av(l:AE):Int:=AQ (List.take 2 (List.drop 3 l))
def Ba(l:AE):Int:=AQ (List.take 4 (List.drop 5 l))
def F3(l:AE):Int:=AQ (List.take 2 (List.drop 9 l))
def BC(l:AE):AE:=List.take (l.length-15) (List.drop 11 l)
def F4(l:AE):AE:=List.take (l.length-4) l
def EX(l:AE):Int:=AQ (List.drop (l.length-4) l)
def CR(l:AE):Bool:=decide (15<=l.length)&&(AQ (List.take 1 l)==68)&&(F3 l==(l.length:Int)-15)&&(EX l==(Da (F4 l):Int))&&Ex (Au l) (Av l) (Br l) (Ba l) (BC l)
def AIt(h:15<=l.length):F4 l=l.take 11++BC l:=by
 unfold F4 BC;have A:l.length-4=11+(l.length-15):=U;rw[A,List.take_add]
def o9(c:UInt8):byteOf (AQ [c])=c:=J0 _ _ (by have:=c.toNat_lt;simp[AQ];omega)
def eleven(L:15<=l.length):∃A B D E F G H I J K C t,l=A::B::D::E::F::G::H::I::J::K::C::t:=by
 match l,L with
 | A::B::D::E::F::G::H::I::J::K::C::t,_=>exact⟨A,B,D,E,F,G,H,I,J,K,C,t,rfl⟩
def AIk(M:15<=l.length)(T:AQ (List.take 1 l)=68)(V:F3 l=(l.length:Int)-15):DN (Au l) (Av l) (Br l) (Ba l) (BC l)=F4 l:=by
 rw[AIt M];have U:((BC l).length:Int)=F3 l:=by
  rw[V];unfold BC;simp;omega
 unfold DN;rw[U];generalize BC l=W at *;obtain⟨A,B,D,E,F,G,H,I,J,K,C,L,rfl⟩:=eleven M;have N:A=68:=by
  have X:(A.toNat:Int)=68:=by simpa[AQ] using T
  apply UInt8.toNat_inj.1;show A.toNat=68;omega
 have O:byteOf (Br (A::B::D::E::F::G::H::I::J::K::C::L))=B:=o9 B;have P:byteOf (Au (A::B::D::E::F::G::H::I::J::K::C::L))=D:=o9 D;have Q:be 2 (Av (A::B::D::E::F::G::H::I::J::K::C::L))=[E,F]:=Xe E F;have R:be 4 (Ba (A::B::D::E::F::G::H::I::J::K::C::L))=[G,H,I,J]:=pL G H I J;have S:be 2 (F3 (A::B::D::E::F::G::H::I::J::K::C::L))=[K,C]:=Xe K C;rw[O,P,Q,R,S,N];rfl
def AIi(h:15<=l.length)(C:AQ (List.take 1 l)=68)(F:F3 l=(l.length:Int)-15):(Dz (Au l) (Av l) (Br l) (Ba l) (BC l)=l)↔EX l=(Da (F4 l):Int):=by
 unfold Dz;rw[AIk h C F];have E:(List.drop (l.length-4) l).length=4:=by simp;omega
 have G:=RT (F4 l);constructor
 .intro B;have A:List.drop (l.length-4) l=be 4 (Da (F4 l):Int):=by
   have D:F4 l++be 4 (Da (F4 l):Int)=F4 l++List.drop (l.length-4) l:=by
    rw[B];unfold F4;rw[Md]
   exact(List.append_cancel_left D).symm
  unfold EX;rw[A,TQ _ U U]
 .intro B;have A:be 4 (EX l)=List.drop (l.length-4) l:=du 4 _ E U U;rw[<-B,A];unfold F4;rw[Md]
def nr(s n k p:Int)(l t:AE):AQ (List.take 1 (DN s n k p l++t))=68/\Au (DN s n k p l++t)=AQ [byteOf s]/\Br (DN s n k p l++t)=AQ [byteOf k]/\Av (DN s n k p l++t)=AQ (be 2 n)/\Ba (DN s n k p l++t)=AQ (be 4 p)/\F3 (DN s n k p l++t)=AQ (be 2 (l.length:Int)):=by
 unfold Au Br Av Ba F3 DN;refine⟨rfl,rfl,rfl,rfl,rfl,rfl⟩
def AIT(h:Ex s n k p l=true)(N:0<=p)(O:p<4294967296)(t:AE):
 Au (DN s n k p l++t)=s/\Br (DN s n k p l++t)=k/\Av (DN s n k p l++t)=n/\Ba (DN s n k p l++t)=p/\F3 (DN s n k p l++t)=l.length:=by
 obtain⟨T,S,_,A⟩:=T' h;have R:=Xb A;have Q:1<=k/\k<=5:=by
  unfold GH at A;by_cases D:k=1
  .omega
  rw[AU D] at A;by_cases J:k=2
  .omega
  rw[AU J] at A;by_cases K:k=3
  .omega
  rw[AU K] at A;by_cases L:k=4
  .omega
  rw[AU L] at A;by_cases M:k=5
  .omega
  rw[AU M] at A;cases A
 obtain⟨_,E,F,G,H,I⟩:=nr s n k p l t;have C:∀B:Int,0<=B->B<256->AQ [byteOf B]=B:=by
  intro B P D;have:=RZ B;simp[AQ];omega
 rw[E,F,G,H,I,C s U U,C k U U,WH n U U,TQ p N O,WH _ U U];exact⟨rfl,rfl,rfl,rfl,rfl⟩
def AIP(s n k p:Int)(l:AE):F4 (Dz s n k p l)=DN s n k p l:=by
 unfold F4;rw[T9];have A:=T8 s n k p l;rw[show 15+l.length-4=(DN s n k p l).length by omega];unfold Dz;simp
def AIO(s n k p:Int)(l:AE):EX (Dz s n k p l)=Da (DN s n k p l):=by
 unfold EX;rw[T9];have h:=T8 s n k p l;have A:=RT (DN s n k p l);rw[show 15+l.length-4=(DN s n k p l).length by omega];unfold Dz;rw[List.drop_left,TQ _ U U]
def AIN(s n k p:Int)(l t:AE):List.drop 11 (DN s n k p l++t)=l++t:=by unfold DN;rfl
def nt(s n k p:Int)(l:AE):BC (Dz s n k p l)=l:=by
 unfold BC;rw[T9];unfold Dz;rw[AIN,show 15+l.length-15=l.length by omega];simp
def AIU(h:Ex s n k p l=true)(G:0<=p)(H:p<4294967296):
 CR (Dz s n k p l)=true/\Au (Dz s n k p l)=s/\Br (Dz s n k p l)=k/\Av (Dz s n k p l)=n/\Ba (Dz s n k p l)=p/\BC (Dz s n k p l)=l:=by
 obtain⟨A,B,C,D,F⟩:=AIT h G H (be 4 (Da (DN s n k p l):Int));have E:=(nr s n k p l (be 4 (Da (DN s n k p l):Int))).1;change Au (Dz s n k p l)=s at A
 change Br (Dz s n k p l)=k at B
 change Av (Dz s n k p l)=n at C
 change Ba (Dz s n k p l)=p at D
 change F3 (Dz s n k p l)=l.length at F
 change AQ (List.take 1 (Dz s n k p l))=68 at E
 refine⟨?_,A,B,C,D,nt s n k p l⟩;unfold CR;rw[E,A,B,C,D,F,nt,AIO,AIP,h,T9];have:((l.length:Int)==((15+l.length:Nat):Int)-15)=true:=C7.2 U;rw[this];simp
def AIs(B:15<=l.length)(C:AQ (List.take 1 l)=68)(E:F3 l=(l.length:Int)-15):CR l=(Ex (Au l) (Av l) (Br l) (Ba l) (BC l)&&decide (Jq (Au l) (Av l) (Br l) (Ba l) (BC l)=l)):=by
 have D:=AIi B C E;unfold Jq CR;rcases G:Ex (Au l) (Av l) (Br l) (Ba l) (BC l) with _|_
 .simp
 .by_cases A:EX l=(Da (F4 l):Int)
  .simp[B,C,E,A,D.2 A]
  .have:¬Dz (Au l) (Av l) (Br l) (Ba l) (BC l)=l:=λF=>A (D.1 F);simp[A,this]
def dY(A:¬15<=l.length):CR l=false:=by simp[CR,A]
def oH(A:AQ (List.take 1 l)≠68):CR l=false:=by
 have:(AQ (List.take 1 l)==68)=false:=Aw.2 A;simp[CR,this]
def oG(A:F3 l≠(l.length:Int)-15):CR l=false:=by
 have:(F3 l==(l.length:Int)-15)=false:=Aw.2 A;simp[CR,this]
end
def C6(b:AE):Nat:=(AQ (b.take 2)).toNat
def EW(b:AE):Bool:=decide (2<=b.length)&&(decide (1<=C6 b)&&(decide (C6 b<=400)&&(decide (C6 b+6<=b.length)&&(AQ ((b.drop (C6 b+2)).take 4)==(Da ((b.drop 2).take (C6 b)):Int)))))
def G1:Nat->AE->List AE
 | 0,_=>[]
 | k+1,b=>if EW b then (b.drop 2).take (C6 b)::G1 k (b.drop (C6 b+6)) else []
def B0(b:AE):List AE:=G1 20000 b
def PS{b:AE}(A:EW b=true):2<=b.length/\1<=C6 b/\C6 b<=400/\C6 b+6<=b.length/\AQ ((b.drop (C6 b+2)).take 4)=(Da ((b.drop 2).take (C6 b)):Int):=by
 simpa[EW] using A
def az{k:Nat}{b:AE}(A:EW b=true):G1 (k+1) b=(b.drop 2).take (C6 b)::G1 k (b.drop (C6 b+6)):=by simp[G1,A]
def V4{k:Nat}{b:AE}(A:EW b=false):G1 k b=[]:=by cases k<;>simp[G1,A]
def V5(k:Nat):∀b:AE,(G1 k b).length<=k/\∀r∈G1 k b,1<=r.length/\r.length<=400:=by
 induction k with
 | zero=>intro b;simp[G1]
 | succ k C=>
  intro b;cases A:EW b with
  | false=>rw[V4 A];simp
  | true=>
   obtain⟨D,E,F,G,_⟩:=PS A;rw[az A];refine⟨by have:=(C (b.drop (C6 b+6))).1;simp;omega,?_⟩;intro r B;rcases Aj.1 B with rfl|B
   .simp;omega
   .exact(C _).2 r B
structure Kd where
 s:Int
 n:Int
 b:AE
def Kd.lt(x y:Kd):Prop:=x.s<y.s\/x.s=y.s/\x.n<y.n
def EL(s n:Int)(x:Kd):Bool:=decide (x.s<s)||(x.s==s&&decide (x.n<n))
def Gh(s n:Int)(x:Kd):Bool:=x.s==s&&x.n==n
def Xd{s n:Int}{x:Kd}: EL s n x=true↔x.s<s\/x.s=s/\x.n<n:=by simp[EL]
def O3{s n:Int}{x:Kd}: Gh s n x=true↔x.s=s/\x.n=n:=by simp[Gh]
def Bo(s n:Int):List Kd->Nat
 | []=>0
 | x::l=>if EL s n x then Bo s n l+1 else 0
def B_(s n:Int)(l:List Kd):Bool:=match l[Bo s n l]? with|some x=>Gh s n x|none=>false
def EK(s n:Int)(l:List Kd):Option AE:=match l[Bo s n l]? with|some x=>if Gh s n x then some x.b else none|none=>none
def Fi(l:List Kd):Prop:=l.Pairwise Kd.lt
def F7(x:Kd):Prop:=CR x.b=true/\x.s=Au x.b/\x.n=Av x.b
def bF(s n:Int)(l:List Kd):Bo s n l<=l.length:=by
 induction l with
 | nil=>simp[Bo]
 | cons B l A=>simp only[Bo];split<;>simp<;>omega
def kz(s n:Int)(l:List Kd):∀i x,i<Bo s n l->l[i]? = some x->EL s n x=true:=by
 induction l with
 | nil=>intro i x h;simp[Bo] at h
 | cons C l B=>
  intro i x h hx;simp only[Bo] at h;split at h
  .rename_i A;rcases i with _|i
   .simp at hx;subst hx;exact A
   .exact B i x U gN
  .omega
def ky(s n:Int)(l:List Kd):∀x,l[Bo s n l]? = some x->EL s n x=false:=by
 induction l with
 | nil=>intro x h;simp at h
 | cons C l B=>
  intro x h;simp only[Bo] at h;split at h
  .exact B x Fq
  .rename_i A;simp at h;subst h;simpa using A
def k_{s n:Int}{l:List Kd}{i:Nat}(E:i<=l.length)(C:∀j x,j<i->l[j]? = some x->EL s n x=true)(D:∀x,l[i]? = some x->EL s n x=false):Bo s n l=i:=by
 rcases Nat.lt_trichotomy (Bo s n l) i with h|h|h
 .have B:Bo s n l<l.length:=U;have A:=C _ _ h (BL B);rw[ky s n l _ (BL B)] at A;cases A
 .exact h
 .have B:i<l.length:=by have:=bF s n l;omega
  have A:=kz s n l _ _ h (BL B);rw[D _ (BL B)] at A;cases A
def Qm{s n:Int}{l:List Kd}(A:B_ s n l=false):EK s n l=none:=by
 unfold B_ at A;unfold EK;cases B:l[Bo s n l]? with
 | none=>rfl
 | some C=>rw[B] at A;simp only at A ⊢;rw[A];rfl
def IT{s n:Int}{l:List Kd}(h:B_ s n l=true):∃x,l[Bo s n l]? = some x/\x.s=s/\x.n=n/\EK s n l=some x.b:=by
 unfold B_ at h;unfold EK;cases A:l[Bo s n l]? with
 | none=>rw[A] at h;cases h
 | some x=>rw[A] at h;simp only at h ⊢;exact⟨x,rfl,(O3.1 h).1,(O3.1 h).2,M5⟩
def Fi.look{l:List Kd}(h:Fi l){x:Kd}(B:x∈l):EK x.s x.n l=some x.b:=by
 induction l with
 | nil=>cases B
 | cons H l G=>
  obtain⟨F,E⟩:=O7.1 h;rcases Aj.1 B with rfl|C
  .have A:EL x.s x.n x=false:=by simp[EL]
   have D:Gh x.s x.n x=true:=by simp[Gh]
   simp[EK,Bo,A,D]
  .have A:EL x.s x.n H=true:=Xd.2 (F x C);have:=G E C;simp only[EK,Bo,A,CI,Bt] at this ⊢;exact D2
def b7{s n:Int}{l:List Kd}{b:AE}(A:EK s n l=some b):∃x∈l,x.s=s/\x.n=n/\x.b=b:=by
 cases B:B_ s n l with
 | false=>rw[Qm B] at A;cases A
 | true=>
  obtain⟨x,F,C,D,E⟩:=IT B;rw[E] at A;injection A with A;exact⟨x,Bu F,C,D,A⟩
def Fi.mI{l:List Kd}(B:Fi l){s n:Int}{b:AE}: EK s n l=some b↔(⟨s,n,b⟩:Kd)∈l:=by
 constructor
 .intro A;obtain⟨D,C,rfl,rfl,rfl⟩:=b7 A;exact C
 .intro A;exact B.look A
def Dr(l:List Kd)(b:AE):Option (List Kd):=
 if CR b then
  match EK (Au b) (Av b) l with
  | some A=>if Lib.compareBytes A b<=0 then none else some (l.take (Bo (Au b) (Av b) l)++⟨Au b,Av b,b⟩::l.drop (Bo (Au b) (Av b) l+1))
  | none=>some (l.take (Bo (Au b) (Av b) l)++⟨Au b,Av b,b⟩::l.drop (Bo (Au b) (Av b) l))
 else none
def AKY{s n:Int}{x y:Kd}(A:EL s n x=true)(B:y.s=s)(C:y.n=n):x.lt y:=by subst B C;exact Xd.1 A
def mE{x y z:Kd}(A:x.lt y)(k:y.lt z):x.lt z:=by unfold Kd.lt at *;omega
def AFM{s n:Int}{x:Kd}(h:EL s n x=false)(hi:Gh s n x=false)(b:AE):(⟨s,n,b⟩:Kd).lt x:=by
 have A:¬(x.s<s\/x.s=s/\x.n<n):=λe=>by rw[Xd.2 e] at h;cases h
 have B:¬(x.s=s/\x.n=n):=λe=>wg;show s<x.s\/s=x.s/\n<x.n;omega
def Fi.put{l:List Kd}(h:Fi l){s n:Int}(b:AE){j:Nat}(O:(B_ s n l=true/\j=Bo s n l+1)\/(B_ s n l=false/\j=Bo s n l)):
 Fi (l.take (Bo s n l)++⟨s,n,b⟩::l.drop j)/\∀x,x∈l.take (Bo s n l)++⟨s,n,b⟩::l.drop j↔(x=⟨s,n,b⟩\/(x∈l/\Gh s n x=false)):=by
 have N:∀x∈l.take (Bo s n l),EL s n x=true:=by
  intro x A;obtain⟨E,B,rfl⟩:=List.mem_iff_getElem.1 A;simp only[HE] at B;exact kz s n l E _ U (by rw[List.getElem_take];exact BL U)
 have S:∀x,EL s n x=true->Gh s n x=false:=by
  intro x A;cases B:Gh s n x with
  | false=>rfl
  | true=>have:=Xd.1 A;have:=O3.1 B;omega
 have T:l=l.take (Bo s n l)++l.drop (Bo s n l):=(Md _ _).symm;have H:Fi (l.drop (Bo s n l)):=We (List.drop_sublist _ _) h;have L:∀x∈l.drop j,(⟨s,n,b⟩:Kd).lt x/\Gh s n x=false:=by
  have key:∀x∈l.drop j,(⟨s,n,b⟩:Kd).lt x:=by
   rcases O with ⟨D,rfl⟩|⟨D,rfl⟩
   .obtain⟨G,C,I,J,_⟩:=IT D;intro x A;have F:Bo s n l<l.length:=(Cd.1 C).1;rw[Kk F] at H;have:=(O7.1 H).1 x A;have K:l[Bo s n l]=G:=(Cd.1 C).2;rw[K] at this;subst I J;exact D2
   .intro x A;obtain⟨E,B,rfl⟩:=List.mem_iff_getElem.1 A;have F:Bo s n l<l.length:=by simp at B;omega
    have M:l[Bo s n l]? = some l[Bo s n l]:=BL F;have V:=ky s n l _ M;have W:Gh s n l[Bo s n l]=false:=by
     unfold B_ at D;rw[M] at D;exact D
    have Q:=AFM V W b;rcases E with _|E
    .simpa using Q
    .rw[Kk F] at H;have:=(O7.1 H).1 ((l.drop (Bo s n l))[E+1]) (by
      have R:(l.drop (Bo s n l))[E+1]=(l.drop (Bo s n l+1))[E]'(by simp at B ⊢;omega):=by simp[Nj,Nat.add_comm 1 E]
      rw[R];exact Gq _)
     exact mE Q this
  intro x A;refine⟨key x A,?_⟩;cases B:Gh s n x with
  | false=>rfl
  | true=>have:=key x A;have:=O3.1 B;simp only[Kd.lt] at *;omega
 refine⟨?_,λx=>?_⟩
 .refine List.pairwise_append.2 ⟨We (List.take_sublist _ _) h,O7.2 ⟨λx A=>(L x A).1,We (List.drop_sublist _ _) h⟩,?_⟩;intro x A G C;have P:=AKY (y:=⟨s,n,b⟩) (N x A) rfl rfl;rcases Aj.1 C with rfl|C
  .exact P
  .exact mE P (L G C).1
 .simp only[E1,Aj];constructor
  .rintro (A|rfl|A)
   .exact .inr ⟨Q7 A,S x (N x A)⟩
   .exact .inl rfl
   .exact .inr ⟨List.mem_of_mem_drop A,(L x A).2⟩
  .rintro (rfl|⟨A,B⟩)
   .exact .inr (.inl rfl)
   .rw[T] at A;rcases E1.1 A with A|A
    .exact .inl A
    .refine .inr (.inr ?_);rcases O with ⟨D,rfl⟩|⟨D,rfl⟩
     .obtain⟨G,C,I,J,_⟩:=IT D;have F:Bo s n l<l.length:=(Cd.1 C).1;rw[Kk F] at A;rcases Aj.1 A with rfl|A
      .have K:l[Bo s n l]=G:=(Cd.1 C).2;rw[K,O3.2 ⟨I,J⟩] at B;cases B
      .exact A
     .exact A
def UI{l C:List Kd}{b:AE}(A:Dr l b=some C):CR b=true/\∃j,((B_ (Au b) (Av b) l=true/\j=Bo (Au b) (Av b) l+1)\/(B_ (Au b) (Av b) l=false/\j=Bo (Au b) (Av b) l))/\C=l.take (Bo (Au b) (Av b) l)++⟨Au b,Av b,b⟩::l.drop j:=by
 unfold Dr at A;split at A
 .rename_i D;refine⟨D,?_⟩;cases B:B_ (Au b) (Av b) l with
  | true=>
   obtain⟨G,F,_,_,E⟩:=IT B;rw[E] at A;simp only at A;split at A
   .cases A
   .injection A with A;exact⟨_,.inl ⟨rfl,rfl⟩,A.symm⟩
  | false=>
   rw[Qm B] at A;injection A with A;exact⟨_,.inr ⟨rfl,rfl⟩,A.symm⟩
 .cases A
def ALB{l A:List Kd}{b:AE}(D:Fi l)(B:Dr l b=some A):Fi A:=by
 obtain⟨_,E,C,rfl⟩:=UI B;exact(D.put b C).1
def ALD{l B:List Kd}{b:AE}(G:Fi l)(F:∀x∈l,F7 x)(C:Dr l b=some B):∀x∈B,F7 x:=by
 obtain⟨D,H,E,rfl⟩:=UI C;intro x A;rcases ((G.put b E).2 x).1 A with rfl|⟨A,_⟩
 .exact⟨D,rfl,rfl⟩
 .exact F x A
def pd{l D:List Kd}{b:AE}(C:Fi l)(h:Dr l b=some D)(s n:Int):EK s n D=if s=Au b/\n=Av b then some b else EK s n l:=by
 obtain⟨G,H,F,rfl⟩:=UI h;have B:=C.put b F;apply Option.ext;intro c;rw[B.1.mI,B.2];split
 .rename_i A;obtain⟨rfl,rfl⟩:=A;constructor
  .rintro (h|⟨_,h⟩)
   .injection h with _ _ h;rw[h]
   .simp[Gh] at h
  .intro h;injection h with h;exact .inl R_
 .rename_i A;rw[C.mI];constructor
  .rintro (h|⟨h,_⟩)
   .injection h with h1 h2;exact absurd ⟨h1,h2⟩ A
   .exact h
  .intro h;refine .inr ⟨h,?_⟩;cases E:Gh (Au b) (Av b) (⟨s,n,c⟩:Kd) with
   | false=>rfl
   | true=>exact absurd (O3.1 E) A
def ALG{l A:List Kd}{b:AE}(B:Dr l b=some A):A.length<=l.length+1:=by
 obtain⟨D,E,C,rfl⟩:=UI B;have:=bF (Au b) (Av b) l;simp;rcases C with ⟨_,rfl⟩|⟨_,rfl⟩<;>omega
section
variable{s:Int}{ns:Ay}
def G_(l:List Kd)(s:Int):Nat->Int->Int->List AE
 | 0,_,_=>[]
 | f+1,n,p=>match EK s n l with
  | some A=>if Ba A=p then A::G_ l s f (n+1) (EX A) else []
  | none=>[]
def Hb(l:List Kd)(s:Int):List AE:=G_ l s 1000 1 0
def XX{l:List Kd}{n p:Int}{f:Nat}{b:AE}(A:EK s n l=some b)(B:Ba b=p):G_ l s (f+1) n p=b::G_ l s f (n+1) (EX b):=by simp[G_,A,B]
def dg{l:List Kd}{n p:Int}{f:Nat}{b:AE}(A:EK s n l=some b)(B:Ba b≠p):G_ l s f n p=[]:=by cases f<;>simp[G_,A,B]
def Nu{l:List Kd}{n p:Int}{f:Nat}(A:EK s n l=none):G_ l s f n p=[]:=by cases f<;>simp[G_,A]
def RS{b:AE}(A:CR b=true):1<=Av b/\Av b<=999/\0<=Au b/\Au b<=5:=by
 unfold CR at A;simp only[At] at A;obtain⟨B,C,_⟩:=T' A.2;omega
def WP{l:List Kd}(E:∀x∈l,F7 x){n:Int}{b:AE}(C:EK s n l=some b):CR b=true/\s=Au b/\n=Av b/\1<=n/\n<=999/\0<=s/\s<=5:=by
 obtain⟨x,F,rfl,rfl,rfl⟩:=b7 C;obtain⟨A,B,D⟩:=E x F;have:=RS A;rw[B,D];exact⟨A,B▸rfl,rfl,this⟩
def AJ7{l:List Kd}: ∀(f:Nat) (n p:Int) (i:Nat),i<(G_ l s f n p).length->∃b,EK s (n+i) l=some b:=by
 intro f;induction f with
 | zero=>intro n p i h;simp[G_] at h
 | succ f C=>
  intro n p i h;cases hl:EK s n l with
  | none=>rw[Nu hl] at h;simp at h
  | some b=>
   by_cases A:Ba b=p
   .rw[XX hl A] at h;rcases i with _|i
    .exact⟨b,ZS⟩
    .obtain⟨c,B⟩:=C (n+1) (EX b) i Fq;exact⟨c,by rw[<-B];congr 1;push_cast;omega⟩
   .rw[dg hl A] at h;simp at h
def Gg(l:List Kd)(s:Int):Nat:=(Hb l s).length
def C4(l:List Kd)(s:Int):Ay:=(l.filter λA=>A.s==s).map Kd.n
def TN{l:List Kd}{n:Int}: n∈C4 l s↔∃x∈l,x.s=s/\x.n=n:=by
 simp[C4,and_assoc]
def Fi.nums{l:List Kd}(C:Fi l)(s:Int):(C4 l s).Pairwise (· < ·):=by
 unfold C4;rw[List.pairwise_map];have D:(l.filter λG=>G.s==s).Pairwise Kd.lt:=We (List.filter_sublist) C;refine D.imp_of_mem ?_;intro A B ha F E;have H:A.s=s:=by simpa using (List.mem_filter.1 ha).2
 have I:B.s=s:=by simpa using (List.mem_filter.1 F).2
 unfold Kd.lt at E;omega
def EU(A:List (Int × Int))(n:Int):List (Int × Int):=
 match A.getLast? with
 | some B=>if B.2=n then A.dropLast++[(B.1,n+1)] else A++[(n,n+1)]
 | none=>[(n,n+1)]
def DF(ns:Ay):List (Int × Int):=ns.foldl EU []
def D6(B:List (Int × Int)):Int:=(B.map λA=>A.2-A.1).sum
def Vi(a b:List (Int × Int)):D6 (a++b)=D6 a+D6 b:=by simp[D6]
def AAU(A:List (Int × Int))(n:Int):D6 (EU A n)=D6 A+1:=by
 unfold EU;cases B:A.getLast? with
 | none=>
  have:A=[]:=List.getLast?_eq_none_iff.1 B;subst this;simp[D6];omega
 | some D=>
  simp only;split
  .rename_i C;obtain⟨E,rfl⟩:=List.getLast?_eq_some_iff.1 B;rw[List.dropLast_concat,Vi,Vi];simp[D6];omega
  .rw[Vi];simp[D6];omega
def AAL(ns:Ay):∀A,D6 (ns.foldl EU A)=D6 A+ns.length:=by
 induction ns with
 | nil=>intro A;simp
 | cons C ns B=>intro A;rw[Fh,B,AAU];push_cast;simp;omega
def aj(ns:Ay):D6 (DF ns)=ns.length:=by rw[DF,AAL];simp[D6]
def AAN(h:DF ns=[]):ns=[]:=by
 have:=aj ns;rw[h] at this;simp[D6] at this;exact Jw U
def AAQ(m:Nat):∀(ns:Ay) (a f:Int),ns.Pairwise (· < ·)->(∀x∈ns,a<x)->(∀i:Nat,i<m->a+1+(i:Int)∈ns)->ns.length=m->ns.foldl EU [(f,a+1)]=[(f,a+1+(m:Int))]:=by
 induction m with
 | zero=>
  intro ns a f _ _ _ hl;have:ns=[]:=Jw hl;subst this;simp
 | succ m F=>
  intro ns a f D hlo hin hl;rcases ns with _|⟨x,G⟩
  .simp at hl
  .obtain⟨hx,E⟩:=O7.1 D;have A:x=a+1:=by
    exact sE
   subst A;rw[Fh];have B:EU [(f,a+1)] (a+1)=[(f,a+1+1)]:=by simp[EU]
   rw[B,F G (a+1) f E hx ?_ ZS]
   .congr 2;push_cast;omega
   .intro i H;have:=hin (i+1) U;rcases Aj.1 this with h2|h2
    .push_cast at h2;omega
    .have C:a+1+((i+1:Nat):Int)=a+1+1+(i:Int):=gQ;rwa [C] at h2
def AAM{m:Nat}(F:ns.Pairwise (· < ·))(hlo:∀x∈ns,1<=x)(hin:∀i:Nat,i<m->1+(i:Int)∈ns)(E:m<=ns.length):
 (DF ns=[]\/DF ns=[(1,(m:Int)+1)])↔ns.length=m:=by
 constructor
 .rintro (h|h)
  .have:=AAN h;subst this;simp at E ⊢;omega
  .have h1:=aj ns;rw[h] at h1;simp[D6] at h1;omega
 .intro hl;rcases m with _|m
  .left;have:ns=[]:=Jw hl;subst this;rfl
  .right;rcases ns with _|⟨x,A⟩
   .simp at hl
   .obtain⟨hx,G⟩:=O7.1 F;have B:x=1:=by
     exact sE
    subst B;show A.foldl EU (EU [] 1)=_;have C:EU [] 1=[((1:Int),(1:Int)+1)]:=rfl;rw[C,AAQ m A 1 1 G hx ?_ ZS]
    .congr 2;push_cast;omega
    .intro i H;have:=hin (i+1) U;rcases Aj.1 this with h2|h2
     .push_cast at h2;omega
     .have D:1+((i+1:Nat):Int)=1+1+(i:Int):=gQ;rwa [D] at h2
def AGk{l:List Kd}(S:Fi l)(Q:∀x∈l,F7 x)(s:Int):
 (DF (C4 l s)=[]\/DF (C4 l s)=[(1,(Gg l s:Int)+1)])↔D6 (DF (C4 l s))=(Gg l s:Int):=by
 rw[aj];have G:=S.nums s;have J:∀A:Nat,A<Gg l s->1+(A:Int)∈C4 l s:=by
  intro A F;obtain⟨Z,P⟩:=AJ7 1000 1 0 A F;obtain⟨x,D,O,B,_⟩:=b7 P;exact TN.2 ⟨x,D,O,B⟩
 have R:Gg l s<=(C4 l s).length:=by
  have key:∀(E:Nat) (ns:Ay) (C:Int),ns.Pairwise (· < ·)->(∀A:Nat,A<E->C+(A:Int)∈ns)->E<=ns.length:=by
   intro E;induction E with
   | zero=>intro ns C _ _;omega
   | succ E V=>
    intro ns;induction ns with
    | nil=>intro C _ h;have:=h 0 U;simp at this
    | cons x X W=>
     intro C G h;obtain⟨D,K⟩:=O7.1 G;by_cases L:x=C
     .subst L;have:=V X (x+1) K (λA F=>by
       have:=h (A+1) U;rcases Aj.1 this with B|B
       .push_cast at B;omega
       .have M:x+((A+1:Nat):Int)=x+1+(A:Int):=gQ;rwa [M] at B)
      simp;omega
     .have:=W C K (λA F=>by
       rcases Aj.1 (h A F) with B|B
       .have N:=h 0 U;rcases Aj.1 N with H|H
        .simp at H;omega
        .have:=D _ H;simp at this;omega
       .exact B)
      simp;omega
  exact key _ _ 1 G J
 rw[AAM G (λx D=>by obtain⟨Y,T,_,rfl⟩:=TN.1 D;have I:=Q Y T;have:=RS I.1;rw[I.2.2];omega) J R];omega
structure Ins where
 f:List Kd
 a:Nat->List A6
 last:Int
def I1(r:AE):A6:=⟨AQ ((r.drop 2).take 2),AQ ((r.drop 4).take 1),AQ ((r.drop 5).take 1),AQ ((r.drop 6).take 2),AQ (r.drop 8)⟩
def Gb(r:AE):Nat:=(AQ ((r.drop 1).take 1)).toNat
def CO(i:Ins)(r:AE):Option Ins:=
 match r with
 | []=>none
 | t::b=>
  if t=1 then (Dr i.f b).map λB=>⟨B,i.a,i.last⟩
  else if t=2 then
   if r.length=13/\1<=Gb r/\Gb r<=99 then (EI (i.a (Gb r)) (I1 r)).map λC=>⟨i.f,λA=>if A=Gb r then C else i.a A,i.last⟩ else none
  else if t=3 then
   if r.length=3/\AQ b<=2399 then some ⟨i.f,i.a,AQ b⟩ else none
  else none
def Eh:Ins:=⟨[],λ_=>[],-1⟩
def foldI:List AE->Ins->Option Ins
 | [],i=>some i
 | r::l,i=>match CO i r with|some j=>foldI l j|none=>none
structure IA(i:Ins)(k:Nat):Prop where
 Oi:Fi i.f
 MY:∀x∈i.f,F7 x
 RP:∀p,KC (i.a p)
 fl:i.f.length<=k
 al:∀p,(i.a p).length<=k
def IA.zero:IA Eh 0:=⟨.nil,by simp[Eh],λ_=>.nil,Bh _,λ_=>Bh _⟩
def IA.next{i j:Ins}{k:Nat}{r:AE}(h:IA i k)(A:CO i r=some j):IA j (k+1):=by
 unfold CO at A;split at A
 .cases A
 .rename_i E D;split at A
  .rw[I6] at A;obtain⟨F,B,rfl⟩:=A;exact⟨ALB h.Oi B,ALD h.Oi h.MY B,h.RP,by have:=ALG B;have:=h.fl;simp only;omega,λp=>by have:=h.al p;simp only;omega⟩
  .split at A
   .split at A
    .rw[I6] at A;obtain⟨G,C,rfl⟩:=A;refine⟨h.Oi,h.MY,λp=>?_,vq,λp=>?_⟩
     .simp only;split
      .exact(h.RP _).post C
      .exact h.RP p
     .simp only;split
      .obtain⟨_,_,_,_,_,rfl⟩:=kx C;have:=h.al (Gb (E::D));simp;omega
      .have:=h.al p;omega
    .cases A
   .split at A
    .split at A
     .injection A with A;subst A;exact⟨h.Oi,h.MY,h.RP,vq,λp=>by have:=h.al p;simp only;omega⟩
     .cases A
    .cases A
def NO(s:Int)(b:AE):Bool:=
 match foldI (B0 b) Eh with
 | some A=>decide (D6 (DF (C4 A.f s))=(Gg A.f s:Int))
 | none=>false
end
def dm(s:Int)(l:AE):GH 1 s l=(Ew l&&((IY l).B9==s)):=rfl
def pC(s:Int)(l:AE):GH 2 s l=(E0 l&&(UE l==s)):=rfl
def o_(s:Int)(l:AE):GH 3 s l=Fw l:=rfl
def pA(s:Int)(l:AE):GH 4 s l=(Es l && !(S7 l==s)):=rfl
def pB(s:Int)(l:AE):GH 5 s l=Fc l:=rfl
def AKN(k s:Int)(l:AE)(A:¬k=1)(B:¬k=2)(C:¬k=3)(D:¬k=4)(E:¬k=5):GH k s l=false:=by simp[GH,A,B,C,D,E]
def G8(s n k p:Int)(v:AB):Array AB:=#[.int .i64 s,.int .i64 n,.int .i64 k,.int .u32 p,v]
def yS(s n k p:Int)(v:AB)(l:AE)(w:AA)(hsl:Af w w v l)(E:l.length<=4611686018427387904):
 AI 243 #[.agg (G8 s n k p v)] w (Bz (.bool (GH k s l)) w):=by
 obtain⟨C,c,G,H,I⟩:=id hsl;subst G;simp only[G8];have Aa:Below w w (w.alloc (.cells #[s,n,k,.int .u32 p,.slice C l.length c] 108)):=(AN _ _).alloc AK _;have B:=O Pt;have A:=AG.new w 108 #[s,n,k,.int .u32 p,.slice C l.length c];by_cases h1:k=1
 .subst h1;have BI:=O (dm s l);go_in;go_wp2_with fail;go_call jU _ l _ B.o E as e w1 ⟨rfl,hb1⟩;have D:=And.intro (A.below hb1 A.lt).cell (A.below hb1 A.lt).lt;exact tP
 by_cases h2:k=2
 .subst h2;have BI:=O (pC s l);go_in;go_wp2_with fail;go_call zF _ l _ B.o as e w1 ⟨rfl,hb1⟩;have D:=And.intro (A.below hb1 A.lt).cell (A.below hb1 A.lt).lt;exact sg
 by_cases h3:k=3
 .subst h3;have BI:=O (o_ s l);go_in;go_wp2_with fail;refine(zC _ l _ B.o).mono ?_;exact YJ
 by_cases h4:k=4
 .subst h4;have BI:=O (pA s l);go_in;go_wp2_with fail;go_call zD _ l _ B.o as e w1 ⟨rfl,hb1⟩;have D:=And.intro (A.below hb1 A.lt).cell (A.below hb1 A.lt).lt;exact sj
 by_cases h5:k=5
 .subst h5;have BI:=O (pB s l);go_in;go_wp2_with fail;refine(zE _ l _ B.o).mono ?_;exact YJ
 exact qj
def ACJ(k s:Int)(v:AB)(l:AE)(w:AA)(B:Af w w v l)(C:l.length<=4611686018427387904):
 AI 203 #[k,s,v] w (Bz (.bool (GH k s l)) w):=by
 obtain⟨E,c,D,G,H⟩:=id B;subst D;have Aa:Below w w w:=AN _ _;have A:=O B;by_cases h1:k=1
 .subst h1;have BI:=O (dm s l);go_in;go_wp2_with fail;go_call AAd _ l _ A.o C as e w1 ⟨rfl,hb1⟩;skip
  exact tP
 by_cases h2:k=2
 .subst h2;have BI:=O (pC s l);go_in;go_wp2_with fail;go_call AAh _ l _ A.o as e w1 ⟨rfl,hb1⟩;skip
  exact sg
 by_cases h3:k=3
 .subst h3;have BI:=O (o_ s l);go_in;go_wp2_with fail;refine(AAe _ l _ A.o).mono ?_;exact YJ
 by_cases h4:k=4
 .subst h4;have BI:=O (pA s l);go_in;go_wp2_with fail;go_call AAf _ l _ A.o as e w1 ⟨rfl,hb1⟩;skip
  exact sj
 by_cases h5:k=5
 .subst h5;have BI:=O (pB s l);go_in;go_wp2_with fail;refine(AAg _ l _ A.o).mono ?_;exact YJ
 exact qj
def dO(s n k p:Int)(l:AE):Ex s n k p l=(BJ s 0 5&&BJ n 1 999&&(decide (1<n)||(p==0))&&GH k s l):=rfl
def dL(s n k p:Int)(v:AB)(l:AE)(w:AA)(hsl:Af w w v l)(hl:l.length<=4611686018427387904):
 AI 182 #[.agg (G8 s n k p v)] w (Bz (.bool (Ex s n k p l)) w):=by
 obtain⟨C,c,E,F,G⟩:=id hsl;subst E;simp only[G8];have Aa:Below w w (w.alloc (.cells #[s,n,k,.int .u32 p,.slice C l.length c] 108)):=(AN _ _).alloc AK _;have gg:=O Pt;have BI:=O (dO s n k p l);rcases A:BJ s 0 5 with _|_
 .rw[A] at BI;have H1:=O A;go_in;go_wp2_with fail;go_call NW _ _ _ _ as e w' ⟨rfl,rfl⟩;rw[H1.o];exact UR
 rw[A] at BI;have H1:=O A;rcases B:BJ n 1 999 with _|_
 .rw[B] at BI;have OL:=O B;go_in;go_wp2_with fail;go_call NW _ _ _ _ as e w' ⟨rfl,rfl⟩;rw[H1.o];go_wp2_with fail;go_call NW _ _ _ _ as e w' ⟨rfl,rfl⟩;rw[OL.o];exact UR
 rw[B] at BI;have OL:=O B;by_cases h3:1<n
 .have AC:Hid (Ex s n k p l=GH k s l):=by
   have h4:=BI.o;exact h4.trans (by simp[h3])
  exact tQ
 have h3':decide (1<n)=false:=SL;by_cases h4:p=0
 .have AC:Hid (Ex s n k p l=GH k s l):=by
   exact qi
  subst h4;exact tQ
 .have D:(p==0)=false:=Aw.2 h4;have AC:Hid (Ex s n k p l=false):=by
   have h5:=BI.o;rw[h3',D] at h5;exact h5.trans AH
  go_in;go_wp2_with fail;go_call NW _ _ _ _ as e w' ⟨rfl,rfl⟩;rw[H1.o];go_wp2_with fail;refine(NW _ _ _ _).mono ?_;exact qu
def jz(s n k p:Int)(v:AB)(l:AE)(w:AA)(hsl:Af w w v l)(hl:l.length<=4611686018427387904):
 AI 142 #[.agg (G8 s n k p v)] w (Bz (.bool (Ex s n k p l)) w):=by
 obtain⟨C,c,E,F,G⟩:=id hsl;subst E;simp only[G8];have Aa:Below w w (w.alloc (.cells #[s,n,k,.int .u32 p,.slice C l.length c] 108)):=(AN _ _).alloc AK _;have gg:=O Pt;have BI:=O (dO s n k p l);rcases A:BJ s 0 5 with _|_
 .rw[A] at BI;have H1:=O A;go_in;go_wp2_with fail;go_call Iu _ _ _ _ as e w' ⟨rfl,rfl⟩;rw[H1.o];exact UR
 rw[A] at BI;have H1:=O A;rcases B:BJ n 1 999 with _|_
 .rw[B] at BI;have OL:=O B;go_in;go_wp2_with fail;go_call Iu _ _ _ _ as e w' ⟨rfl,rfl⟩;rw[H1.o];go_wp2_with fail;go_call Iu _ _ _ _ as e w' ⟨rfl,rfl⟩;rw[OL.o];exact UR
 rw[B] at BI;have OL:=O B;by_cases h3:1<n
 .have AC:Hid (Ex s n k p l=GH k s l):=by
   have h4:=BI.o;exact h4.trans (by simp[h3])
  exact tR
 have h3':decide (1<n)=false:=SL;by_cases h4:p=0
 .have AC:Hid (Ex s n k p l=GH k s l):=by
   exact qi
  subst h4;exact tR
 .have D:(p==0)=false:=Aw.2 h4;have AC:Hid (Ex s n k p l=false):=by
   have h5:=BI.o;rw[h3',D] at h5;exact h5.trans AH
  go_in;go_wp2_with fail;go_call Iu _ _ _ _ as e w' ⟨rfl,rfl⟩;rw[H1.o];go_wp2_with fail;refine(Iu _ _ _ _).mono ?_;exact qu
section
variable{w':AA}
def Jr(s n k p:Int)(l:AE):Int:=if Ex s n k p l then 0 else 1
def VB(s n k p:Int)(l:AE)(w:AA)(e:Ending)(w':AA):Prop:=
 ∃A,e=.returned (.tuple #[A,.int .i64 (Jr s n k p l)])/\w'.ownsRow w 5 1 A (Jq s n k p l).length (A3 (Jq s n k p l))/\Below w w w'
def Qc(w:AA)(A:Nat)(cs:Array AB)(l:AE)(h:cs.toList=A3 l)(B:A<=w.heap.size)(C:l.length<=1000):(w.alloc (.cells cs 5)).ownsRow A 5 1 (.slice w l.length l.length) l.length (A3 l):=by
 have D:cs.size=l.length:=by rw[<-Array.length_toList,h,RX]
 refine⟨LA,.inr ⟨w,l.length,cs,rfl,B,Hf w _,Bh _,Hr,U,?_⟩⟩;rw[h,Q9,HB LA]
def Qe{w:AA}{A n:Nat}{t:TypeId}{v:AB}{B:List AB}(h:w.ownsRow A t 1 v n B)(hb:Below w w w'):w'.ownsRow A t 1 v n B:=by
 obtain⟨D,E⟩:=h;refine⟨D,?_⟩;rcases E with C|⟨g,cap,cur,hv,hg,hh,rest⟩
 .exact .inl C
 .exact rQ
def Lz.later{w wr:AA}{B:Nat}{T:TypeId}{cs:Array AB}{v:AB}{l:AE}(A:Lz w B T cs v l wr)(C:Below wr wr w'):Lz w B T cs v l w':=
 ⟨Qe A.own C,A.box.below C A.box.lt,AW A.AJ C,A.lo,Ap A.hi C.size⟩
def AIM(s n k p:Int)(v:AB)(l:AE)(w:AA)(hsl:Af w w v l)(Y:∀c,v=.slice none 0 c->c=0)(J:l.length<=4611686018427387904)(i:0<=p)(j:p<4294967296):
 AI 198 #[.agg (G8 s n k p v)] w (VB s n k p l w):=by
 obtain⟨B,c,X,Z,m⟩:=id hsl;subst X;simp only[G8];have Aa:Below w w (w.alloc (.cells #[s,n,k,.int .u32 p,.slice B l.length c] 108)):=(AN _ _).alloc AK _;have G:=O Pt;rcases hd:Ex s n k p l with _|_
 .have BI:Hid (Jq s n k p l=[]/\Jr s n k p l=1):=Zi;have HD:=O hd;go_in;go_wp2_with fail;refine(dL s n k p _ l _ G.o J).mono ?_;exact sC
 .have g:=Xb (T' hd).2.2.2;have BI:Hid (Jq s n k p l=Dz s n k p l/\Jr s n k p l=0):=Zi;have HD:=O hd;go_in;go_wp2_with fail;go_call dL s n k p _ l _ G.o J as e w1 ⟨rfl,hb1⟩;rw[HD.o];have D:=(AG.new w 108 #[s,n,k,.int .u32 p,.slice B l.length c]).below hb1 AH;have E:=D.cell;have K:=D.lt;have V:Lz w w1 108 #[s,n,k,.int .u32 p,.slice B l.length c] (.slice w1 3 3) [68,byteOf k,byteOf s] (w1.alloc (.cells #[.int .u8 68,.int .u8 (k%256),.int .u8 (s%256)] 5)):=
   ⟨Qc w1 _ _ [68,byteOf k,byteOf s] gz AK AH,D.alloc _,(AW Aa hb1).alloc (I3 K) _,K,AH⟩
  go_wp2_with fail;go_call V.step n 2 _ rfl AD AH as e u0 ⟨v0,rfl,L⟩;have E:=L.box.cell;go_wp2_with fail;go_call L.step p 4 _ rfl AD FC as e u1 ⟨v1,rfl,M⟩;have E:=M.box.cell;go_wp2_with fail;go_call M.step (l.length:Int) 2 _ rfl AD FC as e u2 ⟨v2,rfl,A⟩;have E:=A.box.cell;have R:=O ((hsl.below A.AJ).mono A.AJ.size);go_wp2_with (at_builtin;refine iW AZ _ _ AZ w1 _ v2 _ _ l u2 AZ A.own AZ R.o Y FD A.hi ?_;intro P u3 T I S f);have N:Lz w w1 108 #[s,n,k,.int .u32 p,.slice B l.length c] P (DN s n k p l) u3:=
   ⟨T,A.box.cD S AD,A.AJ.trans (I.mono (I3 A.lo)),A.lo,Ap A.hi I.size⟩
  have d:=T8 s n k p l;have Q:Hid (Dz s n k p l=DN s n k p l++be 4 (Da (DN s n k p l):Int)):=rfl;generalize DN s n k p l=C at *;go_call XW u3 P C u3 (Af.FI N.own) AK U as e u4 ⟨rfl,hb4⟩;have W:=N.later hb4;have a:=RT C;generalize Da C=H at *;have b:(H:Int)<4294967296:=U;go_wp2_with fail;go_call W.step (H:Int) 4 _ rfl AD U as e u5 ⟨v5,rfl,F⟩;go_wp2;go_ret2;unfold VB;rw[BI.o.1,BI.o.2,Q.o];exact⟨_,rfl,Gc F.own (I3 F.lo),F.AJ⟩
end
def Af.bg{w:AA}{g:Nat}{cs:Array AB}{l:AE}(A:AG w g 5 cs)(B:cs.toList=A3 l):Af w w (.slice g l.length l.length) l:=by
 refine⟨_,_,rfl,Bh _,λ_=>⟨g,0,rfl,A.lt,λD E C=>?_⟩⟩;rw[DP,A.cell,<-Ng,B];simp[A3,C]
def ABm(s n k p:Int)(v:AB)(l:AE)(w:AA)(hsl:Af w w v l)(AX:∀c,v=.slice none 0 c->c=0)(x:l.length<=4611686018427387904)(Al:0<=p)(Am:p<4294967296):
 AI 79 #[.agg (G8 s n k p v)] w (VB s n k p l w):=by
 obtain⟨E,c,AV,Ac,hx⟩:=id hsl;subst AV;simp only[G8];have Aa:Below w w (w.alloc (.cells #[s,n,k,.int .u32 p,.slice E l.length c] 108)):=(AN _ _).alloc AK _;have r:=O Pt;rcases hd:Ex s n k p l with _|_
 .have BI:Hid (Jq s n k p l=[]/\Jr s n k p l=1):=Zi;have HD:=O hd;go_in;go_wp2_with fail;refine(jz s n k p _ l _ r.o x).mono ?_;exact sC
 .have Ak:=Xb (T' hd).2.2.2;have BI:Hid (Jq s n k p l=Dz s n k p l/\Jr s n k p l=0):=Zi;have HD:=O hd;go_in;go_wp2_with fail;go_call jz s n k p _ l _ r.o x as e w1 ⟨rfl,hb1⟩;rw[HD.o];have T:=(AG.new w 108 #[s,n,k,.int .u32 p,.slice E l.length c]).below hb1 AH;replace Aa:=AW Aa hb1;have B:Ck w1 (.slice E l.length c) l:=⟨(hsl.below Aa).mono Aa.size,AX⟩;go_wp2;refine Z6 [] [⟨6,14,5,#[.int .u8 68,.int .u8 (k%256),.int .u8 (s%256)],λAL=>.slice AL 3 3⟩] [9,13,17,20,21] [0,1,2,3,4,5,7,8,10,11,12,14,15,16,18,19] [9,13,17] [20,21,22] (Fr 20 3) #[true,true,true,true,true,true,false,true,true,false,true,true,true,false,true,true,true,false,true,true,false,false,false] AF AF rfl AD AD AD AF AF AF AF AF AF AF BK BK AH ?_;refine fN ?_;replace T:=T.drew;replace Aa:=Aa.drew;replace B:Ck w1.drew (.slice E l.length c) l:=B;generalize AQ:w1.drew=AC at *;have AR:w1.heap.size=AC.heap.size:=by rw[<-AQ];rfl
  rw[AR];have Ad:=T.cell;have An:=T.lt;repeat refine fQ ?_
  refine pre_nil ⟨?_,?_⟩
  .intro Ar hx o ho Aq;exact eY
  .refine Uh ?_;intro AY u J hK;replace Aa:=AW Aa u;replace B:=B.next u
   go_simp;go_at_call 39;go_call Ei n 2 _ _ rfl AD as e u1 ⟨v1,rfl,hown,hb,hk⟩;refine FT ?_;have A:=Ck.of hown;replace Aa:=AW Aa hb;replace B:=B.next hb
   obtain⟨L,V,P,rfl⟩:=A.shape;refine Uh ?_;intro AZ b J hK;replace Aa:=AW Aa b;replace B:=B.next b
   replace A:=A.next b
   go_simp;go_at_call 39;go_call Ei p 4 _ _ rfl AD as e u2 ⟨v2,rfl,hown,hb,hk⟩;refine FT ?_;have D:=Ck.of hown;replace Aa:=AW Aa hb;replace B:=B.next hb
   replace A:=A.next hb
   obtain⟨M,W,Q,rfl⟩:=D.shape;refine Uh ?_;intro Ab S J hK;replace Aa:=AW Aa S;replace B:=B.next S
   replace A:=A.next S
   replace D:=D.next S
   go_simp;go_at_call 39;go_call Ei (l.length:Int) 2 _ _ rfl AD as e u3 ⟨v3,rfl,hown,hb,hk⟩;refine FT ?_;have G:=Ck.of hown;replace Aa:=AW Aa hb;replace B:=B.next hb
   replace A:=A.next hb
   replace D:=D.next hb
   obtain⟨N,X,R,rfl⟩:=G.shape;repeat refine Yk ?_
   refine aq ?_;intro F I Ao AT AU AO;replace Aa:=AW Aa I;replace B:=B.next I
   replace A:=A.next I
   replace D:=D.next I
   replace G:=G.next I
   obtain⟨H,rfl,Ai,AS⟩:=b6 AT AU AO;have C:Ck F (.slice H 3 3) [68,byteOf k,byteOf s]:=⟨Af.bg (l:=[68,byteOf k,byteOf s]) AS gz,λc h=>by cases h⟩;simp only[Ef];refine⟨[],?_⟩;refine J6 ?_;intro J hK;go_simp;have d:=AG.new F 27 #[.slice H 3 3,.slice L V P,.slice M W Q,.slice N X R,.slice E l.length c];have hb:Below F F (F.alloc (.cells #[.slice H 3 3,.slice L V P,.slice M W Q,.slice N X R,.slice E l.length c] 27)):=(AN _ _).alloc AK _;refine FT ?_;replace C:=C.next hb
   replace A:=A.next hb
   replace D:=D.next hb
   replace G:=G.next hb
   replace B:=B.next hb
   replace Aa:=AW Aa hb;generalize F.alloc (.cells #[.slice H 3 3,.slice L V P,.slice M W Q,.slice N X R,.slice E l.length c] 27)=AJ at *;refine J6 ?_;intro J hK;go_simp;go_at_call 143;go_call Qp AJ F [.slice H 3 3,.slice L V P,.slice M W Q,.slice N X R,.slice E l.length c] [[68,byteOf k,byteOf s],be 2 n,be 4 p,be 2 (l.length:Int),l] _ AK d ⟨C,A,D,G,B,trivial⟩ AH FD as e t ⟨Ap,rfl,hown,hb,hk⟩;refine FT ?_;have Ah:=T8 s n k p l;have AM:[[68,byteOf k,byteOf s],be 2 n,be 4 p,be 2 (l.length:Int),l].flatten=DN s n k p l:=by simp[DN]
   rw[AM] at hown;have y:Hid (Dz s n k p l=[DN s n k p l,be 4 (Da (DN s n k p l):Int)].flatten):=by simp[Hid,Dz]
   generalize DN s n k p l=K at *;replace Aa:=AW Aa hb;have C:=Ck.of hown;obtain⟨g,j,i,rfl⟩:=C.shape;repeat refine Fk ?_
   refine MU ?_;go_wp2_with fail;go_call cn t _ K t C.1 U as e w' ⟨rfl,rfl⟩;have Ae:=RT K;generalize Da K=a at *;have Ag:(a:Int)<4294967296:=U;go_wp2_with fail;go_call Ei (a:Int) 4 _ _ rfl AD as e u5 ⟨v5,rfl,hown,hb,hk⟩;have A:=Ck.of hown;replace Aa:=AW Aa hb;replace C:=C.next hb
   obtain⟨Y,f,Z,rfl⟩:=A.shape;go_wp2_with fail;have d:=AG.new u5 27 #[.slice g j i,.slice Y f Z];have hb:Below u5 u5 (u5.alloc (.cells #[.slice g j i,.slice Y f Z] 27)):=(AN _ _).alloc AK _;replace C:=C.next hb
   replace A:=A.next hb
   replace Aa:=AW Aa hb;go_call Qp _ u5 [.slice g j i,.slice Y f Z] [K,be 4 (a:Int)] _ AK d ⟨C,A,trivial⟩ AH FD as e u6 ⟨v6,rfl,hown,hb,hk⟩;go_wp2;go_ret2;unfold VB;rw[BI.o.1,BI.o.2,y.o];exact px
section
variable{w w':AA}{g:Nat}{S:List Nat}
def VQ{ops:Array Oper}{rest:List Oper}{o:Oper}{a:Act}{Q:Exit->Act->AA->Prop}(hgd:o.guard=none)(s x:Operand)
 (ho:o.op=.call { callee:=.builtin .append,args:=#[s,x],argTypes:=#[27,27] })
 (base B:Nat)(v y:AB)(l m:AE)(wr:AA)(hs:a.eval s=v)(hown:wr.ownsRow base 5 1 v l.length (A3 l))(hx:a.eval x=y)(C:Af B wr y m)(hz:∀c,y=.slice none 0 c->c=0)
 (E:l.length+m.length<=140737488355328)(hbase:base<=wr.heap.size)
 (h:∀v' w',w'.ownsRow base 5 1 v' (l++m).length (A3 (l++m))->Below base wr w'->wr.grownBy w' v.ownBlock->wpList prog ops Q rest (a.put o.dst v') w') :
 wpList prog ops Q (o::rest) a wr:=by
 obtain⟨i0,hi,hz0,hz1,hz2⟩:=info_parts HH;obtain⟨ad,c,rfl,D,hcell⟩:=C;have fin:∀v' w',w'.ownsRow base 5 1 v' (l++m).length (A3 (l++m))->wr.grownBy w' v.ownBlock->wpList prog ops Q rest (a.put o.dst v') w':=by
  intro v' w' A hg;refine h v' w' A ?_ hg;exact qm
 exact tw
def iG(l:AE)(w:AA)(e:Ending)(w':AA):Prop:=∃A,e=.returned A/\w'.ownsRow w 5 1 A l.length (A3 l)/\Below w w w'
def oa(A:Addr)(n c:Nat)(l:AE)(w:AA)(E:n=l.length)(F:Af w w (.slice (some A) n c) l)(I:l.length<=140737488355328):
 AI 60 #[.slice (some A) n c] w (iG l w):=by
 subst E;have C:=O ((F.below ((AN _ _).alloc AK (.cells #[] 5))));have G:∀w:AA,(binOp .eql 27 (.slice (some A) l.length c) AL).run prog w=.ok (.bool false) w:=λw=>Lib.run_eql_slice_nil w _ _ (some A) l.length c 0 0 underlying27;go_in;go_wp2_with (at_builtin;refine VQ AZ _ _ AZ w _ (.slice w 0 0) _ [] l _ AZ (Qc w _ #[] [] rfl AK AH) AZ C.o gI AM AH ?_;intro J K B D H;rw[Dg] at B)
 go_ret;exact⟨_,rfl,B,((AN _ _).alloc AK _).trans D⟩
def Ix(l:AE):Int:=if CR l then Au l else 0
def Je(l:AE):Int:=if CR l then Br l else 0
def Iy(l:AE):Int:=if CR l then Av l else 0
def Jd(l:AE):Int:=if CR l then Ba l else 0
def Jf(l:AE):Int:=if CR l then 0 else 11
def IM(l:AE):AE:=if CR l then BC l else []
def Zs(l:AE)(w:AA)(e:Ending)(w':AA):Prop:=
 ∃A,e=.returned (.tuple #[.agg (G8 (Ix l) (Iy l) (Je l) (Jd l) A),.int .i64 (Jf l)])/\w'.ownsRow w 5 1 A (IM l).length (A3 (IM l))/\Below w w w'
def PV{l:AE}(A:CR l=false)(B:Below w w w'):Zs l w (.returned (.tuple #[.agg #[(),(),(),.int .u32 0,AL],.int .i64 11])) w':=by
 refine⟨.slice none 0 0,?_,?_,B⟩
 .simp[Ix,Je,Iy,Jd,Jf,A,G8]
 .rw[show IM l=[] by simp[IM,A]];exact Ia _ _ _ _
def oD{l:AE}{v:AB}{s n k p:Int}(A:CR l=true)(F:s=Au l)(D:n=Av l)(C:k=Br l)(E:p=Ba l)(G:w'.ownsRow w 5 1 v (BC l).length (A3 (BC l)))(B:Below w w w'):Zs l w (.returned (.tuple #[.agg #[s,n,k,.int .u32 p,v],()])) w':=by
 refine⟨v,?_,?_,B⟩
 .simp[Ix,Je,Iy,Jd,Jf,A,G8,F,D,C,E]
 .rw[show IM l=BC l by simp[IM,A]];exact G
def dN{wr:AA}{t:TypeId}{z:Array AB}(C:z.size=5)(B:AG wr g t z)(u0 u1 u2 u3 u4:AB):AG (((((wr.setCell ⟨g,0,none⟩ u0).setCell ⟨g,1,none⟩ u1).setCell ⟨g,2,none⟩ u2).setCell ⟨g,3,none⟩ u3).setCell ⟨g,4,none⟩ u4) g t #[u0,u1,u2,u3,u4]:=by
 have A:(((((z.setIfInBounds 0 u0).setIfInBounds 1 u1).setIfInBounds 2 u2).setIfInBounds 3 u3).setIfInBounds 4 u4)=#[u0,u1,u2,u3,u4]:=by
  obtain⟨z⟩:=z;match z,C with
  | [_,_,_,_,_],_=>rfl
 rw[<-A];exact(((((B.put 0 u0).put 1 u1).put 2 u2).put 3 u3).put 4 u4)
def T_{B:Nat}{wr:AA}(C:Below B w wr)(A:B<=g)(u0 u1 u2 u3 u4:AB):Below B w (((((wr.setCell ⟨g,0,none⟩ u0).setCell ⟨g,1,none⟩ u1).setCell ⟨g,2,none⟩ u2).setCell ⟨g,3,none⟩ u3).setCell ⟨g,4,none⟩ u4):=
 (((((C.setCell (p:=⟨g,0,none⟩) A u0).setCell (p:=⟨g,1,none⟩) A u1).setCell (p:=⟨g,2,none⟩) A u2).setCell (p:=⟨g,3,none⟩) A u3).setCell (p:=⟨g,4,none⟩) A u4)
def XO(u0 u1 u2 u3 u4:AB):w.grownBy (((((w.setCell ⟨g,0,none⟩ u0).setCell ⟨g,1,none⟩ u1).setCell ⟨g,2,none⟩ u2).setCell ⟨g,3,none⟩ u3).setCell ⟨g,4,none⟩ u4) (some g):=by
 have key:∀{C D c:AA},C.grownBy D (some g)->D.grownBy c (some g)->C.grownBy c (some g):=λA B=>⟨B.os.trans A.os,B.tape.trans A.tape,B.output.trans A.output,Ap A.size B.size,λG E F=>(B.block G (Co E A.size) F).trans (A.block G E F)⟩;exact key (key (key (key (LW u0) (LW u1)) (LW u2)) (LW u3)) (LW u4)
def Wq:(prog.info? 108).map (·.size)=some 5:=AF
def In.later{B:Nat}{l:AE}(D:In B g l w)(A:Below w w w')(E:B<=w.heap.size):In B g l w':=by
 obtain⟨⟨H,C,G⟩,F⟩:=D;exact⟨⟨H,C.below A C.lt,G.below (A.mono E)⟩,F⟩
def In.kept{B:Nat}{l:AE}(C:In B g l w)(A:AP S w w')(H:g∉S)(D:B<=w.heap.size)(E:∀k∈S,B<=k):In B g l w':=by
 obtain⟨⟨J,F,I⟩,G⟩:=C;exact⟨⟨J,F.kept A H,I.below (A.below D E)⟩,G⟩
def Ck.kept{v:AB}{l:AE}(F:Ck w v l)(C:AP S w w')(J:∀a n c,v=.slice (some a) n c->a.block∉S):Ck w' v l:=by
 obtain⟨⟨a,c,D,G,L⟩,M⟩:=F;refine⟨⟨a,c,D,G,λI=>?_⟩,M⟩;obtain⟨A,o,ha,B,H⟩:=L I;subst ha;refine⟨A,o,rfl,Co B C.size,λE N K=>?_⟩;exact(Th (a:=⟨A,o+E,none⟩) (C.block A B (J _ _ _ D))).trans (H E N K)
end
section
variable{n base:Nat}{T t:TypeId}{zs:Array AB}{w' wr:AA}{xs:List AB}
def AIj{l:AE}(A:15<=l.length):AQ (List.take 1 (List.take 10 (List.drop 1 l)))=Br l/\AQ (List.take 1 (List.drop 1 (List.take 10 (List.drop 1 l))))=Au l/\AQ (List.take 2 (List.drop 1 (List.drop 1 (List.take 10 (List.drop 1 l)))))=Av l/\
 AQ (List.take 4 (List.drop 2 (List.drop 1 (List.drop 1 (List.take 10 (List.drop 1 l))))))=Ba l/\AQ (List.take 2 (List.drop 4 (List.drop 2 (List.drop 1 (List.drop 1 (List.take 10 (List.drop 1 l)))))))=F3 l:=by
 obtain⟨B,C,E,F,G,H,I,J,K,L,D,t,rfl⟩:=eleven A;exact⟨rfl,rfl,rfl,rfl,rfl⟩
def TG{w:AA}{g:Nat}{v:AB}(E:w.ownsRow base t 1 v n xs)(H:w.grownBy w' (some g))(I:some g≠v.ownBlock):w'.ownsRow base t 1 v n xs:=by
 obtain⟨J,K⟩:=E;refine⟨J,?_⟩;rcases K with F|⟨B,D,cur,rfl,G,C,rest⟩
 .exact .inl F
 .refine .inr ⟨B,D,cur,rfl,G,(H.block B (E7.1 C).1 (λA=>I ?_)).trans C,rest⟩;simp[Value.ownBlock] at A ⊢;exact A.symm
def bZ{w:AA}{v:AB}(B:w.ownsRow base t 1 v n xs):∀k,v.ownBlock=some k->base<=k/\k<w.heap.size:=by
 intro k A;rcases B.2 with ⟨rfl,_⟩|⟨g,E,cur,rfl,C,D,_⟩
 .simp[Value.ownBlock] at A
 .simp[Value.ownBlock] at A;subst A;exact⟨C,(E7.1 D).1⟩
structure L8(w:AA)(FK ls body:AE)(n5 g g7:Nat)(Nr:Array AB)(v5:AB)(W:AA):Prop where
 z:AG W w 108 #[(),(),(),.int .u32 0,AL]
 d:AG W g 108 Nr
 r:In w (w.heap.size+1) FK W
 r2:In w g7 ls W
 own:W.ownsRow (w.heap.size+2) 5 1 v5 n5 (A3 body)
 AJ:Below w w W
 h1:w.heap.size+1<g
 h2:g<g7
 h3:∀k,v5.ownBlock=some k->k<g7
section
variable {w:AA} {FK ls body:AE} {n5 g g7:Nat} {Nr:Array AB} {v5:AB} {W W':AA}
def L8.later(A:L8 w FK ls body n5 g g7 Nr v5 W)(B:Below W W W'):L8 w FK ls body n5 g g7 Nr v5 W':=
 ⟨A.z.below B A.z.lt,A.d.below B A.d.lt,A.r.later B A.AJ.size,A.r2.later B A.AJ.size,Qe A.own B,AW A.AJ B,A.h1,A.h2,A.h3⟩
def L8.one{B:AE}(h:L8 w FK ls body n5 g g7 Nr v5 W)(D:In w (w.heap.size+1) B W')(A:W.grownBy W' (some (w.heap.size+1))):L8 w B ls body n5 g g7 Nr v5 W':=by
 have E:=h.h1;have F:=h.h2;refine⟨h.z.grown A AH,h.d.grown A AM,D,h.r2.kept (S:=[w.heap.size+1]) (AP.HW A AH) AM h.AJ.size AH,TG h.own A (λC=>?_),h.AJ.grown A h.AJ.size Pu,h.h1,h.h2,h.h3⟩;have:=(bZ h.own _ C.symm).1;omega
def L8.two{B:AE}(h:L8 w FK ls body n5 g g7 Nr v5 W)(D:In w g7 B W')(A:W.grownBy W' (some g7)):L8 w FK B body n5 g g7 Nr v5 W':=by
 have E:=h.h1;have F:=h.h2;refine⟨h.z.grown A AM,h.d.grown A AM,h.r.kept (S:=[g7]) (AP.HW A AH) AM h.AJ.size AM,D,TG h.own A (λC=>?_),h.AJ.grown A h.AJ.size Pu,h.h1,h.h2,h.h3⟩;have:=h.h3 _ C.symm;omega
end
def FW.later{w:AA}{l:AE}(D:FW w T zs l wr)(A:Below wr wr w'):FW w T zs l w':=by
 obtain⟨C,F,B,E⟩:=D;exact⟨C.below A C.lt,F.later A B.size,AW B A,E⟩
def FW.drew{w:AA}{l:AE}(h:FW w T zs l wr):FW w T zs l wr.drew:=h.later Y_
def FW.start'{w:AA}{a:BH}{c:Nat}{l:AE}(C:l.length=n)(A:Af w w (.slice a n c) l)(B:l.length<=1000):
 FW w T zs l ((w.alloc (.cells zs T)).alloc (.cells #[.slice a n c] 282)):=by
 subst C;exact FW.start A B
def oC(v:AB)(l:AE)(w:AA)(hsl:Af w w v l)(B0:l.length<=140737488355328):
 AI 114 #[v] w (Zs l w):=by
 obtain⟨Bw,c,Bl,Bz,hx⟩:=id hsl;subst Bl;by_cases AV:15<=l.length
 .obtain⟨B,o,rfl,P,BA⟩:=hx U;clear hx;have S:=BA 0 (l[0]' U) (BL U);have r:(AQ (List.take 1 l))=((l[0]' U).toNat:Int):=by simpa using Jh l 0 U
  generalize (l[0]' U)=Bu at S r;rw[Ci] at S;clear BA;have B5:(15:Int)<=(l.length:Int):=U;have B6:(l.length:Int)<=(c:Int):=U;go_in;have Q:=FW.start' (T:=108) (zs:=#[.int .i64 0,.int .i64 0,.int .i64 0,.int .u32 0,AL]) (show((l.drop 1).take 10).length=10 by simp;omega) (hsl.sub (n:=1) (k:=10) U) AM;have Ah:((l.drop 1).take 10).length=10:=AM;obtain⟨At,AY⟩:∃At,At=(l.drop 1).take 10:=⟨_,rfl⟩;rw[<-AY] at Q Ah;have X:=O AY;have A2:=O Ah;clear AY Ah;have Bq:Hid (Af w w (.slice (some ⟨B,o+11,none⟩) (l.length-4-11) (c-11)) (BC l)):=by
   exact rU
  have A9:(BC l).length=l.length-4-11:=gx;have OJ:=O A9;clear A9;go_wp2_with fail;refine Z6 [w.heap.size+1] [⟨10,6,108,#[(),(),(),.int .u32 0,AL],λB=>.pointer B⟩] [0,1,2,3,8,11] [5,6,7] [0,1,2,3,4,8,9] [11] (Fr 11 1) #[false,false,false,false,false,true,true,true,false,false,false,false] AF AF rfl AD AD AD AF AF AF AF AF AF AF BK BK AH ?_;refine fN ?_;replace Q:=Q.drew;generalize ((w.alloc (.cells #[(),(),(),.int .u32 0,AL] 108)).alloc (.cells #[.slice (some ⟨B,o+1,none⟩) 10 (c-1)] 282)).drew=Bv at *;repeat refine fQ ?_
  refine pre_nil ⟨?_,?_⟩
  .intro CF hx o ho CE;exact eY
  .refine Ol rfl ?_;intro AU E A hK;replace Q:=Q.later E;clear E;go_simp;go_at_call 181;refine(Q.next 1 _ rfl AD AD U_).mono ?_;rintro e u0 ⟨F,B7,R,Bf,rfl,AC,hgr⟩;refine Rw ?_;clear Q hgr hK A;refine Ol rfl ?_;intro AU E A hK;replace AC:=AC.later E;clear E;go_simp;go_at_call 181;refine(AC.next 1 _ rfl AD AD U_).mono ?_;rintro e u1 ⟨G,B8,V,Bg,rfl,AJ,hgr⟩;refine Rw ?_;clear AC hgr hK A;refine Ol rfl ?_;intro AU E A hK;replace AJ:=AJ.later E;clear E;go_simp;go_at_call 181;refine(AJ.next 2 _ rfl AD AD U_).mono ?_;rintro e u2 ⟨H,BR,d,Bi,rfl,AO,hgr⟩;refine Rw ?_;clear AJ hgr hK A;refine Ol rfl ?_;intro AU E A hK;replace AO:=AO.later E;clear E;go_simp;go_at_call 181;refine(AO.next 4 _ rfl AD AD U_).mono ?_;rintro e u3 ⟨D,FK,f,Ai,rfl,C,hgr⟩;refine Rw ?_;clear AO hgr hK A;have Bn:0<=D/\D<4294967296:=by
    have h:=KW (BR.take 4);have BZ:(BR.take 4).length=4:=by have:=A2.o;simp;omega
    rw[BZ] at h;rw[f.o.1];exact h
   obtain⟨CB,CC⟩:=Bn;refine Uh ?_;intro BV A6 A hK;replace C:=C.later A6;clear A6;go_simp;have A4:w.heap.size+2<=BV.heap.size:=by obtain⟨⟨_,P,_⟩,_⟩:=C.r;have:=P.lt;omega
   go_at_call 60;refine(oa _ _ _ (BC l) _ OJ.o.symm ((Bq.o.below C.AJ).mono C.AJ.size) U').mono ?_;rintro e u5 ⟨v5,rfl,hown,IW⟩;refine hK _ _ R9 ?_;clear hK A;replace C:=C.later IW;clear IW;obtain⟨L,M,Bm⟩:=CV hown;replace hown:=Gc hown A4;clear A4;subst Bm;obtain⟨n5,x⟩:∃n5,n5=(BC l).length:=⟨_,rfl⟩;rw[<-x];rw[<-x] at hown;have OH:=O x;clear x;repeat refine Yk ?_
   refine aq ?_;intro Ax AZ CD BI BJ A5;replace C:=C.later AZ;replace hown:=Qe hown AZ;clear AZ;obtain⟨g,rfl,Be,a⟩:=b6 BI BJ A5;clear BI BJ A5;have Bb:=a.cell;have Bc:=a.frozen;simp only[Ef];refine⟨[g],?_⟩;refine J6 ?_;intro A hK;go_simp;have hgr:=XO (w:=Ax) (g:=g) G H F (.int .u32 D) (.slice L n5 M);have s:=dN rfl a G H F (.int .u32 D) (.slice L n5 M);refine Rw ?_;clear hK A Bb Bc;simp at Be;have A7:=a.apart hown AD;replace hown:=TG hown hgr A7;have Am:=C.z.grown hgr AM;have BF:=C.r.kept (S:=[g]) (AP.HW hgr AH) AM C.AJ.size AM;have Z:=C.AJ.grown hgr C.AJ.size Pu;clear hgr A7 a C;generalize (((((Ax.setCell ⟨g,0,none⟩ G).setCell ⟨g,1,none⟩ H).setCell ⟨g,2,none⟩ F).setCell ⟨g,3,none⟩ (.int .u32 D)).setCell ⟨g,4,none⟩ (.slice L n5 M))=K at *;refine MU ?_;have BS:Af w w (.slice (some ⟨B,o+(l.length-4),none⟩) (l.length-(l.length-4)) (c-(l.length-4))) (l.drop (l.length-4)):=by
    have:=hsl.sub (n:=l.length-4) (k:=4) U;exact eW
   have N:Below K K (K.alloc (.cells #[.slice (some ⟨B,o+(l.length-4),none⟩) (l.length-(l.length-4)) (c-(l.length-4))] 282)).drew:=((AN _ _).alloc AK _).drew;have hR:L8 w FK (l.drop (l.length-4)) (BC l) n5 g K #[G,H,F,.int .u32 D,.slice L n5 M] (.slice L n5 M) (K.alloc (.cells #[.slice (some ⟨B,o+(l.length-4),none⟩) (l.length-(l.length-4)) (c-(l.length-4))] 282)).drew:=by
    refine⟨Am.below N Am.lt,s.below N s.lt,BF.later N Z.size,⟨⟨_,(AG.new _ _ _).drew,BS.below (AW Z N)⟩,Z.size⟩,Qe hown N,AW Z N,U,s.lt,λk hk=>(bZ hown k hk).2⟩
   clear Am BF hown N BS s;go_wp2_with fail;refine QE [w.heap.size+1,K.heap.size] [5,12,17,22] [0,1,2,3,4,6,7,8,5,9,10,11,14,15,16,12,13,17,18,19,20,21,22,23,24] AF AF rfl AD AF BK ?_;refine Ea ?_;generalize (K.alloc (.cells #[.slice (some ⟨B,o+(l.length-4),none⟩) (l.length-(l.length-4)) (c-(l.length-4))] 282)).drew=BW at *;generalize K.heap.size=g7 at *;clear Z;have W4:=hR.d.cell;have XC:=hR.d.lt;have Xf:B<BW.heap.size:=Co P hR.AJ.size;have B9:¬B=w.heap.size+1:=U;have B_:¬B=g7:=by have:=hR.r2.hB;omega
   have B':¬g=w.heap.size+1:=by have:=hR.h1;omega
   have CA:¬g=g7:=by have:=hR.h2;omega
   replace S:=(hR.AJ.cell (p:=⟨B,o,none⟩) P).trans S;obtain⟨AS,BD⟩:∃AS:Int,AS=(Bu.toNat:Int):=⟨_,rfl⟩;rw[<-BD] at S r;clear BD;obtain⟨Ay,Az,A0,A1,A3⟩:=AIj AV;have BM:F=Br l:=by rw[R.o.1,X.o];exact Ay
   have BN:G=Au l:=by rw[V.o.1,R.o.2,X.o];exact Az
   have BO:H=Av l:=by rw[d.o.1,V.o.2,R.o.2,X.o];exact A0
   have BP:D=Ba l:=by rw[f.o.1,d.o.2,V.o.2,R.o.2,X.o];exact A1
   have BQ:AQ (List.take 2 FK)=F3 l:=by rw[f.o.2,d.o.2,V.o.2,R.o.2,X.o];exact A3
   have Ai:FK.length=2:=U_;have Ap:=O (And.intro BM (And.intro BN (And.intro BO BP)));have BT:=O BQ;have Aq:=O Ai;have An:=O r;clear Ay Az A0 A1 A3 BM BN BO BP BQ R V d f Bf Bg Bi Ai r;by_cases AX:AS=68
   .subst AX;iterate 8 refine Fk ?_
    refine J6 ?_;intro A hK;go_simp;go_at_call 181;refine(WI w (w.heap.size+1) 2 _ FK _ rfl AD AD hR.r (by have:=Aq.o;omega) (by have:=Aq.o;omega)).mono ?_;rintro e u8 ⟨rfl,BG,Ae⟩;rw[BT.o];refine hK _ _ (AP.HW Ae AH) ?_;clear hK A;replace hR:=hR.one BG Ae;clear BG Ae W4 XC Xf S;have W4:=hR.d.cell;have XC:=hR.d.lt;have Xf:B<u8.heap.size:=Co P hR.AJ.size;by_cases b:F3 l=(n5:Int)
    .have Bj:(F3 l !=(n5:Int))=false:=by rw[b];simp
     have BU:=O b;clear b;iterate 6 refine Fk ?_
     refine J6 ?_;intro A hK;go_simp;go_at_call 181;have BB:(List.drop (l.length-4) l).length=4:=AM;have i:=O BB;clear BB;have AR:=KW (List.drop (l.length-4) l);rw[i.o] at AR;have Ar:Hid (AQ (List.take 4 (List.drop (l.length-4) l))=EX l):=by
      unfold Hid EX;rw[HB (by rw[i.o];omega)]
     have Bo:0<=EX l:=AR.1;have Bp:EX l<4294967296:=AR.2;clear AR;refine(WI w g7 4 _ (List.drop (l.length-4) l) _ rfl AD AD hR.r2 (by have:=i.o;omega) (by have:=i.o;omega)).mono ?_;rintro e u9 ⟨rfl,BH,Ag⟩;rw[Ar.o];refine hK _ _ (AP.HW Ag AH) ?_;clear hK A;replace hR:=hR.two BH Ag;clear BH Ag W4 XC Xf;have Bs:=O ((hsl.take (n:=l.length-4) U).below hR.AJ);have Bd:(F4 l).length<=4611686018427387904:=by unfold F4;simp;omega
     obtain⟨AT,Al⟩:∃AT,AT=EX l:=⟨_,rfl⟩;rw[<-Al] at Bo Bp ⊢;have As:=O Al;clear Al Ar;iterate 1 refine Fk ?_
     refine J6 ?_;intro A hK;go_simp;go_at_call 112;refine(XW w _ (F4 l) _ Bs.o hR.AJ.size Bd).mono ?_;rintro e u10 ⟨rfl,Ab⟩;refine hK _ _ (AP.of_below Ab) ?_;clear hK A;replace hR:=hR.later Ab;clear Ab;have W4:=hR.d.cell;have XC:=hR.d.lt;have Xf:B<u10.heap.size:=Co P hR.AJ.size;obtain⟨j,Ad⟩:∃j:Int,j=(Da (F4 l):Int):=⟨_,rfl⟩;rw[<-Ad];have Ao:=O Ad;clear Ad;by_cases y:AT=j
     .subst y;iterate 4 refine Fk ?_
      refine J6 ?_;intro A hK;go_simp;go_at_call 182;have Ak:=(Ck.of (l:=BC l) (by have:=hR.own;rw[OH.o] at this;exact this)).1;rw[<-OH.o] at Ak;refine(dL G H F D _ (BC l) _ Ak U').mono ?_;rintro e u11 ⟨rfl,Ac⟩;refine hK _ _ (AP.of_below Ac) ?_;clear hK A Ak;replace hR:=hR.later Ac;clear Ac W4 XC Xf;have W4:=hR.d.cell;have XC:=hR.d.lt;have Xf:B<u11.heap.size:=Co P hR.AJ.size;have I:=Ap.o;have Y:Hid (CR l=Ex G H F D (BC l)):=by
       unfold Hid CR;rw[An.o,<-As.o,<-Ao.o,I.1,I.2.1,I.2.2.1,I.2.2.2];have Bk:(F3 l==(l.length:Int)-15)=true:=C7.2 (by have BX:=OH.o;have BY:=OJ.o;have Bx:=BU.o;omega);rw[Bk];simp[AV]
      clear I;rcases u:Ex G H F D (BC l) with _|_
      .rw[u] at Y;have Gu:=Y;clear u Y;refine Ug ?_;exact sI
      .rw[u] at Y;clear u;refine Ug ?_;have hz:=hR.z;have Aa:=hR.AJ;have hown:=hR.own;have B2:=hR.h1;clear hR;have hcz:=hz.cell;have hfz:=hz.frozen;have B4:=hz.lt;go_wp2;have hgr:=XO (w:=u11) (g:=w.heap.size) G H F (.int .u32 D) (.slice L n5 M);refine BE (v:=.tuple #[.agg #[G,H,F,.int .u32 D,.slice L n5 M],()]) uv rfl ?_;have I:=Ap.o;refine oD Y.o I.2.1 I.2.2.1 I.1 I.2.2.2 ?_ (T_ Aa AK _ _ _ _ _);exact qc
     .have B3:(AT !=j)=true:=E8.2 y;have J:CR l=false:=by
       have:(EX l==(Da (F4 l):Int))=false:=Aw.2 (by rw[<-As.o,<-Ao.o];exact y);simp[CR,this]
      have Gu:=O J;clear J y;iterate 3 refine Fk ?_
      exact tp
    .have Bj:(F3 l !=(n5:Int))=true:=E8.2 b;have J:CR l=false:=oG (by have BX:=OH.o;have BY:=OJ.o;omega);have Gu:=O J;clear J b;iterate 3 refine Fk ?_
     exact sW
   .have By:(AS !=68)=true:=E8.2 AX;have J:CR l=false:=oH (by rw[An.o];exact AX);have Gu:=O J;clear J;iterate 5 refine Fk ?_
    iterate 3 (refine MT rfl rfl rfl rfl rfl ?_)
    refine Uk ?_;iterate 1 (refine MT rfl rfl rfl rfl rfl ?_)
    iterate 2 refine Fk ?_
    exact sW
 .have J:CR l=false:=dY AV;have B1:(l.length:Int)<15:=U;have hz:AG (w.alloc (.cells #[(),(),(),.int .u32 0,AL] 108)) w 108 #[(),(),(),.int .u32 0,AL]:=AG.new _ _ _;clear hx;go_in;go_wp2;refine BE (v:=.tuple #[.agg #[(),(),(),.int .u32 0,AL],.int .i64 11]) (DT results114 _ _ w 108 _ (0,0) _ _ rfl rfl hz underlying108 rfl Wq) rfl ?_;exact PV J C8
end
def xn{o:Oper}{a:Act}{K:Act->AA->Prop}{Q:Exit->Act->AA->Prop}(s x:Operand)
 (I:o.op=.call { callee:=.builtin .append,args:=#[s,x],argTypes:=#[27,27] })
 (B:Nat)(D:Addr)(n c:Nat)(m:AE)(wr:AA)(L:a.eval s=.slice none 0 0)(M:a.eval x=.slice (some D) n c)(H:n=m.length)(N:Af B wr (.slice (some D) n c) m)
 (Y:m.length<=140737488355328)
 (h:∀v' C,C.ownsRow wr 5 1 v' m.length (A3 m)->Below wr wr C->K (a.put o.dst v') C):o.wp prog a wr K Q:=by
 subst H;obtain⟨S,F,O,P,R⟩:=info_parts HH;obtain⟨V,W,E,X,hcell⟩:=N;injection E with h1 h2 h3;subst h1 h3;refine wp_append_own _ s x 27 I wr 5 S (.int .u8 0) 1 1 underlying27 F O P R rfl AD AL 0 [] L ⟨rfl,.inl ⟨rfl,rfl⟩⟩ D m.length c (A3 m) M LA ?_ (KV m) Hr U AK ?_
 .exact so
 .intro v' C J A _;refine h v' C ?_ ⟨A.os,A.tape,A.output,A.size,λT G=>A.block T G (by simp[Value.ownBlock])⟩;simpa using J
def kW(v:AB)(l:AE)(w:AA)(hsl:Af w w v l)(BZ:l.length<=140737488351232):
 AI 36 #[v] w (Zs l w):=by
 obtain⟨a,c,A6,BW,hx⟩:=id hsl;subst A6;have hz:AG (w.alloc (.cells #[(),(),(),.int .u32 0,AL] 108)) w 108 #[(),(),(),.int .u32 0,AL]:=AG.new _ _ _;have A:Below w w (w.alloc (.cells #[(),(),(),.int .u32 0,AL] 108)):=(AN _ _).alloc AK _;by_cases Ab:15<=l.length
 .obtain⟨b,o,rfl,P,X⟩:=hx U;clear hx;have C:=X 0 (l[0]' U) (BL U);have V:(AQ (List.take 1 l))=((l[0]' U).toNat:Int):=by simpa using Jh l 0 U
  generalize (l[0]' U)=BO at C V;rw[Ci] at C;have H:=X 1 (l[1]' U) (BL U);have s:Br l=((l[1]' U).toNat:Int):=Jh l 1 U;generalize (l[1]' U)=As at H s;have I:=X 2 (l[2]' U) (BL U);have t:Au l=((l[2]' U).toNat:Int):=Jh l 2 U;generalize (l[2]' U)=At at I t;clear X;have AU:=O s;have AV:=O t;clear s t;have Be:(15:Int)<=(l.length:Int):=U;have Bf:(l.length:Int)<=(c:Int):=U;have Bg:=A4 l.length 15;have AT:=O (hsl.sub (n:=9) (k:=2) U);have BH:=O (hsl.sub (n:=3) (k:=2) U);have BI:=O (hsl.sub (n:=5) (k:=4) U);have BG:Hid (Af w w (.slice (some ⟨b,o+11,none⟩) (l.length-4-11) (c-11)) (BC l)):=by
   exact rU
  have Ah:(BC l).length=l.length-4-11:=gx;have OJ:=O Ah;clear Ah;obtain⟨d,An⟩:∃d:Int,d=(BO.toNat:Int):=⟨_,rfl⟩;rw[<-An] at C V;have f:=O V;clear An V;obtain⟨m,AO⟩:∃m:Int,m=F3 l:=⟨_,rfl⟩;have i:Hid (m=F3 l):=AO;have T:Hid (AQ (List.take 2 (List.drop 9 l))=m):=AO.symm;clear AO;by_cases AR:(l.length:Int)-15=m
  .by_cases u:d=68
   .subst u AR;have BF:=bm (List.drop 3 l) 2 AD;have AX:Hid (AQ (List.take 2 (List.drop 3 l))=Av l):=rfl;have AY:Hid (AQ (List.take 4 (List.drop 5 l))=Ba l):=rfl;have BD:0<=Ba l/\Ba l<4294967296:=by
     have h:=KW (List.take 4 (List.drop 5 l));have Az:(List.take 4 (List.drop 5 l)).length=4:=AM;rw[Az] at h;exact h
    obtain⟨BA,BB⟩:=BD;clear BF;go_in;go_wp2_with fail;refine(Ev _ _ _ _ (AT.o.below A) AM).mono ?_;rintro e Ar ⟨rfl,rfl⟩;rw[T.o];replace C:=(A.cell (p:=⟨b,o,none⟩) P).trans C;replace H:=(A.cell (p:=⟨b,o+1,none⟩) P).trans H;replace I:=(A.cell (p:=⟨b,o+2,none⟩) P).trans I;go_wp2_with fail;refine Z6 [] [⟨22,4,108,#[(),(),(),.int .u32 0,AL],λb=>.pointer b⟩] [10,13,20,23] [0,1,2,3,4,5,6,7,8,9,11,12,15,16,17,18,19] [10,13,14,20,21] [23] (Fr 23 1) #[true,true,true,true,true,true,true,true,true,true,false,true,true,false,false,true,true,true,true,true,false,false,false,false] AF AF rfl AD AD AD AF AF AF AF AF AF AF BK BK AH ?_;refine fN ?_;replace hz:=hz.drew;replace A:=A.drew;replace H:(w.alloc (.cells #[(),(),(),.int .u32 0,AL] 108)).drew.cell? ⟨b,o+1,none⟩=some (.int .u8 (As.toNat:Int)):=H;replace I:(w.alloc (.cells #[(),(),(),.int .u32 0,AL] 108)).drew.cell? ⟨b,o+2,none⟩=some (.int .u8 (At.toNat:Int)):=I;clear C;generalize (w.alloc (.cells #[(),(),(),.int .u32 0,AL] 108)).drew=Ay at *;have BT:b<Ay.heap.size:=Co P A.size;have BJ:=E5 As;have BM:=E5 At;repeat refine fQ ?_
    refine pre_nil ⟨?_,?_⟩
    .intro BN hx o ho Bl;exact eY
    clear H I;refine Ol rfl ?_;intro BP x D hK;replace hz:=hz.below x hz.lt;replace A:=AW A x;clear x;refine Hl ?_;refine(Ev _ _ _ _ (BH.o.below A) AM).mono ?_;rintro e u1 ⟨rfl,rfl⟩;rw[AX.o];refine hK _ _ OB ?_;clear hK D;refine Ol rfl ?_;intro BQ y D hK;replace hz:=hz.below y hz.lt;replace A:=AW A y;clear y;refine Hl ?_;refine(Ev _ _ _ _ (BI.o.below A) AM).mono ?_;rintro e u2 ⟨rfl,rfl⟩;rw[AY.o];refine hK _ _ OB ?_;clear hK D;refine Uh ?_;intro AZ AC D hK;replace hz:=hz.below AC hz.lt;replace A:=AW A AC;clear AC;refine xn _ _ rfl _ _ _ _ (BC l) AZ rfl rfl OJ.o.symm (BG.o.below A) U' ?_;intro Bk u5 hown IW;obtain⟨M,N,A7⟩:=CV hown;subst A7;have Ac:w.heap.size+1<=AZ.heap.size:=hz.lt;refine hK _ _ R9 ?_;clear hK D;replace hz:=hz.below IW hz.lt;replace A:=AW A IW;replace hown:=Gc hown Ac;clear IW Ac;obtain⟨F,Z⟩:∃F,F=(BC l).length:=⟨_,rfl⟩;rw[<-Z];rw[<-Z] at hown;have OH:=O Z;clear Z;go_simp;repeat refine Yk ?_
    refine aq ?_;intro Aa W Bj Ap Aq Ad;replace hz:=hz.below W hz.lt;replace A:=AW A W;replace hown:=Qe hown W;clear W;obtain⟨E,rfl,A5,S⟩:=b6 Ap Aq Ad;clear Ap Aq Ad;have A0:=S.cell;have A2:=S.frozen;simp only[Ef];refine⟨[E],?_⟩;refine J6 ?_;intro D hK;go_simp;clear BJ BM;rw[<-AU.o,<-AV.o];have hgr:=XO (w:=Aa) (g:=E) (.int .i64 (Au l)) (.int .i64 (Av l)) (.int .i64 (Br l)) (.int .u32 (Ba l)) (.slice M F N);have R:=dN rfl S (.int .i64 (Au l)) (.int .i64 (Av l)) (.int .i64 (Br l)) (.int .u32 (Ba l)) (.slice M F N);refine Rw ?_;clear hK D A0 A2;try simp at A5
    have Ag:=S.apart hown AD;replace hown:=TG hown hgr Ag;replace hz:=hz.grown hgr AM;replace A:=A.grown hgr A.size Pu;clear hgr Ag S;generalize (((((Aa.setCell ⟨E,0,none⟩ (.int .i64 (Au l))).setCell ⟨E,1,none⟩ (.int .i64 (Av l))).setCell ⟨E,2,none⟩ (.int .i64 (Br l))).setCell ⟨E,3,none⟩ (.int .u32 (Ba l))).setCell ⟨E,4,none⟩ (.slice M F N))=BR at *;refine MU ?_;have Ae:=AIs Ab (by rw[f.o]) (by rw[<-i.o]);have L:=O Ae;clear Ae;generalize Ao:Au l=G at *;generalize Ak:Av l=n at *;generalize hk:Br l=k at *;generalize Am:Ba l=p at *;have Ax:=O (And.intro Ao (And.intro Ak (And.intro hk Am)));clear Ao Ak hk Am AU AV AX AY i T f;have AS:=Ck.of (l:=BC l) (by have:=hown;rw[OH.o] at this;exact this);rw[<-OH.o] at AS;have j:=O AS;clear AS;have Ai:=R.cell;go_wp2_with fail;refine(ABm G n k p _ (BC l) _ j.o.1 j.o.2 U' BA BB).mono ?_;rintro e u8 ⟨BN,rfl,Al,Q⟩;clear Ai j;replace hz:=hz.below Q hz.lt;replace A:=AW A Q;replace hown:=Qe hown Q;replace R:=R.below Q R.lt;clear Q;obtain⟨BS,BU,A9⟩:=CV Al;subst A9;rcases J:Ex G n k p (BC l) with _|_
    .have g:Hid (Jr G n k p (BC l)=1):=by simp[Hid,Jr,J]
     rw[J] at L;clear J;rw[g.o];have A1:=hz.cell;have A3:=hz.frozen;go_wp2;refine BE (v:=.tuple #[.agg #[(),(),(),.int .u32 0,AL],.int .i64 11]) fV rfl ?_;exact PV L.o (T_ A AK _ _ _ _ _)
    .have g:Hid (Jr G n k p (BC l)=0):=by simp[Hid,Jr,J]
     rw[J] at L;clear J;rw[g.o];generalize Jq G n k p (BC l)=r at *;have BX:=(Af.FI Al).string;have BY:=(hsl.below A).string;generalize r.length=Bi at *;have A1:=hz.cell;have A3:=hz.frozen;have Ai:=R.cell;by_cases AJ:r=l
     .subst AJ;go_wp2;have hgr:=XO (w:=u8) (g:=w.heap.size) G n k (.int .u32 p) (.slice M F N);refine BE (v:=.tuple #[.agg #[G,n,k,.int .u32 p,.slice M F N],()]) fV rfl ?_;have Y:=Ax.o;refine oD (by rw[L.o];simp) Y.1.symm Y.2.1.symm Y.2.2.1.symm Y.2.2.2.symm ?_ (T_ A AK _ _ _ _ _);exact qc
     .have Bd:(r==l)=false:=Aw.2 AJ;have B:CR l=false:=L.o.trans (by simp[AJ]);have K:=O B;clear B;go_wp2;refine BE (v:=.tuple #[.agg #[(),(),(),.int .u32 0,AL],.int .i64 11]) fV rfl ?_;exact PV K.o (T_ A AK _ _ _ _ _)
   .have BV:(d !=68)=true:=E8.2 u;have B:CR l=false:=oH (by rw[f.o];exact u);have K:=O B;clear B;subst AR;go_in;go_wp2_with fail;refine(Ev _ _ _ _ (AT.o.below A) AM).mono ?_;rintro e Ar ⟨rfl,rfl⟩;rw[T.o];replace C:=(A.cell (p:=⟨b,o,none⟩) P).trans C;go_wp2;refine fL ?_;exact PV K.o A
  .have B:CR l=false:=oG (by rw[<-i.o];omega);have K:=O B;have Bc:((l.length:Int)-15 !=m)=true:=E8.2 AR;clear B;go_in;go_wp2_with fail;refine(Ev _ _ _ _ (AT.o.below A) AM).mono ?_;rintro e Ar ⟨rfl,rfl⟩;rw[T.o];go_wp2;refine fL ?_;exact PV K.o A
 .have B:CR l=false:=dY Ab;have Bb:(l.length:Int)<15:=U;clear hx;go_in;go_wp2;refine fL ?_;exact PV B A
def bytes_beq(l A:AE):((⟨l.toArray⟩:ByteArray)==⟨A.toArray⟩)=(l==A):=by
 show(l.toArray==A.toArray)=_;simp
def AKV{B B':Nat}{v v':AB}{l A:AE}(w:AA)(h:Af B w v l)(D:Af B' w v' A):
 AI 113 #[v,v'] w (BX (.bool (l==A)) w):=by
 have E:=h.string;have F:=D.string;have C:=O (bytes_beq l A);go_in;go_wp2;go_ret;exact⟨by rw[<-C.o];rfl,rfl⟩
def UC(v:AB)(l:AE)(w:AA)(E:Af w w v l)(I:l.length<=140737488355328):
 AI 60 #[v] w (iG l w):=by
 obtain⟨A,c,rfl,L,J⟩:=id E;rcases A with _|F
 .have G:l=[]:=by
   rcases l with _|⟨K,l⟩
   .rfl
   .obtain⟨_,_,H,_⟩:=J AH;cases H
  subst G;have M:∀(w:AA) (A:BH) (C c D B:Nat),(binOp .eql 27 (.slice A C c) (.slice none D B)).run prog w=.ok (.bool A.isNone) w:=λw A C c D B=>Lib.run_eql_slice_nil w _ _ A C c D B underlying27;go_in;go_wp2;go_ret;exact⟨_,rfl,⟨rfl,.inl ⟨rfl,rfl⟩⟩,AN _ _⟩
 .exact oa F _ _ l w rfl E I
section
attribute [local irreducible] Cu
def cw(b:AE)(B:2<=b.length):AQ (b.take 2)=(C6 b:Int)/\C6 b<65536:=by
 have A:=KW (b.take 2);rw[show(b.take 2).length=2 by simp;omega] at A;unfold C6;omega
def AHq(b:AE)(h:2<=b.length):((C6 b:Nat):Int)=((b[0]' U).toNat:Int)*256+((b[1]' U).toNat:Int):=by
 rw[<-(cw b h).1];rcases b with _|⟨B,_|⟨C,A⟩⟩
 .simp at h
 .simp at h
 .simp[AQ]
def ANB(l:AE)(p:Nat)(w:AA)(e:Ending)(C:AA):Prop:=
 ∃A B:Int,e=.returned (.tuple #[.agg #[A,B],.bool (EW (l.drop p))])/\(EW (l.drop p)=true->A=p+2/\B=p+2+C6 (l.drop p))/\Below w w C
def mn:(prog.info? 97).map (·.size)=some 2:=AF
def Af.drops{B:Nat}{w:AA}{b o c p:Nat}{l:AE}(h:Af B w (.slice (some ⟨b,o,none⟩) l.length c) l)(n k:Nat)(C:p<=l.length)(A:p+n+k<=l.length):Af B w (.slice (some ⟨b,o+(p+n),none⟩) k (c-(p+n))) (((l.drop p).drop n).take k):=by
 have:=h.sub (n:=p+n) (k:=k) U;rwa [<-I5] at this
def PR{b:AE}(B:EW b=true->False):EW b=false:=by
 cases A:EW b with
 | false=>rfl
 | true=>exact(B A).elim
def AKa(A:Nat)(B:A<4294967296):(#[.int .u8 ((A:Int) / 16777216),.int .u8 ((A:Int) / 65536%256),.int .u8 ((A:Int) / 256%256),.int .u8 ((A:Int)%256)]:Array AB).toList=A3 (be 4 (A:Int)):=by
 simp[A3,be,RZ];omega
def AHo{d:AE}{n A:Nat}(F:n=C6 d)(G:n>=1)(H:400>=n)(J:n+6<=d.length)(D:Da ((d.drop 2).take (C6 d))=A)(I:A<4294967296):EW d=((d.drop (n+2)).take 4==be 4 (A:Int)):=by
 subst F;unfold EW;rw[D,CA (show 2<=d.length by omega),CA (show 1<=C6 d by omega),CA (show C6 d<=400 by omega),CA (show C6 d+6<=d.length by omega)];simp only[Nm];have E:((d.drop (C6 d+2)).take 4).length=4:=AM;generalize (d.drop (C6 d+2)).take 4=B at *;by_cases h:B=be 4 (A:Int)
 .have:AQ B=(A:Int):=by rw[h];exact TQ _ U U
  rw[C7.2 h,C7.2 this]
 .have:AQ B≠(A:Int):=λC=>h (by rw[<-C,du 4 B E U U]);rw[Aw.2 h,Aw.2 this]
def AHm(B:Nat)(v:AB)(l:AE)(p:Nat)(w:AA)(h:Af B w v l)(M:B<=w.heap.size)(u:p<=l.length)(Ao:l.length<=140737488355328):
 AI 59 #[v,p] w (ANB l p w):=by
 obtain⟨a,c,rfl,An,AC⟩:=id h;have Aq:(l.drop p).length=l.length-p:=AH;by_cases Am:2<=l.length-p
 .obtain⟨b,o,rfl,Ab,X⟩:=AC U;clear AC;have F:=Co Ab M;have S:=X p (l[p]' U) (BL U);have T:=X (p+1) (l[p+1]' U) (BL U);clear X;have Av:=(l[p]' U).toNat_lt;have Aw:=(l[p+1]' U).toNat_lt;have L:=AHq (l.drop p) U;simp only[List.getElem_drop,Ci] at L;have t:=ba ((l[p]' U).toNat:Int) ((l[p+1]' U).toNat:Int) U U U U;have AS:=cw (l.drop p) U;obtain⟨Ae,Ad⟩:=AS;clear Ae;have N:=O (λh=>PS (b:=l.drop p) h);obtain⟨n,G⟩:∃n,n=C6 (l.drop p):=⟨_,rfl⟩;rw[<-G] at L Ad;have D:=O G;clear G;generalize (l[p]' U).toNat=Ai at *;generalize (l[p+1]' U).toNat=Aj at *;have Ak:bits .or .i64 ((Ai:Int)*256) (Aj:Int)=(n:Int):=by rw[t];push_cast at L;omega
  clear t L;have hz:=AG.new w 97 #[(),()];have hal:=(AN w w).alloc AK (.cells #[(),()] 97);go_in;go_wp2_with fail;replace S:=(hal.cell (p:=⟨b,o+p,none⟩) F).trans S;replace T:=(hal.cell (p:=⟨b,o+(p+1),none⟩) F).trans T;replace F:=Co F hal.size;have Z:=O hal;have d:=O hz;have Ah:=hz.lt;clear hal hz;generalize w.alloc (.cells #[(),()] 97)=Q at *;refine DB [] [0,1,2,3,4,5,6,7,8,9,10,11,12,13] Q AF AF rfl AD AF BK ?_;refine Mu ?_;iterate 14 refine DD ?_
  refine Dl ?_;have hz:=d.o.drew;have hal:=Z.o.drew;clear d Z S T Ah;replace F:b<Q.drew.heap.size:=F;generalize Q.drew=I at *;have j:=(AN I I).alloc AK (.cells #[.int .i64 ((p:Int)+2),.int .i64 ((p:Int)+2+(n:Int))] 97);have i:=AW hal j;have AJ:=hz.alloc (.cells #[.int .i64 ((p:Int)+2),.int .i64 ((p:Int)+2+(n:Int))] 97);obtain⟨f,g,-⟩:=hz.fz;have AQ:=hz.lt;obtain⟨AO,AP,_⟩:=hz.y2;have D':=O i;have H:=O AJ;clear i AJ j;rcases Fg n 1 with G|G
  .have e:=Ar n 1;have hf:EW (l.drop p)=false:=PR (λK=>by have:=(N.o K).2.1;have:=D.o;omega);exact el
  .have e:=A4 n 1;rcases Fg 400 n with s|s
   .have AY:=Ar 400 n;have hf:EW (l.drop p)=false:=PR (λK=>by have:=(N.o K).2.2.1;have:=D.o;omega);exact el
   .have AY:=A4 400 n;rcases Fg l.length (p+2+n+4) with Ac|Ac
    .have AZ:=Ar ((l.length:Int)-((p:Int)+2+(n:Int))) 4;have hf:EW (l.drop p)=false:=PR (λK=>by have:=(N.o K).2.2.2.1;have:=D.o;omega);exact el
    .have AZ:=A4 ((l.length:Int)-((p:Int)+2+(n:Int))) 4;have As:((p:Int)+2).toNat=p+2:=U;have At:((p:Int)+2+(n:Int)).toNat=p+2+n:=U;have A:=AG.new I 97 #[.int .i64 ((p:Int)+2),.int .i64 ((p:Int)+2+(n:Int))];go_wp2_with fail;clear f g AQ AO AP hz hal;generalize I.heap.size=AL at *;generalize I.alloc (.cells #[.int .i64 ((p:Int)+2),.int .i64 ((p:Int)+2+(n:Int))] 97)=AT at *;have C:=h.below (D'.o.mono M);refine(XW B _ _ _ (C.drops 2 n u U) (Ap M D'.o.size) AM).mono ?_;rintro W E ⟨rfl,J⟩;have Aa:B<=AT.heap.size:=Ap M D'.o.size;replace D':=O (AW D'.o J);replace H:=O (H.o.below J H.o.lt);replace A:=A.below J A.lt;replace C:=C.below (J.mono Aa);clear J;have r:=RT (((l.drop p).drop 2).take n);have AR:Hid (Da (((l.drop p).drop 2).take (C6 (l.drop p)))=Da (((l.drop p).drop 2).take n)):=by show _=_;rw[D.o]
     generalize Da (((l.drop p).drop 2).take n)=V at *;go_wp2_with fail;refine Z7 (.q 0 (.q 1 (.q 2 (.q 3 (.q 4 (.q 5 (.q 6 (.q 7 (.q 8 (.q 9 (.q 10 (.q 11 (.q 12 (.q 13 (.q 14 (.q 15 (.q 16 (.q 17 (.q 18 (.l 19 (.l 20 .nil))))))))))))))))))))) (E.heap.size) [21,22] (Fr 21 2) AF AF AF AD AF AF AF BK ?_;refine fK ?_;replace D':=O D'.o.drew;have hz:=H.o.drew;replace A:AG E.drew AL 97 _:=A.drew;replace C:Af B E.drew _ l:=C.below Y_;have y:E.heap.size=E.drew.heap.size:=rfl;rw[y];clear y H;generalize E.drew=R at *;obtain⟨AU,AV,_⟩:=A.y2;have AX:AL<R.heap.size:=A.lt;have Au:((p:Int)+2+(n:Int)+4).toNat=p+2+n+4:=U;iterate 19 refine Yj ?_
     refine MN rfl ?_;intro P hK;go_simp;refine hK _ _ C8 ?_;clear hK P AU AV AX A;refine MN rfl ?_;intro P hK;go_simp;go_at_call 113;have x:Af B R (.slice (some ⟨b,o+(p+2+n),none⟩) 4 (c-(p+2+n))) (((l.drop p).drop (n+2)).take 4):=by
      have:=C.drops (2+n) 4 u U;rw[show p+(2+n)=p+2+n by omega,show 2+n=n+2 by omega] at this;exact D2
     have Y:=Af.FI (Qc R 0 _ (be 4 (V:Int)) (AKa V r) J_ FC);rw[Dn] at Y;have Ag:Hid (EW (l.drop p)=(((l.drop p).drop (n+2)).take 4==be 4 (V:Int))):=AHo D.o G s AM AR.o r;refine(AKV _ (x.below ((AN _ _).alloc SP _)) Y).mono ?_;rintro W Al ⟨rfl,rfl⟩;refine Gt ?_;refine WD ?_;clear hK P x Y C;rw[<-Ag.o];obtain⟨f,g,-⟩:=hz.fz;have AQ:=hz.lt;obtain⟨AO,AP,_⟩:=hz.y2;go_wp2;refine BE (v:=.tuple #[.agg #[.int .i64 ((p:Int)+2),.int .i64 ((p:Int)+2+(n:Int))],.bool (EW (l.drop p))]) vT rfl ?_;exact⟨_,_,rfl,λ_=>⟨rfl,by rw[D.o]⟩,((D'.o.setCell (p:=⟨w,0,none⟩) AK _).setCell (p:=⟨w,1,none⟩) AK _).alloc AM _⟩
 .have hf:EW (l.drop p)=false:=by
   cases W:EW (l.drop p) with
   | false=>rfl
   | true=>have:=(PS W).1;omega
  have e:=Ar ((l.length:Int)-(p:Int)) 2;go_in;go_wp2;refine BE (v:=.tuple #[.agg #[(),()],false]) (DT results59 _ _ w 97 _ (0,0) _ _ rfl rfl (AG.new _ _ _) underlying97 rfl mn) rfl ?_;exact⟨0,0,by rw[hf],vy,(AN _ _).alloc AK _⟩
end
section
variable{w':AA}
def Rl:(prog.info? 97).map (λi=>(i.zero,i.size,i.bytes))=some (some (.agg #[(),()]),2,16):=AF
def N2(p:Nat × Nat)(u:List AB):Prop:=u=[.int .i64 (p.1:Int),.int .i64 (p.2:Int)]
def N2.len{p:Nat × Nat}{u:List AB}(h:N2 p u):u.length=2:=M5
def Ez(l:AE)(p:Nat × Nat):AE:=(l.drop p.1).take (p.2-p.1)
structure JL(w X:AA)(A1:Nat)(fl:Nat)(sp:List (Nat × Nat))(va:AB):Prop where
 blk:AG X A1 158 #[AL,fl,va]
 at':AS w X 97 2 N2 sp va
 AJ:Below w w X
 lo:w.heap.size<=A1
def JL.below{w A C:AA}{E D:Nat}{F:List (Nat × Nat)}{G:AB}(h:JL w A E D F G)(B:Below A A C):JL w C E D F G:=
 ⟨h.blk.below B h.blk.lt,AS.below h.at' B BW,AW h.AJ B,h.lo⟩
def JL.app{w E A:AA}{B F f2:Nat}{C:List (Nat × Nat)}{D v':AB}(h:JL w E B F C D){us:List (List AB)}(M:Rows N2 C us)(f t:Nat)
 (K:E.ownsRow w 97 2 D C.length us.flatten)(L:A.ownsRow w 97 2 v' (C.length+1) (us.flatten++[.int .i64 (f:Int),.int .i64 (t:Int)]))(hg:E.grownBy A D.ownBlock):
 JL w ((A.setCell ⟨B,2,none⟩ v').setCell ⟨B,1,none⟩ f2) B f2 (C++[(f,t)]) v':=by
 obtain⟨N,hk,hS⟩:=Gd K hg;have hblk:AG A B 158 #[AL,F,D]:=h.blk.kept hk (λhm=>by
  obtain⟨_,P,H⟩:=hS _ hm;exact absurd (h.blk.same H) AD)
 have I:AP [B] A ((A.setCell ⟨B,2,none⟩ v').setCell ⟨B,1,none⟩ f2):=((AP.refl _ _).setCell AH _).setCell AH _;have J:AS w A 97 2 N2 (C++[(f,t)]) v':=AS.snoc M (y:=(f,t)) rfl L;refine⟨(hblk.put 2 v').put 1 _,J.kept I (λQ O hg hm=>?_) BW,?_,h.lo⟩
 .exact rS
 .have G:Below w w A:=h.AJ.trans Mx;exact(G.setCell h.lo _).setCell h.lo _
structure OA(B:Nat)(w:AA)(A1:Nat)(l:AE)(fl:Int)(sp:List (Nat × Nat))(D5 va:AB):Prop where
 blk:AG w A1 158 #[D5,fl,va]
 row:w.ownsRow B 5 1 D5 l.length (A3 l)
 at':AS B w 97 2 N2 sp va
 ok:∀p∈sp,p.1<p.2/\p.2<=l.length
def vY(l:AE)(w:AA)(e:Ending)(w':AA):Prop:=
 ∃C A B E D,e=.returned (.pointer (some ⟨C,0,none⟩))/\OA w w' C (l.take A) (A:Int) B E D/\B0 l=B.map (Ez (l.take A))/\B.length<=20000/\Below w w w'
def dz(b:Nat)(w:AA):Nat:=match w.cell? ⟨b,2,none⟩ with|some (.slice _ n _)=>n|_=>0
def JL.len{w A:AA}{C F:Nat}{D:List (Nat × Nat)}{G:AB}(B:JL w A C F D G):dz C A=D.length:=by
 obtain⟨H,c,rfl,_⟩:=B.at'.slice;have E:=B.blk.g2;unfold dz;rw[E]
def AS.HU{α:Type}{B:Nat}{w:AA}{t m:Nat}{D:α->List AB->Prop}{C:List α}{v:AB}(E:AS B w t m D C v):∀k,v.ownBlock=some k->k<w.heap.size:=by
 obtain⟨J,_,G⟩:=E;intro k A;rcases G.2 with ⟨rfl,_⟩|⟨I,H,cur,rfl,_,F,_⟩
 .simp[Value.ownBlock] at A
 .simp[Value.ownBlock] at A;subst A;exact AG.lt (t:=t) (cs:=cur) F
def XB{w:AA}{o:Obj}{v:Option Nat}(h:(w.alloc o).grownBy w' v):w.grownBy w' v:=
 ⟨h.os,h.tape,h.output,Ap AH h.size,λA B C=>(h.block A AM C).trans (GI w _ A B)⟩
def NU{w:AA}{v:AB}(A:w.grownBy w' v.ownBlock):AP (EV v) w w':=
 ⟨A.os,A.tape,A.output,A.size,λE C D=>A.block E C (λB=>D (KY.2 B.symm))⟩
def AIy{l:AE}{p:Nat × Nat}{k:Nat}(B:p.1<=p.2)(A:p.2<=k):Ez (l.take k) p=Ez l p:=by
 unfold Ez;rw[List.drop_take,List.take_take];congr 1
 omega
def AHp{l:AE}{p:Nat}(A:EW (l.drop p)=true):Ez l (p+2,p+2+C6 (l.drop p))=((l.drop p).drop 2).take (C6 (l.drop p)):=by
 unfold Ez;rw[I5];congr 1
 omega
def Af.jW{B:Nat}{w:AA}{a:BH}{c:Nat}{l:AE}(h:Af B w (.slice a l.length c) l)(k:Nat)(G:k<=l.length):Af B w (.slice a k c) (l.take k):=by
 obtain⟨L,M,F,N,I⟩:=h;injection F with h1 h2 h3;subst h1 h3;refine⟨a,c,by rw[HE,Nat.min_eq_left G],M8,λH=>?_⟩;obtain⟨C,o,ha,D,E⟩:=I (by rw[HE] at H;omega);refine⟨C,o,ha,D,λJ K A=>E J K ?_⟩;rw[Lc] at A;split at A
 .exact A
 .cases A
def JL.fin{w B:AA}{D A:Nat}{G:List (Nat × Nat)}{L F:AB}{l:AE}(h:JL w B D A G L)(O:B.ownsRow w 5 1 F A (A3 (l.take A)))(R:A<=l.length)(N:G.length<=20000)(ha:∀p∈G,p.1<p.2/\p.2<=A)(M:B0 l=G.map (Ez l)):
 vY l w (.returned (.pointer D)) (B.setCell ⟨D,0,none⟩ F):=by
 have Q:(l.take A).length=A:=M8;have P:B.ownsRow w 5 1 F (l.take A).length (A3 (l.take A)):=by rw[Q];exact O
 have J:AP [D] B (B.setCell ⟨D,0,none⟩ F):=(AP.refl _ _).setCell AH _;have K:∀I C E,AG B C I E->I≠158->C∉[D]:=λI C E hg ht hm=>by
  exact X6
 refine⟨D,A,G,F,L,rfl,⟨h.blk.put 0 F,Bl P J (λC E hg=>K _ C E hg AD),h.at'.kept J (λC E hg=>K _ C E hg AD) BW,λp H=>?_⟩,?_,N,h.AJ.setCell h.lo _⟩
 .have:=ha p H;rw[HE];omega
 .rw[M];refine List.map_congr_left λp H=>?_;have:=ha p H;exact(AIy (I3 this.1) this.2).symm
def ADu(v:AB)(l:AE)(w:AA)(h:Af w w v l)(Ak:l.length<=140737488355328):
 AI 24 #[v] w (vY l w):=by
 have Fp:=O h;obtain⟨a,c,rfl,Ag,A_⟩:=h;have g:=O Ag;go_in;go_wp2_with fail;go_call lF _ as B w' ⟨rfl,rfl⟩;have Aj:JL w (w.alloc (.cells #[AL,(),AL] 158)) w 0 [] AL:=
  ⟨AG.new _ _ _,AS.mt,(AN _ _).alloc AK _,Bh _⟩
 have AM:=O Aj;refine Bn (λAU=>JL w AU w 0 [] AL) AM.o ?_;intro Aw Ab;have Ax:=O Ab;go_wp2_with fail;go_loopw [4] (λ_ wr=>∃(fl:Nat) (A:List (Nat × Nat)) (AC:AB),JL w wr w fl A AC/\fl<=l.length/\A.length<=20000/\(∀p∈A,p.1<p.2/\p.2<=fl)/\Hid (B0 l=A.map (Ez l)++G1 (20000-A.length) (l.drop fl))) (λ_ wr=>20000-dz w wr)
 case atStart=>exact⟨0,[],_,Ax.o,Az _,Az _,AH,by simp[Hid,B0]⟩
 case round=>
  obtain⟨fl,A,AC,J,hfl,x,Ae,T⟩:=hrel;have Ax:=O J;have AR:=O J.len;have R:=O Ae;obtain⟨M,N,rfl,A9⟩:=J.at'.slice;obtain⟨H,D,E,F⟩:=J.blk.y3;have I:=J.blk.frozen 0;by_cases Ac:A.length=20000
  .have AZ:=A4 A.length 20000;have S:Hid (B0 l=A.map (Ez l)):=by
    show _=_;rw[T.o,Ac];simp[G1]
   have Ai:fl<=c:=by have:=g.o;omega
   go_wp2_with fail;go_call UC _ (l.take fl) _ vS M8 as B AW ⟨Au,rfl,C,Z⟩;rw[show(l.take fl).length=fl by rw[HE];omega] at C;obtain⟨AX,AY,rfl⟩:=CV C;have V:=O (Gc C Ax.o.AJ.size);replace Ax:=O (Ax.o.below Z);obtain⟨H,D,E,F⟩:=Ax.o.blk.y3;have I:=Ax.o.blk.frozen 0;go_wp2;go_ret;exact Ax.o.fin V.o hfl x R.o S.o
  .have AZ:=Ar A.length 20000;go_wp2_with fail;go_call AHm w _ l fl wr (Fp.o.below Ax.o.AJ) Ax.o.AJ.size hfl Ak as B X1 ⟨f,t,rfl,hft,hb1⟩;replace Ax:=O (Ax.o.below hb1);cases L:EW (l.drop fl) with
   | false=>
    have S:Hid (B0 l=A.map (Ez l)):=by
     show _=_;rw[T.o,V4 L,El]
    have Y:=(AN X1 X1).alloc AK (.cells #[f,t] 97);replace Ax:=O (Ax.o.below Y);obtain⟨H,D,E,F⟩:=Ax.o.blk.y3;have I:=Ax.o.blk.frozen 0;have Ai:fl<=c:=by have:=g.o;omega
    go_wp2_with fail;go_call UC _ (l.take fl) _ vS M8 as B AW ⟨Au,rfl,C,Z⟩;rw[show(l.take fl).length=fl by rw[HE];omega] at C;obtain⟨AX,AY,rfl⟩:=CV C;have V:=O (Gc C Ax.o.AJ.size);replace Ax:=O (Ax.o.below Z);obtain⟨H,D,E,F⟩:=Ax.o.blk.y3;have I:=Ax.o.blk.frozen 0;go_wp2;go_ret;exact Ax.o.fin V.o hfl x R.o S.o
   | true=>
    obtain⟨rfl,rfl⟩:=hft L;obtain⟨A3,A5,A6,Ad,_⟩:=PS L;have Ah:(l.drop fl).length=l.length-fl:=AH;rw[Ah] at Ad;have AJ:=O (AHp L);have AQ:Hid (B0 l=A.map (Ez l)++((l.drop fl).drop 2).take (C6 (l.drop fl))::G1 (20000-(A.length+1)) (l.drop (fl+2+C6 (l.drop fl)+4))):=by
     show _=_;have Aa:(l.drop fl).drop (C6 (l.drop fl)+6)=l.drop (fl+2+C6 (l.drop fl)+4):=by rw[I5];congr 1;omega
     rw[T.o,show 20000-A.length=20000-(A.length+1)+1 by omega,az L,Aa]
    have Y:=(AN X1 X1).alloc AK (.cells #[.int .i64 ((fl:Int)+2),.int .i64 ((fl:Int)+2+(C6 (l.drop fl):Int))] 97);have P:=AG.new X1 97 #[.int .i64 ((fl:Int)+2),.int .i64 ((fl:Int)+2+(C6 (l.drop fl):Int))];have AO:=O (AS.HU Ax.o.at');replace Ax:=O (Ax.o.below Y);generalize Ao:C6 (l.drop fl)=n at *;have Av:=O Ao;obtain⟨H,D,E,F⟩:=Ax.o.blk.y3;have I:=Ax.o.blk.frozen 0;go_wp2_with fail;generalize X1.alloc (.cells #[.int .i64 ((fl:Int)+2),.int .i64 ((fl:Int)+2+(n:Int))] 97)=j at *;generalize X1.heap.size=Q at *;refine MB (EV (.slice M A.length N)) [6,7] [0,1,2,3,4,5,6,7] [8,9,10] (Fr 8 3) AF AF rfl AD AD AF AF AF BK ?_;refine Pn ?_;replace Ax:=O Y6;replace P:AG j.drew Q 97 _:=P.drew;generalize j.drew=W at *;obtain⟨H,D,E,F⟩:=Ax.o.blk.y3;have I:=Ax.o.blk.frozen 0;obtain⟨At,Ap,d⟩:=Ax.o.at';have Al:w.heap.size∉EV (.slice M A.length N):=λhm=>Ax.o.blk.apart d AD (KY.1 hm).symm;have Am:Q∉EV (.slice M A.length N):=λhm=>by have:=AO.o _ R6;omega
    obtain⟨A',Aq,As⟩:=P.y2;iterate 6 refine H' ?_
    refine FU ?_;intro AT X;go_simp;refine X _ _ N_ ?_;refine FU ?_;intro AT X;refine QF (.tmp 28) (.tmp 30) 94 rfl w 97 (.agg #[(),()]) 2 16 underlying94 Rl rfl AD (.slice M A.length N) A.length At.flatten rfl (d.alloc _) ⟨W,0,none⟩ 1 1 [.int .i64 ((fl:Int)+2),.int .i64 ((fl:Int)+2+(n:Int))] rfl rfl (World.news_of_block (fr:=(0,0)) (Hf W _)) C2 Hr U (by have:=Ax.o.AJ.size;simp;omega) ?_;intro BA AV y s _;obtain⟨Ay,A0,rfl⟩:=CG y;have r:W.grownBy AV (Value.slice M A.length N).ownBlock:=XB s;have u:=NU r;refine X _ _ (NU s) ?_;refine KT ?_;have K:=Ax.o.blk.kept u Al;have e:=P.kept u Am;have o:=Ax.o.app (f2:=fl+2+n+4) Ap (fl+2) (fl+2+n) d (by push_cast;exact y) r;rw[show((fl+2+n+4:Nat):Int)=(fl:Int)+2+(n:Int)+4 by push_cast;rfl] at o;have i:=O o;have D:=K.g1;have E:=K.g2;have Aq:=e.g1;obtain⟨-,A1,A2,-⟩:=K.fz;have F:=K.lt;have As:=e.lt;have An:Q≠w.heap.size:=λB=>by subst B;exact absurd (K.same e) AD
    have A7:¬w.heap.size=Q:=λB=>An B.symm;go_wp2_with fail;go_roundw
    case rel=>exact⟨fl+2+n+4,A++[(fl+2,fl+2+n)],_,i.o,U,P_,λp G=>by
     rcases E1.1 G with G|G
     .have:=R.o p G;omega
     .simp only[Jv] at G;subst G;simp only;omega,by show _=_;rw[AQ.o,Li,Cp,E9];simp only[HA,Q0,CB,EE,List.singleton_append,DP];rw[AJ.o]⟩
    case measure=>rw[i.o.len,AR.o,Cp];simp;omega
end
section
variable{w':AA}{r:AE}{u:List AB}{L:List AE}{S:List Nat}{n m:Nat}
def If(B:Nat)(w:AA)(r:AE)(u:List AB):Prop:=∃A,u=[A]/\w.ownsRow B 5 1 A r.length (A3 r)
def If.len{B:Nat}{w:AA}(h:If B w r u):u.length=1:=gw
def If.one{B:Nat}{w:AA}(A:If B w r u):∀c∈u,c.oneCell'=true:=by
 obtain⟨F,rfl,A⟩:=A;intro c C;simp only[Jv] at C;subst C;rcases A.2 with ⟨rfl,_⟩|⟨E,D,cur,rfl,_⟩<;>rfl
def If.kept{B:Nat}{w:AA}(h:If B w r u)(hk:AP S w w')(hS:∀g cs,AG w g 5 cs->g∉S):If B w' r u:=by
 exact p5
def Gs(B:Nat)(w:AA)(L:List AE)(v:AB):Prop:=AS B w 27 1 (If B w) L v
def Gs.kept{B:Nat}{w:AA}{v:AB}(C:Gs B w L v)(A:AP S w w')(D:∀g cs,AG w g 5 cs->g∉S)(E:∀g cs,AG w g 27 cs->g∉S):Gs B w' L v:=
 AS.kept C A E (λ_ _ F=>F.kept A D)
def Gs.below{B:Nat}{w:AA}{v:AB}(h:Gs B w L v)(hb:Below w w w'):Gs B w' L v:=
 h.kept (S:=[]) CX CE CE
def ey:(prog.info? 27).map (λi=>(i.zero,i.size,i.bytes))=some (some (.slice none 0 0),1,24):=AF
def Gs.snoc{B:Nat}{w:AA}{v v' A:AB}{us:List (List AB)}(F:L.length=n)(K:r.length=m)(M:Rows (If B w) L us)(I:w.ownsRow B 27 1 v n us.flatten)(G:w.ownsRow B 5 1 A m (A3 r))
 (J:w'.ownsRow B 27 1 v' (n+1) (us.flatten++[A]))(H:w.grownBy w' v.ownBlock):Gs B w' (L++[r]) v':=by
 subst F K;obtain⟨S,E,hS⟩:=Gd I H;have D:∀g C,AG w g 5 C->g∉S:=λg C hb hm=>by
  exact eP
 exact AS.snoc (M.mono (λ_ _ N=>N.kept E D)) ⟨A,rfl,Bl G E D⟩ J
def PW{B:Nat}{w A C:AA}{t:Nat}{v:AB}{I:List AB}(F:Below B w A)(G:B<=A.heap.size)(H:A.ownsRow B t m v n I)(D:A.grownBy C v.ownBlock):Below B w C:=
 F.grown D G (λM E=>by
  rcases H.2 with ⟨rfl,_⟩|⟨K,J,cur,rfl,D,_⟩
  .simp[Value.ownBlock] at E
  .simp[Value.ownBlock] at E;omega)
def ALq(L:List AE)(w:AA)(e:Ending)(w':AA):Prop:=∃A,e=.returned A/\Gs w w' L A/\Below w w w'
def OA.below{B:Nat}{w:AA}{C:Nat}{l:AE}{A:Int}{D:List (Nat × Nat)}{F E:AB}(h:OA B w C l A D F E)(hb:Below w w w'):OA B w' C l A D F E:=
 ⟨h.blk.below hb h.blk.lt,Bl (S:=[]) h.row CX CE,h.at'.below hb BW,h.ok⟩
def ADF(B:Nat)(w:AA)(Y:Nat)(l:AE)(Ag:Int)(A:List (Nat × Nat))(As Aq:AB)(h:OA B w Y l Ag A As Aq)(Aw:B<=w.heap.size)(A4:A.length<=20000)(A3:l.length<=140737488355328):
 AI 25 #[.pointer Y] w (ALq (A.map (Ez l)) w):=by
 obtain⟨BG,BH,rfl,A'⟩:=h.at'.slice;obtain⟨Ab,y,rfl⟩:=CV h.row;have Ax:=O h;have C:=O (AN w w);obtain⟨t,AC⟩:=Ax.o.blk.y1;have v:=Ax.o.blk.g2;go_in;go_wp2_with fail;go_loopw [3,13] (λo c wr=>∃(i:Nat),c=.int .i64 (i:Int)/\i<=A.length/\Gs w wr ((A.take i).map (Ez l)) o/\Below w w wr) (λ_ c _=>A.length-(intOf c).toNat)
 case atStart=>exact⟨0,rfl,Az _,AS.mt,C.o⟩
 case round=>
  obtain⟨i,rfl,A2,AJ,AO⟩:=hrel;obtain⟨K,M,rfl,A_⟩:=AS.slice AJ;replace Ax:=O (Ax.o.below AO);have C:=O AO;have D:=O AJ;have Al:((A.take i).map (Ez l)).length=i:=AM;rw[Al] at D ⊢;by_cases Am:i<A.length
  .have dl:=Ar i A.length;obtain⟨p,P⟩:=BQ A i Am;obtain⟨BA,BB⟩:=Ax.o.ok p (Bu P);obtain⟨Au,rfl,A1⟩:=Ax.o.at'.Ch (λ_ _ q=>N2.len q) i p P;obtain⟨u,V,Ao,Aj⟩:=Ax.o.at'.BT (λ_ _ q=>N2.len q) i p P;obtain rfl:u=_:=Ao;obtain⟨BC,BD⟩:=QB Aj;have AV:=Ax.o.row;obtain⟨T,rfl⟩:∃T,Ab=some ⟨T,0,none⟩:=by
    rcases AV.2 with ⟨G,Av⟩|⟨g,At,cur,G,_⟩
    .omega
    .injection G with G;exact⟨g,G⟩
   have F:=O (Af.FI AV);have AY:Hid ((A.take (i+1)).map (Ez l)=(A.take i).map (Ez l)++[Ez l p]):=by
    obtain⟨Ak,rfl⟩:=Cd.1 P;show _=_;rw[Mk,BL Ak,Li];rfl
   have Ay:l.length<=y:=by obtain⟨_,_,G,A0,_⟩:=F.o;injection G with _ _ h3;omega
   obtain⟨t,AC⟩:=Ax.o.blk.y1;have v:=Ax.o.blk.g2;have N:=(AN wr wr).alloc AK (.cells #[p.1,p.2] 97);have I:=AG.new wr 97 #[p.1,p.2];go_wp2_with fail;replace Ax:=O (Ax.o.below N);replace D:=O (Gs.below D.o N);replace C:=O (AW C.o N);replace F:=O (F.o.below N);generalize wr.alloc (.cells #[p.1,p.2] 97)=Q at *;generalize wr.heap.size=Z at *;refine MB (EV (.slice K i M)) [10,11,12] [0,1,2,3,4,5,6,7,8,9,10,11,12] [13] (Fr 13 1) AF AF rfl AD AD AF AF AF BK ?_;refine Pn ?_;replace Ax:=O Y6;replace D:=O (Gs.below D.o (AN _ _).drew);replace C:=O C.o.drew;replace F:=O (F.o.below (AN Z Q).drew);replace I:AG Q.drew Z 97 _:=I.drew;generalize Q.drew=f at *;obtain⟨Ap,X,E⟩:=D.o;have AT:((A.take i).map (Ez l)).length=i:=AM;rw[AT] at E;have A6:Y∉EV (.slice K i M):=λW=>Ax.o.blk.apart E AD (KY.1 W).symm;have A9:Z∉EV (.slice K i M):=λW=>I.apart E AD (KY.1 W).symm;obtain⟨t,AC⟩:=Ax.o.blk.y1;have v:=Ax.o.blk.g2;obtain⟨BE,BF,BI⟩:=I.y2;iterate 10 refine H' ?_
   refine FU ?_;intro d H;go_simp;go_at_call 60;have An:Af f f (.slice (some ⟨T,p.1,none⟩) (p.2-p.1) (y-p.1)) (Ez l p):=by
    have:=(F.o.sub (n:=p.1) (k:=p.2-p.1) U).mono (I3 I.lt);rw[DP] at this;exact D2
   have AQ:(Ez l p).length=p.2-p.1:=by unfold Ez;rw[HE,EM];omega
   go_call UC _ (Ez l p) _ An U as e R ⟨Gz,rfl,J,hb4⟩;rw[AQ] at J;obtain⟨Ac,Ad,rfl⟩:=CV J;refine H _ _ fo ?_;have Ai:=C.o.size;replace C:=O (AW C.o hb4);replace E:=Bl E (S:=[]) fo CE;replace X:=X.mono (λ_ _ q=>If.kept (S:=[]) q fo CE);replace J:=Gc J Ai;refine FU ?_;intro d H;go_simp;refine H _ _ N_ ?_;refine FU ?_;intro d H;refine QF (.tmp 17) (.tmp 28) 28 rfl w 27 AL 1 24 underlying28 ey rfl AD (.slice K i M) i Ap.flatten rfl (E.alloc _) ⟨R,0,none⟩ 1 1 [.slice Ac (p.2-p.1) Ad] rfl rfl (World.news_of_block (fr:=(0,0)) (Hf R _)) C2 Hr U (by have:=C.o.size;simp;omega) ?_;intro BJ s AU AR _;obtain⟨Aa,Ae,rfl⟩:=CG AU;have V:R.grownBy s (Value.slice K i M).ownBlock:=XB AR;refine H _ _ (NU AR) ?_;refine KT ?_;have Ah:Gs w s ((A.take i).map (Ez l)++[Ez l p]) (.slice Aa (i+1) Ae):=by
    exact Gs.snoc AT AQ X E J AU V
   have AZ:=O Ah;have AX:=O (PW C.o C.o.size E V);go_wp2_with fail;go_roundw
   case rel=>exact⟨i+1,A7,U,by rw[AY.o];exact AZ.o,AX.o⟩
   case measure=>exact A5
  .obtain rfl:i=A.length:=U;have dl:decide ((A.length:Int)<(A.length:Int))=false:=AH;rw[F6] at D;go_wp2_with fail;go_ret;exact⟨_,rfl,D.o,C.o⟩
end
section
open Go.Maps (Keyed)
variable{Y:AA}
attribute [local irreducible] Cu
def Ry(w:AA)(ab BV:Nat)(Ce:AB)(E:List A6)(e:A6)(C:Ending)(B:AA):Prop:=
 match EI E e with
 | some F=>C=.returned ()/\∃D,HR B ab BV D F/\AP (ab::BV::EV Ce) w B/\(∀A,D.ownBlock=some A->A∈EV Ce\/w.heap.size<=A)
 | none=>(∃c,c≠0/\C=.returned (.int .i64 c))/\Below w w B
def WA{w A:AA}{ab BV:Nat}{Ce:AB}{E:List A6}{e:A6}{c:Int}(B:EI E e=none)(D:c≠0)(C:Below w w A):Ry w ab BV Ce E e (.returned c) A:=by
 unfold Ry;rw[B];exact⟨⟨c,D,rfl⟩,C⟩
def tK:(prog.info? 167).map (λi=>(i.zero,i.size,i.bytes))=some (some (.agg #[(),(),(),(),()]),5,40):=AF
def kw{E:List A6}{e:A6}(A:FN e=false):EI E e=none:=by simp[EI,A]
def kv{E:List A6}{e:A6}(A:IV e.m E=true):EI E e=none:=by simp[EI,A]
def ku{E:List A6}{e:A6}(A:FM e.k e.w e.n E=true)(B:e.k≠1):EI E e=none:=by simp[EI,A,B]
def ADQ{E:List A6}{e:A6}(A:D7 E+Er e < -1000000000000\/1000000000000<D7 E+Er e):EI E e=none:=by
 unfold EI;rw[AU];simp only[At,CJ];omega
def ADP{E:List A6}{e:A6}(A:FN e=true)(B:IV e.m E=false)(C:FM e.k e.w e.n E=true->e.k=1)(D : -1000000000000<=D7 E+Er e)(F:D7 E+Er e<=1000000000000):EI E e=some (E++[e]):=by
 unfold EI;rw[Ab];simp only[At,CJ,A,B,Bool.not_false,Ni,Bool.and_eq_false_imp,Wd,true_and,Jx,C7];exact⟨⟨C,D⟩,F⟩
def AGZ{w:AA}{Ce:AB}{E:List A6}(h:AS 0 w 167 5 M4 E Ce)(J:0<E.length)(m:Int)(H:KC E):
 ∃g c x,Ce=.slice (some ⟨g,0,none⟩) E.length c/\E.length<=c/\g<w.heap.size/\w.cell? ⟨g,(E.length-1)*5,none⟩=some (.int .i64 x)/\IV m E=decide (m<x):=by
 have A:E[E.length-1]? = some (E[E.length-1]' U):=BL U;obtain⟨g,c,K,B,C,D,_,F,G⟩:=h.at (λ_ _ I=>I.len) _ _ A;have h6:=G 0 U;rw[F] at h6;refine⟨g,c,_,B,C,D,wG,?_⟩;rw[H.late m,List.getLast?_eq_getElem?,A]
structure Pk(w X:AA)(ab BV:Nat)(va:AB)(E:List A6)(eb:Nat)(e:A6):Prop where
 acc:HR X ab BV va E
 Cg:AG X eb 167 #[e.m,e.k,e.w,e.n,e.a]
 AJ:Below w w X
def Pk.below{w B:AA}{ab BV:Nat}{F:AB}{E:List A6}{D:Nat}{e:A6}(A:Pk w B ab BV F E D e)(C:Below B B Y):Pk w Y ab BV F E D e:=
 ⟨A.acc.below C,A.Cg.below C A.Cg.lt,AW A.AJ C⟩
structure N6(w X:AA)(ab BV:Nat)(va v':AB)(E:List A6)(eb:Nat)(e:A6):Prop where
 blk:AG X ab 231 #[v',.map (some BV),.int .i64 (D7 E)]
 row:AS 0 X 167 5 M4 (E++[e]) v'
 map:DQ X prog 234 BV E.length (Jz E)
 Cg:AG X eb 167 #[e.m,e.k,e.w,e.n,e.a]
 kept:AP (ab::BV::EV va) w X
 own:∀g,v'.ownBlock=some g->g∈EV va\/w.heap.size<=g
def N6.start{w F C:AA}{ab BV:Nat}{A v':AB}{E:List A6}{G:Nat}{e:A6}(h:Pk w F ab BV A E G e){us:List (List AB)}(U:Rows M4 E us)(S:F.ownsRow 0 167 5 A E.length us.flatten)
 (T:C.ownsRow 0 167 5 v' (E.length+1) (us.flatten++[.int .i64 e.m,.int .i64 e.k,.int .i64 e.w,.int .i64 e.n,.int .i64 e.a]))(I:F.grownBy C A.ownBlock)(V:∀g,v'.ownBlock=some g->g∈EV A\/w.heap.size<=g)(N:ab∉EV A)(O:G∉EV A):
 N6 w (C.setCell ⟨ab,0,none⟩ v') ab BV A v' E G e:=by
 have D:=NU I;have L:=h.acc.blk.kept D N;have H:AP [ab] C (C.setCell ⟨ab,0,none⟩ v'):=(AP.refl _ _).setCell AH _;obtain⟨a,X,J⟩:=h.acc.map.isMap;have Q:BV∉EV A:=λB=>by
  rcases S.2 with ⟨rfl,_⟩|⟨g,W,cur,rfl,_,M,_⟩
  .simp[EV,Value.ownBlock] at B
  .simp[EV,Value.ownBlock] at B;subst B;rw[J] at M;cases M
 have R:BV≠ab:=λe=>by
  have K:F.heap[ab]? = some (.cells _ 231):=h.acc.blk;rw[e] at J;rw[J] at K;cases K
 have P:G≠ab:=λe=>by subst e;exact absurd (h.Cg.same h.acc.blk) AD
 refine⟨L.put 0 _,AS.kept (AS.snoc U (y:=e) rfl T) H (λg Z I=>?_) BW,(h.acc.map.keep (D.block _ h.acc.map.lt Q)).keep (H.block _ (Co h.acc.map.lt D.size) (by simpa using R)),(h.Cg.kept D O).far (by simpa using P) _,?_,V⟩
 .intro B;simp only[Aj,A',A_] at B;subst B;exact absurd (I.same L) AD
 .exact(AP.of_below h.AJ).trans ((D.wide (λq hq=>by simp[hq])).trans (H.wide fg))
def N6.below{w A:AA}{ab BV:Nat}{C v':AB}{E:List A6}{B:Nat}{e:A6}(h:N6 w A ab BV C v' E B e)(hb:Below A A Y):N6 w Y ab BV C v' E B e:=
 ⟨h.blk.below hb h.blk.lt,h.row.below hb BW,h.map.keep (hb.block _ h.map.lt),h.Cg.below hb h.Cg.lt,h.kept.trans CX,h.own⟩
def N6.fin{w B:AA}{ab BV:Nat}{J v':AB}{E:List A6}{L:Nat}{e:A6}{v:Int}(h:N6 w B ab BV J v' E L e)(M:EI E e=some (E++[e]))(O:D7 (E++[e])=v)(A:DQ Y prog 234 BV (E.length+1) (Jz (E++[e])))(C:B.grownBy Y (some BV))(hab:ab≠BV):
 Ry w ab BV J E e (.returned ()) (Y.setCell ⟨ab,2,none⟩ v):=by
 have H:=h.blk.grown C gv;have I:AP [BV] B Y:=AP.HW C AH;have D:AP [ab] Y (Y.setCell ⟨ab,2,none⟩ v):=(AP.refl _ _).setCell AH _;obtain⟨Q,P,N⟩:=h.map.isMap;unfold Ry;rw[M];refine⟨rfl,v',⟨by rw[O];exact H.put 2 _,(h.row.kept I (λF K hq A=>?_) BW).kept D (λF K C A=>?_) BW,?_⟩,?_,h.own⟩
 .simp only[Aj,A',A_] at A;subst A;have G:B.heap[F]? = some (.cells _ 167):=hq;rw[N] at G;cases G
 .simp only[Aj,A',A_] at A;subst A;exact absurd (C.same H) AD
 .rw[Cp];exact A.keep (D.block _ A.lt (by simpa using Ne.symm hab))
 .exact h.kept.trans ((I.wide fg).trans (D.wide fg))
def ADI(w:AA)(ab BV:Nat)(Ce:AB)(E:List A6)(e:A6)(h:HR w ab BV Ce E)(Al:KC E)(S:hP e)(BH:E.length<=30000):
 AI 63 #[.pointer ab,.agg #[e.m,e.k,e.w,e.n,e.a]] w (Ry w ab BV Ce E e):=by
 have s:=O (ACg e);have v:=(AN w w).alloc AK (.cells #[e.m,e.k,e.w,e.n,e.a] 167);have AC:Hid (Pk w (w.alloc (.cells #[e.m,e.k,e.w,e.n,e.a] 167)) ab BV Ce E w e):=⟨h.below v,AG.new _ _ _,v⟩;have d:=O S;have r:=O Al;obtain⟨H,I,rfl,BL⟩:=h.row.slice;have AZ:=O (AS.HU h.row);obtain⟨m,k,ww,n,a⟩:=e;simp only at s AC ⊢;have gn:Hid ((0<=k/\k<=1099511627776)/\(0<=ww/\ww<=1099511627776)/\(0<=n/\n<=1099511627776)):=⟨d.o.k,d.o.w,d.o.n⟩;go_in;go_wp2_with fail;generalize w.alloc (.cells #[m,k,ww,n,a] 167)=A1 at *;go_call s.o _ as en w1 ⟨rfl,hb1⟩;replace AC:=O Bg;generalize AR:FN ⟨m,k,ww,n,a⟩=Aw at *;cases Aw with
 | false=>
  go_wp2_with fail;go_ret;exact WA (kw AR) AD AC.o.AJ
 | true=>
  have Gu:=O AR;obtain⟨F,J,b2,G⟩:=AC.o.acc.blk.y3;obtain⟨X,M,N,P,Z,Q⟩:=AC.o.Cg.DY;go_upto_region 4 with fail;go_cut [34] (λV W=>V=.bool (IV m E)/\Pk w W ab BV (.slice H E.length I) E w ⟨m,k,ww,n,a⟩);case first=>
   refine DB [] [0,1,2,3,4,5,6,7,8,9,10,11,12,13,14,15] w1 AF AF rfl AD AF BK ?_;refine Mu ?_;replace AC:=O Di;have l:w1.heap.size=w1.drew.heap.size:=rfl;rw[l];generalize w1.drew=R at *;rcases Mf E.length with Aj|AV
   .obtain rfl:E=[]:=Jw Aj;obtain⟨F,J,b2,G⟩:=AC.o.acc.blk.y3;obtain⟨X,M,N,P,Z,Q⟩:=AC.o.Cg.DY;refine Yc ?_;go_wp2_with fail;go_meet;exact⟨rfl,AC.o⟩
   .obtain⟨Ai,c,BN,A,BC,B,AW,Am⟩:=AGZ AC.o.acc.row AV m r.o;injection A with hv1 hv2 hv3;subst hv1 hv3;have A9:=Ar 0 E.length;have BF:(0:Int)<=(E.length:Int)-1:=U;have BG:((E.length:Int)-1).toNat=E.length-1:=U;have Aa:=O Am;have A_:decide (0<E.length)=true:=CA AV;obtain⟨F,J,b2,G⟩:=AC.o.acc.blk.y3;obtain⟨X,M,N,P,Z,Q⟩:=AC.o.Cg.DY;refine Yc ?_;go_wp2_with fail;go_meet;exact⟨by rw[Aa.o],AC.o⟩
  case rest=>
   obtain⟨rfl,S⟩:=hcut;replace AC:=O S;cases AL:IV m E with
   | true=>
    go_wp2_with fail;go_ret;exact WA (kv AL) AD AC.o.AJ
   | false=>
    have ZK:=O AL;obtain⟨F,J,b2,G⟩:=AC.o.acc.blk.y3;obtain⟨X,M,N,P,Z,Q⟩:=AC.o.Cg.DY;go_upto_region 6 with fail;go_cut [47] (λV W=>V=.bool (FM k ww n E&&(k !=1))/\wc=W);case first=>
     go_wp2_with fail;go_call AD6 _ _ _ _ _ k ww n AC.o.acc wy w8 w7 as en w' ⟨rfl,rfl⟩;cases C:FM k ww n E with
     | false=>
      go_wp2_with fail;go_meet;exact⟨by rw[C];rfl,rfl⟩
     | true=>
      go_wp2_with fail;go_meet;exact⟨by rw[C];rfl,rfl⟩
    case rest=>
     obtain⟨rfl,rfl⟩:=hcut;cases C:(FM k ww n E&&(k !=1)) with
     | true=>
      have hN:=ku (e:=⟨m,k,ww,n,a⟩) (E:=E) (by simp at C;exact C.1) (by simp at C;exact C.2);go_wp2_with fail;go_ret;exact WA hN AD AC.o.AJ
     | false=>
      have KA:Hid (FM k ww n E=true->k=1):=by
       intro AW;rw[AW] at C;simpa using C
      have x:=T7 Gu.o;have An:=r.o.Nw;simp only at x;obtain⟨A5,A7,_⟩:=x;obtain⟨A',BA⟩:=An;go_upto_region 8 with fail;go_cut [6] (λV W=>V=.int .i64 (D7 E+Er ⟨m,k,ww,n,a⟩)/\Pk w W ab BV (.slice H E.length I) E w ⟨m,k,ww,n,a⟩);case first=>
       refine DB [6] [0,1,2,3,4,5,7,8,6,9,10,11] wc AF AF rfl AD AF BK ?_;refine Hm ?_;replace AC:=O Di;have l:wc.heap.size=wc.drew.heap.size:=rfl;rw[l];generalize wc.drew=R at *;obtain⟨F,J,b2,G⟩:=AC.o.acc.blk.y3;obtain⟨X,M,N,P,Z,Q⟩:=AC.o.Cg.DY;iterate 8 refine DD ?_
       refine HK ?_;intro K hK;go_at_call 119;go_call ACt k _ as en w' ⟨rfl,rfl⟩;refine JG ?_;generalize D7 E=A0 at *;by_cases L:k=3
       .subst L;have Tw:Hid (Er ⟨m,3,ww,n,a⟩ = -a):=by simp[Hid,Er]
        rw[Ab rfl];iterate 3 refine DD ?_
        refine Dl ?_;exact eN
       .have Tw:Hid (Er ⟨m,k,ww,n,a⟩=a):=by simp[Hid,Er,L]
        rw[AU L];iterate 3 refine DD ?_
        refine Dl ?_;exact eN
      case rest=>
       obtain⟨rfl,S⟩:=hcut;replace AC:=O S;have AMy:Hid (D7 (E++[⟨m,k,ww,n,a⟩])=D7 E+Er ⟨m,k,ww,n,a⟩):=jv E _;have o:=O vI;have AY:=O vH;generalize D7 E+Er ⟨m,k,ww,n,a⟩=D at *;have A:D < -1000000000000\/1000000000000<D\/(-1000000000000<=D/\D<=1000000000000):=U;rcases A with A|A|A
       .have u:decide (D < -1000000000000)=true:=CA A;have hN:=o.o (.inl A);exact pm
       .have u:=A4 D (-1000000000000);have Ag:decide ((1000000000000:Int)<D)=true:=CA A;have hN:=o.o (.inr A);exact pm
       .have u:=A4 D (-1000000000000);have Ag:=A4 1000000000000 D;have HG:=O (AY.o A.1 A.2);go_wp2_with fail;refine MB (EV (.slice H E.length I)) [6,7] [0,1,2,3,4,5,6,7] [8,9,10] (Fr 8 3) AF AF rfl AD AD AF AF AF BK ?_;refine Pn ?_;replace AC:=O Di;generalize wc.drew=R at *;have Ay:=O (AS.HU AC.o.acc.row);obtain⟨F,J,b2,G⟩:=AC.o.acc.blk.y3;obtain⟨X,M,N,P,Z,Q⟩:=AC.o.Cg.DY;obtain⟨AX,Au,j⟩:=AC.o.acc.row;have AQ:ab∉EV (.slice H E.length I):=λhm=>AC.o.acc.blk.apart j AD (KY.1 hm).symm;have Aq:w.heap.size∉EV (.slice H E.length I):=λhm=>by have:=AZ.o _ R6;omega
        iterate 6 refine H' ?_
        refine FU ?_;intro K hK;go_simp;refine hK _ _ N_ ?_;refine FU ?_;intro K hK;refine QF (.tmp 69) (.tmp 71) 89 rfl 0 167 (.agg #[(),(),(),(),()]) 5 40 underlying89 tK rfl AD (.slice H E.length I) E.length AX.flatten rfl (j.alloc _) ⟨R,0,none⟩ 1 1 [.int .i64 m,.int .i64 k,.int .i64 ww,.int .i64 n,.int .i64 a] rfl rfl (World.news_of_block (fr:=(0,0)) (Hf R _)) C2 Hr U J_ ?_;intro BM t AT AE As;obtain⟨Ad,Af,rfl⟩:=CG AT;have B:R.grownBy t (Value.slice H E.length I).ownBlock:=XB AE;refine hK _ _ (NU AE) ?_;refine KT ?_;have Ak:=N6.start AC.o (us:=AX) Au j AT B (by
         intro Ai B;rcases As with h|h
         .rw[h] at B;exact .inl (KY.2 B)
         .rw[h] at B;injection B with B;have:=AC.o.AJ.size;exact .inr (by simp at B;omega)) AQ Aq
        have HC:=O Ak;have g:=AC.o.acc.blk.kept (NU B) AQ;have F:=g.cell 0;have BB:=g.frozen 0;have G:=g.lt;simp only[CH,A8] at F;go_wp2_with fail;generalize t.setCell ⟨ab,0,none⟩ (.slice Ad (E.length+1) Af)=Ac at *;refine xj (.q 0 (.q 1 (.q 2 (.q 3 (.q 4 (.q 5 (.q 6 (.q 7 (.q 8 (.q 9 (.q 10 (.f 11 13 (.q 12 (.l 13 (.q 14 .nil))) (.q 14 (.l 11 (.q 12 .nil))))))))))))))) ([BV]) [15] (Fr 15 1) AF AF AF AD AF AF AF BK ?_;refine fK ?_;replace HC:=O (HC.o.below (AN _ _).drew);generalize Ac.drew=f at *;have L:=mZ k ww n wy w8 w7;have AM:=HC.o.map.look (Keyed.of_law cC) underlying229 (Z4 f) L;obtain⟨st,A2,y,AJ,AO,Ao⟩:=HC.o.map.entry cC underlying229 Hr (λAx=>Z4 Ax) L;obtain⟨A3,At,Ap,nJ⟩:=Ao (.int .i64 ((E.countP (Df k ww n):Int)+1)) (Jz (E++[⟨m,k,ww,n,a⟩])) (AJK E ⟨m,k,ww,n,a⟩) (AJJ E ⟨m,k,ww,n,a⟩);rw[oW] at AM y AO;simp only[Kc] at AM y AO;simp only[goInt] at At;have BE:(E.countP (Df k ww n):Int)<=30000:=by have:E.countP (Df k ww n)<=E.length:=List.countP_le_length;omega
        have BD:(0:Int)<=(E.countP (Df k ww n):Int):=U;have U3:=O Ap;generalize (E.countP (Df k ww n):Int)=q at *;have hab:ab≠BV:=λh=>by
         obtain⟨Ah,Ae,i⟩:=HC.o.map.isMap;have T:f.heap[ab]? = some (.cells _ 231):=HC.o.blk;rw[h,i] at T;cases T
        have Av:w.heap.size≠BV:=λh=>by
         obtain⟨Ah,Ae,i⟩:=HC.o.map.isMap;have T:f.heap[w.heap.size]? = some (.cells _ 167):=HC.o.Cg;rw[h,i] at T;cases T
        have BI:ab∉[BV]:=gv;have BJ:w.heap.size∉[BV]:=by simpa using Av
        have J:=HC.o.blk.g1;have M:=HC.o.Cg.g1;have N:=HC.o.Cg.g2;have P:=HC.o.Cg.g3;have G:=HC.o.blk.lt;have Q:=HC.o.Cg.lt;iterate 11 refine Yi ?_
        refine ACx ?_ ?_
        .refine V8 rfl ?_;intro K hK;go_simp;refine hK _ _ OB ?_;iterate 1 refine Yi ?_
         refine V8 rfl ?_;intro K hK;go_simp;refine hK _ _ (AP.HW AJ AH) ?_;exact sx
        .refine V8 rfl ?_;intro K hK;go_simp;refine hK _ _ (AP.HW AJ AH) ?_;iterate 1 refine Yi ?_
         refine V8 rfl ?_;intro K hK;go_simp;refine hK _ _ OB ?_;exact sx
end
section
open Go.Maps (Keyed)
variable{w':AA}
attribute [local irreducible] Cu
def LX(K:List Kd)(A:Int->Int->AB)(key:AB):Option AB:=match key with
 | .agg ⟨[.int .i64 a,.int .i64 b]⟩=>if B_ a b K then some (A a b) else none
 | _=>none
def XF(K:List Kd)(A:Int->Int->AB)(a b:Int):LX K A (Jl a b)=if B_ a b K then some (A a b) else none:=rfl
structure Dj(w:AA)(Ak BU:Nat)(K:List Kd)(V:Int->Int->AB)(c:Nat):Prop where
 blk:AG w Ak 156 #[.map (some BU)]
 map:DQ w prog 225 BU c (LX K V)
 row:∀x∈K,w.ownsRow 0 5 1 (V x.s x.n) x.b.length (A3 x.b)
def Dj.kept{w:AA}{A B:Nat}{K:List Kd}{C:Int->Int->AB}{c:Nat}{S:List Nat}(h:Dj w A B K C c)(hk:AP S w w')(D:A∉S)(h2:B∉S)(E:∀g cs,AG w g 5 cs->g∉S):Dj w' A B K C c:=
 ⟨h.blk.kept hk D,h.map.keep fq,λG F=>Bl (h.row G F) hk E⟩
def Dj.below{w:AA}{B C:Nat}{K:List Kd}{A:Int->Int->AB}{c:Nat}(h:Dj w B C K A c)(hb:Below w w w'):Dj w' B C K A c:=
 h.kept (S:=[]) CX N9 N9 CE
def xf(u:AA):(zeroValue 27).run prog u=.ok AL u:=AF
def Hz(K:List Kd)(A:Int->Int->AB)(s n:Int):AB:=if B_ s n K then A s n else .slice none 0 0
def Dj.look{w:AA}{E C:Nat}{K:List Kd}{B:Int->Int->AB}{c:Nat}(F:Dj w E C K B c)(s n:Int)(G:Ec s)(H:Ec n):
 (Instr.lookup 154 (.map (some C)) (.agg #[s,n]) true).run prog w=.ok (.tuple #[Hz K B s n,.bool (B_ s n K)]) w:=by
 have A:=F.map.look_ok (Keyed.of_law TX) underlying154 (xf w) (O2 s n G H);rw[XF] at A;unfold Hz;cases D:B_ s n K with
 | true=>rw[D] at A;exact A
 | false=>rw[D] at A;exact A
def Dj.slice{w:AA}{C D:Nat}{K:List Kd}{A:Int->Int->AB}{c:Nat}(E:Dj w C D K A c)(s n:Int):∃a m q,Hz K A s n=.slice a m q:=by
 unfold Hz;cases F:B_ s n K with
 | true=>
  obtain⟨H,G,rfl,rfl,_⟩:=IT F;obtain⟨a,q,B⟩:=CV (E.row H (Bu G));exact⟨a,_,q,by rw[Ab rfl,B]⟩
 | false=>exact⟨none,0,0,rfl⟩
def lH(w:AA)(B D:Nat)(K:List Kd)(A:Int->Int->AB)(c:Nat)(s n:Int)(h:Dj w B D K A c)(E:Ec s)(F:Ec n):
 AI 124 #[.pointer B,s,n] w (BX (.tuple #[Hz K A s n,.bool (B_ s n K)]) w):=by
 have G:=h.look s n E F;obtain⟨H,J,L,e⟩:=h.slice s n;rw[e] at G ⊢;have C:=h.blk.cell 0;have I:=h.blk.lt;simp only[CH,A8] at C;generalize B_ s n K=M at *;go_in;go_wp2;go_ret2;exact N1
def W9(s n:Int)(l:List Kd):B_ s n l=(EK s n l).isSome:=by
 cases A:B_ s n l with
 | true=>obtain⟨C,_,_,_,B⟩:=IT A;rw[B];rfl
 | false=>rw[Qm A];rfl
def Dj.put{w:AA}{Q D:Nat}{K I:List Kd}{J:Int->Int->AB}{c:Nat}{l:AE}{v:AB}(h:Dj w Q D K J c)(V:Fi K)(R:Dr K l=some I)(a:c<maxLen)(j:w.ownsRow 0 5 1 v l.length (A3 l)):
 ∃w' W,(Instr.mapUpdate 154 (.map (some D)) (.agg #[.int .i64 (Au l),.int .i64 (Av l)]) v).run prog w=.ok () w'/\Dj w' Q D I W (c+1)/\AP [D] w w':=by
 obtain⟨b,o,f,Z⟩:=UI R;have n:=RS b;have T:=pd V R;have X:LX I (λB C=>if B=Au l/\C=Av l then v else J B C) (Jl (Au l) (Av l))=some v:=by
  have:=T (Au l) (Av l);rw[Ab ⟨rfl,rfl⟩] at this;rw[XF,W9,this];simp
 have Y:∀A,A≠Jl (Au l) (Av l)->LX I (λB C=>if B=Au l/\C=Av l then v else J B C) A=LX K J A:=by
  intro A F;unfold LX;split
  .rename_i B C;have N:¬(B=Au l/\C=Av l):=λe=>F (by rw[e.1,e.2];rfl);rw[W9,T,AU N,<-W9];simp only[AU N]
  .rfl
 obtain⟨w',i,M,d⟩:=h.map.store (Keyed.of_law TX) underlying154 a (O2 (Au l) (Av l) ⟨U,U⟩ ⟨U,U⟩) (val:=v) X Y;have L:AP [D] w w':=AP.HW d AH;obtain⟨m,k,g⟩:=h.map.isMap;have O:∀E P G,AG w E P G->E∉[D]:=λE P G H M=>by
  simp only[Aj,A',A_] at M;subst M;have S:w.heap[E]? = some (.cells G P):=H;rw[g] at S;cases S
 refine⟨w',_,i,⟨h.blk.kept L (O _ _ _ h.blk),M,λA F=>?_⟩,L⟩;rw[Z] at F;rcases ((V.put l f).2 A).1 F with rfl|⟨F,hi⟩
 .simp only[and_self,CI];exact Bl j L (λE G H=>O _ _ _ H)
 .have N:¬(A.s=Au l/\A.n=Av l):=λe=>wg;simp only[AU N];exact Bl (h.row A F) L (λE G H=>O _ _ _ H)
def SR(w:AA)(E A:Nat)(K:List Kd)(c:Nat)(l:AE)(e:Ending)(w':AA):Prop:=
 match Dr K l with
 | some C=>e=.returned ()/\∃D,Dj w' E A C D (c+1)/\AP [A] w w'
 | none=>(∃B,B≠0/\e=.returned (.int .i64 B))/\Below w w w'
def pZ{w:AA}{A B:Nat}{K:List Kd}{c:Nat}{l:AE}{n:Int}(C:Dr K l=none)(E:n≠0)(D:Below w w w'):SR w A B K c l (.returned n) w':=by
 unfold SR;rw[C];exact⟨⟨n,E,rfl⟩,D⟩
def pY{w:AA}{D A:Nat}{K B:List Kd}{C:Int->Int->AB}{c:Nat}{l:AE}(E:Dr K l=some B)(G:Dj w' D A B C (c+1))(F:AP [A] w w'):SR w D A K c l (.returned ()) w':=by
 unfold SR;rw[E];exact⟨rfl,C,G,F⟩
def eD{K:List Kd}{l:AE}(A:CR l=false):Dr K l=none:=by simp[Dr,A]
def ALF{K:List Kd}{l:AE}(h:CR l=true)(hh:B_ (Au l) (Av l) K=false):∃A,Dr K l=some A:=⟨_,wv⟩
def pc{K:List Kd}{l:AE}(h:CR l=true){x:Kd}(hx:EK (Au l) (Av l) K=some x.b):(Lib.compareBytes x.b l<=0->Dr K l=none)/\(¬Lib.compareBytes x.b l<=0->∃A,Dr K l=some A):=by
 refine⟨λhc=>by unfold Dr;rw[Ab h,hx];simp only;rw[Ab hc],λhc=>⟨_,xM⟩⟩
structure QA(w X:AA)(Ak BU:Nat)(K:List Kd)(V:Int->Int->AB)(c kb:Nat)(s n:Int):Prop where
 fd:Dj X Ak BU K V c
 kk:AG X kb 225 #[s,n]
 AJ:Below w w X
def QA.below{w B E:AA}{F G:Nat}{K:List Kd}{D:Int->Int->AB}{c H:Nat}{s n:Int}(A:QA w B F G K D c H s n)(C:Below B B E):QA w E F G K D c H s n:=
 ⟨A.fd.below C,A.kk.below C A.kk.lt,AW A.AJ C⟩
def AEQ(w:AA)(B BU:Nat)(K:List Kd)(A:Int->Int->AB)(c:Nat)(v:AB)(l:AE)(h:Dj w B BU K A c)(Aa:Fi K)(o:Af w w v l)(AY:l.length<=140737488355328)(Ao:c<=30000):
 AI 61 #[.pointer B,v] w (SR w B BU K c l):=by
 have n:c<maxLen:=Hr;have AJ:=O h;have f:=O Aa;have A2:=O o;obtain⟨Aq,As,rfl,_⟩:=o;go_in;go_wp2_with fail;go_call oC _ l _ A2.o AY as e w1 ⟨Ar,rfl,hrow,hb1⟩;obtain⟨Q,R,rfl⟩:=CV hrow;simp only[G8];cases hd:CR l with
 | false=>
  have S:Jf l=11:=ZC;rw[S];have F:=O (eD (K:=K) hd);have a:=O hb1;generalize Ix l=At;generalize Iy l=Aw;generalize Je l=J;generalize Jd l=L;generalize (IM l).length=M;go_wp2_with fail;go_ret;exact pZ F.o AD (a.o.alloc a.o.size _)
 | true=>
  have S:Jf l=0:=ZC;have AU:Ix l=Au l:=by simp[Ix,hd]
  have AV:Iy l=Av l:=by simp[Iy,hd]
  rw[S,AU,AV];have b:=O hd;obtain⟨Ak,Al,Am,An⟩:=RS hd;generalize Je l=J;generalize Jd l=L;generalize (IM l).length=M;go_wp2_with fail;have AC:Hid (QA w ((w1.alloc (.cells #[.int .i64 (Au l),.int .i64 (Av l),J,.int .u32 L,.slice Q M R] 108)).alloc (.cells #[.int .i64 (Au l),.int .i64 (Av l)] 225)) B BU K A c (w1.heap.size+1) (Au l) (Av l)):=by
   have AW:=hb1.alloc hb1.size (.cells #[.int .i64 (Au l),.int .i64 (Av l),J,.int .u32 L,.slice Q M R] 108);have m:=AW.alloc (by have:=hb1.size;simp;omega) (.cells #[.int .i64 (Au l),.int .i64 (Av l)] 225);exact⟨AJ.o.below m,AG.newAt _ _ _ _ AH,m⟩
  generalize w1.heap.size+1=Y at *;generalize (w1.alloc (.cells #[.int .i64 (Au l),.int .i64 (Av l),J,.int .u32 L,.slice Q M R] 108)).alloc (.cells #[.int .i64 (Au l),.int .i64 (Av l)] 225)=P at *;refine DB [] [0,1,2,3,4,5,6,7,8,9,10] P AF AF rfl AD AF BK ?_;refine Mu ?_;refine Bn (λD=>QA w D B BU K A c Y (Au l) (Av l)/\P.heap.size=D.heap.size) (w0:=P.drew) ⟨AC.o.below (AN _ _).drew,rfl⟩ ?_;rintro g ⟨AX,Ab⟩;rw[Ab];have AC:=O AX;have r:∀y:Iq g g,_:=λy=>(AC.o.fd.below y.h).look (Au l) (Av l) ⟨U,U⟩ ⟨U,U⟩;obtain⟨i,j⟩:=AC.o.fd.blk.y1;obtain⟨t,u,x⟩:=AC.o.kk.y2;cases E:B_ (Au l) (Av l) K with
  | false=>
   have W:Hz K A (Au l) (Av l)=.slice none 0 0:=by simp[Hz,E]
   rw[W,E] at r;have AK:=O E;refine Yb ?_;go_wp2_with fail;refine uU ?_;refine Bn (λD=>QA w D B BU K A c Y (Au l) (Av l)) Di ?_;intro AR T;have AC:=O T;obtain⟨i,j⟩:=AC.o.fd.blk.y1;obtain⟨t,u,x⟩:=AC.o.kk.y2;iterate 6 refine GM ?_
   refine WO rfl ?_;intro N C;go_simp;go_at_call 60;go_call UC _ l _ vG U as e AS ⟨Ae,rfl,X,IW⟩;refine C _ _ R9 ?_;replace AC:=O (AC.o.below IW);obtain⟨AO,G⟩:=ALF b.o AK.o;obtain⟨AT,AQ,Ac,V,H⟩:=AC.o.fd.put f.o G n (Gc X J_);refine Ow rfl ?_;intro N C;go_simp;refine C _ _ H ?_;refine LU ?_;go_wp2_with fail;go_ret;exact pY G V ((AP.of_below AC.o.AJ).trans H)
  | true=>
   obtain⟨Z,Ad,Aj,Ai,AZ⟩:=IT E;have I:=AC.o.fd.row Z (Bu Ad);rw[Aj,Ai] at I;obtain⟨Ag,Ah,s⟩:=CV I;have W:Hz K A (Au l) (Av l)=.slice Ag Z.b.length Ah:=by simp[Hz,E,s]
   rw[W,E] at r;rw[s] at I;have AM:=O I;have AL:=O AZ;refine Yb ?_;have d:=O (pc (K:=K) b.o AL.o);go_wp2_with fail;go_call AKc _ (Af.FI AM.o) fm as e w' ⟨rfl,rfl⟩;generalize Lib.compareBytes Z.b l=q at *;by_cases Ap:q<=0
   .have F:=O (d.o.1 U);go_wp2_with fail;go_ret;exact pZ F.o AD AC.o.AJ
   .have F:=O (d.o.2 U);go_wp2_with fail;refine uU ?_;refine Bn (λD=>QA w D B BU K A c Y (Au l) (Av l)) Di ?_;intro AR T;have AC:=O T;obtain⟨i,j⟩:=AC.o.fd.blk.y1;obtain⟨t,u,x⟩:=AC.o.kk.y2;iterate 6 refine GM ?_
    refine WO rfl ?_;intro N C;go_simp;go_at_call 60;go_call UC _ l _ vG U as e AS ⟨Ae,rfl,X,IW⟩;refine C _ _ R9 ?_;replace AC:=O (AC.o.below IW);obtain⟨AO,G⟩:=F.o;obtain⟨AT,AQ,Ac,V,H⟩:=AC.o.fd.put f.o G n (Gc X J_);refine Ow rfl ?_;intro N C;go_simp;refine C _ _ H ?_;refine LU ?_;go_wp2_with fail;go_ret;exact pY G V ((AP.of_below AC.o.AJ).trans H)
end
section
open Go.Maps (Keyed)
variable{B:Nat}{b l:AE}{w':AA}{L:List AE}{u:List AB}{S:List Nat}{v' D5:AB}{us:List (List AB)}
def tL:(prog.info? 108).map (λi=>(i.zero,i.size,i.bytes))=some (some (.agg #[(),(),(),.int .u32 0,AL]),5,56):=AF
def M6(B:Nat)(w:AA)(b:AE)(u:List AB):Prop:=∃A,u=[.int .i64 (Au b),.int .i64 (Av b),.int .i64 (Br b),.int .u32 (Ba b),A]/\w.ownsRow B 5 1 A (BC b).length (A3 (BC b))
def M6.len{w:AA}(h:M6 B w b u):u.length=5:=gw
def M6.kept{w:AA}(h:M6 B w b u)(hk:AP S w w')(hS:∀g cs,AG w g 5 cs->g∉S):M6 B w' b u:=by
 exact p5
def JO(B:Nat)(w:AA)(L:List AE)(v:AB):Prop:=AS B w 108 5 (M6 B w) L v
def JO.kept{w:AA}{v:AB}(C:JO B w L v)(A:AP S w w')(D:∀g cs,AG w g 5 cs->g∉S)(E:∀g cs,AG w g 108 cs->g∉S):JO B w' L v:=
 AS.kept C A E (λ_ _ F=>F.kept A D)
def JO.below{w:AA}{v:AB}(h:JO B w L v)(hb:Below w w w'):JO B w' L v:=
 h.kept (S:=[]) CX CE CE
def JO.snoc{w:AA}{v:AB}(H:Rows (M6 B w) L us)(F:w.ownsRow B 108 5 v L.length us.flatten)(hb:w.ownsRow B 5 1 D5 (BC b).length (A3 (BC b)))
 (G:w'.ownsRow B 108 5 v' (L.length+1) (us.flatten++[.int .i64 (Au b),.int .i64 (Av b),.int .i64 (Br b),.int .u32 (Ba b),D5]))(E:w.grownBy w' v.ownBlock):JO B w' (L++[b]) v':=by
 obtain⟨S,D,hS⟩:=Gd F E;have C:∀g A,AG w g 5 A->g∉S:=λg A hb hm=>by
  exact eP
 exact AS.snoc (H.mono (λ_ _ I=>I.kept D C)) ⟨D5,rfl,Bl hb D C⟩ G
def XU(l:AE)(C:4<=l.length):0<=EX l/\EX l<4294967296:=by
 have A:=KW (l.drop (l.length-4));rw[show(l.drop (l.length-4)).length=4 by simp;omega] at A;exact A
def oF(h:CR l=true):0<=Ba l/\Ba l<4294967296:=by
 have C:15<=l.length:=by
  exact rk
 have A:=KW (List.take 4 (List.drop 5 l));rw[show(List.take 4 (List.drop 5 l)).length=4 by simp;omega] at A;exact A
def dZ(h:CR l=true):15<=l.length/\l.length<=58:=by
 have C:15<=l.length:=by
  exact rk
 unfold CR at h;simp only[At] at h;have A:=Xb (T' h.2).2.2.2;have D:(BC l).length=l.length-15:=gx;omega
def ACu(B:Nat)(v:AB)(l:AE)(w:AA)(h:Af B w v l)(C:B<=w.heap.size)(Q:5<=l.length)(W:l.length<=1000):
 AI 125 #[v] w (Bz (.int .u32 (EX l)) w):=by
 obtain⟨P,c,rfl,V,G⟩:=id h;obtain⟨b,o,rfl,R,_⟩:=G U;clear G;have H:Af B w (.slice (some ⟨b,o+(l.length-4),none⟩) (l.length-(l.length-4)) (c-(l.length-4))) (l.drop (l.length-4)):=by
  have:=h.sub (n:=l.length-4) (k:=4) U;rw[HB AM] at this;rw[show l.length-(l.length-4)=4 by omega];exact this
 have D:In B w (l.drop (l.length-4)) (w.alloc (.cells #[.slice (some ⟨b,o+(l.length-4),none⟩) (l.length-(l.length-4)) (c-(l.length-4))] 282)):=
  ⟨⟨_,AG.new _ _ _,H.below ((AN _ _).alloc C _)⟩,C⟩
 have I:=O D;have A:=O ((AN w w).alloc (Bh _) (.cells #[.slice (some ⟨b,o+(l.length-4),none⟩) (l.length-(l.length-4)) (c-(l.length-4))] 282));have T:=XU l U;have X:max (0:Int) ((l.length:Int)-4)=(l.length:Int)-4:=U;have Y:((l.length:Int)-4).toNat=l.length-4:=U;have J:Hid (AQ (List.take 4 (l.drop (l.length-4)))=EX l):=by
  show _=_;rw[HB AM];rfl
 have F:Hid ((l.drop (l.length-4)).length=4):=by show _=_;simp;omega
 clear h H D;go_in;go_wp2_with fail;refine(WI B w 4 _ _ _ U AD AD I.o (by rw[F.o];omega) (by rw[F.o];omega)).mono ?_;rintro e w' ⟨rfl,N,E⟩;rw[J.o];have K:=A.o.grown E A.o.size (λZ M=>by injection M;omega);clear E N;go_wp2_with fail;go_ret;exact⟨AH,K⟩
structure OO(w X:AA)(Ak BU:Nat)(K:List Kd)(V:Int->Int->AB)(c:Nat)(o:AB)(D:List AE):Prop where
 fd:Dj X Ak BU K V c
 out:JO w X D o
 AJ:Below w w X
def OO.o:=@OO.out
def OO.below{w A G:AA}{H I:Nat}{K:List Kd}{F:Int->Int->AB}{c:Nat}{o:AB}{E:List AE}(C:OO w A H I K F c o E)(D:Below A A G):OO w G H I K F c o E:=
 ⟨C.fd.below D,C.o.below D,AW C.AJ D⟩
def OO.grow{w A E:AA}{M G:Nat}{K:List Kd}{J:Int->Int->AB}{c:Nat}{o P:AB}{D:List AE}{F:AE}(h:OO w A M G K J c o D)(V:A.ownsRow 0 5 1 P F.length (A3 F))
 (U:Rows (M6 w A) D us)(O:A.ownsRow w 108 5 o D.length us.flatten)(Q:A.ownsRow w 5 1 D5 (BC b).length (A3 (BC b)))
 (T:E.ownsRow w 108 5 v' (D.length+1) (us.flatten++[.int .i64 (Au b),.int .i64 (Av b),.int .i64 (Br b),.int .u32 (Ba b),D5]))(hg:A.grownBy E o.ownBlock):
 OO w E M G K J c v' (D++[b])/\E.ownsRow 0 5 1 P F.length (A3 F):=by
 obtain⟨S,hk,hS⟩:=Gd O hg;have H:∀g I C,AG A g I C->I≠108->g∉S:=λg I C hg h1 hm=>by
  exact Pa
 obtain⟨X,W,R⟩:=h.fd.map.isMap;have hm:G∉S:=λhm=>by
  obtain⟨_,cs',h3⟩:=hS _ hm;have N:A.heap[G]? = some (.cells cs' 108):=h3;rw[R] at N;cases N
 exact⟨⟨h.fd.kept hk (H _ _ _ h.fd.blk AD) hm (λg C hg=>H g _ C hg AD),JO.snoc U O Q T hg,h.AJ.trans Mx⟩,Bl V hk (λg C hg=>H g _ C hg AD)⟩
def xW(K:List Kd)(s:Int)(w:AA)(e:Ending)(w':AA):Prop:=∃A,e=.returned A/\JO w w' (Hb K s) A/\Below w w w'
def bP(w:AA)(M R:Nat)(K:List Kd)(G:Int->Int->AB)(c:Nat)(s:Int)(h:Dj w M R K G c)(v:∀x∈K,F7 x)(q:Ec s):
 AI 68 #[.pointer M,s] w (xW K s w):=by
 have AM:=O v;have AO:=O q;have AC:Hid (OO w w M R K G c AL []):=⟨h,AS.mt,AN _ _⟩;clear h v q;go_in;go_wp2_with fail;go_loopw [5,6,7] (λo p Z wr=>∃(D:List AE) (C:Int),Z=.int .i64 ((D.length:Int)+1)/\p=.int .u32 C/\D.length<=999/\(0<=C/\C<4294967296)/\OO w wr M R K G c o D/\Hid (Hb K s=D++G_ K s (1000-D.length) ((D.length:Int)+1) C)) (λ_ _ Z _=>1001-(intOf Z).toNat)
 case atStart=>exact⟨[],0,rfl,rfl,AH,U,AC.o,rfl⟩
 case round=>
  clear AC;obtain⟨D,C,rfl,rfl,Ac,AU,W,HC⟩:=hrel;have AC:=O W;obtain⟨TM,bi,rfl,Aj⟩:=AS.slice W.o;obtain⟨An,Ao⟩:=AU;clear W;go_wp2_with fail;refine(lH _ M R K G c s _ AC.o.fd AO.o ⟨U,U⟩).mono ?_;rintro f w' ⟨rfl,rfl⟩;cases H:B_ s ((D.length:Int)+1) K with
  | false=>
   have N:Hz K G s ((D.length:Int)+1)=.slice none 0 0:=by simp[Hz,H]
   have FB:Hid (Hb K s=D):=by
    show _=_;rw[HC.o,Nu (Qm H),El]
   rw[N];clear N H;go_wp2_with fail;go_ret;exact⟨.slice TM D.length bi,rfl,xL,AC.o.AJ⟩
  | true=>
   obtain⟨x,AD,AJ,AF,X⟩:=IT H;obtain⟨T,AV,AT,Ag,Ah,AW,AX⟩:=WP AM.o X;clear AV AT AW AX;have P:=AC.o.fd.row x (Bu AD);rw[AJ,AF] at P;obtain⟨Aa,Ab,Y⟩:=CV P;have N:Hz K G s ((D.length:Int)+1)=.slice Aa x.b.length Ab:=by simp[Hz,H,Y]
   rw[Y] at P;rw[N];obtain⟨Ad,Ae⟩:=dZ T;obtain⟨Al,Am⟩:=oF T;obtain⟨s0,s1⟩:=XU x.b U;have A:=O P;have gm:=O X;have F:=O T;clear N H AD AJ AF X P Y T;go_wp2_with fail;refine(oC _ x.b _ (Af.FI A.o) U).mono ?_;rintro f E ⟨D5,rfl,V,hb1⟩;have g:Jf x.b=0:=by simp[Jf,F.o]
   have i:Ix x.b=Au x.b:=by simp[Ix,F.o]
   have j:Iy x.b=Av x.b:=by simp[Iy,F.o]
   have k:Je x.b=Br x.b:=by simp[Je,F.o]
   have m:Jd x.b=Ba x.b:=by simp[Jd,F.o]
   have n:IM x.b=BC x.b:=by simp[IM,F.o]
   rw[n] at V;obtain⟨I,J,rfl⟩:=CV V;simp only[G8];rw[g,i,j,k,m];clear g i j k m n;replace A:=O (Bl A.o (S:=[]) ff CE);have d:=O (Gc V AC.o.AJ.size);replace AC:=O Bg;clear V hb1;by_cases PG:Ba x.b=C
   .have FB:Hid (Hb K s=D++[x.b]++G_ K s (1000-(D.length+1)) ((D.length:Int)+1+1) (EX x.b)):=by
     exact rH
    subst PG;clear HC;have Q:=O d.o;have hb2:=(AN E E).alloc AK (.cells #[.int .i64 (Au x.b),.int .i64 (Av x.b),.int .i64 (Br x.b),.int .u32 (Ba x.b),.slice I (BC x.b).length J] 108);have AR:=AG.new E 108 #[.int .i64 (Au x.b),.int .i64 (Av x.b),.int .i64 (Br x.b),.int .u32 (Ba x.b),.slice I (BC x.b).length J];have AY:E.heap.size<=(E.alloc (.cells #[.int .i64 (Au x.b),.int .i64 (Av x.b),.int .i64 (Br x.b),.int .u32 (Ba x.b),.slice I (BC x.b).length J] 108)).heap.size:=hb2.size;replace AC:=O K1;replace A:=O (Bl A.o (S:=[]) R5 CE);replace Q:=O (Bl Q.o (S:=[]) R5 CE);clear d;obtain⟨us,z,hown⟩:=AC.o.out;have Ak:=AC.o.AJ.size;go_wp2_with (at_builtin;go_loud (refine ET AZ _ _ 170 108 AZ underlying170 (.agg #[(),(),(),.int .u32 0,AL]) 5 56 U U tL rfl w _ D.length us.flatten _ [.int .i64 (Au x.b),.int .i64 (Av x.b),.int .i64 (Br x.b),.int .u32 (Ba x.b),.slice I (BC x.b).length J] rfl C2 rfl HP _ AZ AH U U ?_);intro v' Ap y AQ t)
    obtain⟨a,e⟩:=AC.o.grow A.o z hown Q.o y t;replace AC:=O a;replace A:=O e;clear a e Q z hown y t AQ hb2 AR AY us;refine(ACu _ _ x.b _ (Af.FI A.o) AK U U).mono ?_;rintro f Aq ⟨rfl,r⟩;replace AC:=O (AC.o.below r);clear r;exact rp
   .have Ai:(Ba x.b !=C)=true:=E8.2 PG;have FB:Hid (Hb K s=D):=by
     exact pw
    have hb2:=(AN E E).alloc AK (.cells #[.int .i64 (Au x.b),.int .i64 (Av x.b),.int .i64 (Br x.b),.int .u32 (Ba x.b),.slice I (BC x.b).length J] 108);replace AC:=O K1;clear hb2 PG;exact eR
def bG(w:AA)(A D:Nat)(K:List Kd)(C:Int->Int->AB)(c:Nat)(s:Int)(h:Dj w A D K C c)(hk:∀x∈K,F7 x)(E:Ec s):
 AI 28 #[.pointer A,s] w (Bz (.int .i64 (Gg K s:Int)) w):=by
 have HD:=O (bP w A D K C c s h hk E);exact sX
end
section
variable{us:List (List AB)}{k n c:Nat}{w:AA}{xs:List AB}
def AHv(A:∀u∈us,u.length=k):∀i,us.flatten.take (i*k)=(us.take i).flatten:=by
 induction us with
 | nil=>intro i;simp
 | cons u us F=>
  intro i;rcases i with _|i
  .simp
  .have C:=A u (D0 ..);rw[Lb,Qq,Lb,<-F (λG D=>A G (Dq _ D)) i,List.take_append,C,HB (by rw[C,Nat.succ_mul];omega),show(i+1)*k-k=i*k by rw[Nat.succ_mul];omega]
def AHx(A:∀u∈us,u.length=k):∀i,us.flatten.drop (i*k)=(us.drop i).flatten:=by
 induction us with
 | nil=>intro i;simp
 | cons u us F=>
  intro i;rcases i with _|i
  .simp
  .have C:=A u (D0 ..);rw[Lb,Qz,<-F (λG D=>A G (Dq _ D)) i,List.drop_append,C,Mg (by rw[C,Nat.succ_mul];omega),show(i+1)*k-k=i*k by rw[Nat.succ_mul];omega,Dg]
def Rows.take{α:Type}{D:α->List AB->Prop}{C:List α}(A:Rows D C us):∀i,Rows D (C.take i) (us.take i):=by
 induction A with
 | nil=>intro i;simp;exact .nil
 | cons A _ F=>
  intro i;rcases i with _|i
  .exact .nil
  .exact .cons A (F i)
def Rows.drop{α:Type}{D:α->List AB->Prop}{C:List α}(A:Rows D C us):∀i,Rows D (C.drop i) (us.drop i):=by
 induction A with
 | nil=>intro i;simp;exact .nil
 | cons A F G=>
  intro i;rcases i with _|i
  .exact .cons A F
  .exact G i
def Rows.join{α:Type}{A:α->List AB->Prop}{D F:List α}{G:List (List AB)}(C:Rows A D us)(H:Rows A F G):Rows A (D++F) (us++G):=by
 induction C with
 | nil=>exact H
 | cons C _ I=>exact .cons C I
def Rows.AGQ{α:Type}{D:α->List AB->Prop}(G:∀x u,D x u->u.length=k){F:List α}(A:Rows D F us):∀u∈us,u.length=k:=by
 induction A with
 | nil=>simp
 | cons A _ H=>
  intro u C;rcases Aj.1 C with rfl|C
  .exact G _ _ A
  .exact H u C
def lO{a:BH}(h:FV w (.slice a n c) n xs){i:Nat}(J:i<=n):FV w (.slice a i c) i (xs.take (i*k)):=by
 rcases h with ⟨C,D⟩|⟨F,I,C,D⟩
 .injection C with e1 e2 e3;subst e1 e3;obtain rfl:i=0:=U;exact .inl ⟨rfl,rfl⟩
 .injection C with e1 e2 e3;subst e1;refine .inr ⟨F,c,rfl,λG H A=>D G H ?_⟩;rw[Lc] at A;split at A
  .exact A
  .cases A
def AEM{g o:Nat}(G:FV w (.slice (some ⟨g,o,none⟩) n c) n xs)(i F:Nat):FV w (.slice (some ⟨g,o+i*k,none⟩) (n-i) F) (n-i) (xs.drop (i*k)):=by
 rcases G with ⟨A,C⟩|⟨J,K,A,C⟩
 .cases A
 .injection A with e1 e2 e3;injection e1 with e1;subst e1;refine .inr ⟨_,_,rfl,λH I D=>?_⟩;rw[Mo,Nj,<-Mo];refine C (i*k+H) I ?_;rw[Wh] at D;exact D
end
