/- Lemmas for Y28. -/
import Derived.Test.YtcpcgpbohiineaaGreatDoorY01
namespace Go.Proofs.YtcpcgpbohiineaaGreatDoor
open Go.RowKit Go.Proofs.Tryz
set_option linter.all false
set_option maxRecDepth 100000
set_option maxHeartbeats 4000000
section
variable{a b w':AA}
def byteOf(x:Int):UInt8:=(x%256).toNat.toUInt8
def be:Nat->Int->AE
 | 0,_=>[]
 | k+1,x=>byteOf (x / 2 ^ (8*k))::be k x
def Dn(k:Nat)(x:Int):(be k x).length=k:=by
 induction k with
 | zero=>rfl
 | succ k A=>simp[be,A]
def A3(l:AE):List AB:=l.map λb=>.int .u8 (b.toNat:Int)
def RX(l:AE):(A3 l).length=l.length:=by simp[A3]
def RY(l m:AE):A3 (l++m)=A3 l++A3 m:=by simp[A3]
def RZ(x:Int):((byteOf x).toNat:Int)=x%256:=by
 have A:0<=x%256:=RA _ AD;have B:x%256<256:=Q' _ AD;simp[byteOf];omega
def KV(l:AE):∀u∈A3 l,u.oneCell'=true:=by
 intro u A;simp only[A3,Gr] at A;obtain⟨b,_,rfl⟩:=A;rfl
def HH:(prog.info? 5).map (λi=>(i.zero,i.size,i.bytes))=some (some (.int .u8 0),1,1):=AF
def DK(w w':AA):Prop:=w.heap.size<=w'.heap.size/\∀A,A<w.heap.size->(∀B fr,w.heap[A]?≠some (.cells B 5 fr))->w'.heap[A]? = w.heap[A]?
def DK.refl(w:AA):DK w w:=⟨Bh _,λ_ _ _=>rfl⟩
def DK.trans{c:AA}(A:DK a b)(E:DK b c):DK a c:=
 ⟨Ap A.1 E.1,λD B C=>(E.2 D (Co B A.1) (by rw[A.2 D B C];exact C)).trans (A.2 D B C)⟩
def DK.alloc(h:DK a b)(o:Obj):DK a (b.alloc o):=
 ⟨Ap h.1 AH,λB A C=>(GI b o B (Co A h.1)).trans (h.2 B A C)⟩
def DK.of_below(A:Below a a b):DK a b:=⟨A.size,λC B _=>A.block C B⟩
def DK.HW{w:AA}{C n:Nat}{v:AB}{K:List AB}(A:w.grownBy w' v.ownBlock)(J:w.ownsRow C 5 1 v n K):DK w w':=by
 refine⟨A.size,λB H I=>A.block B H ?_⟩;rcases J.2 with ⟨rfl,_⟩|⟨F,L,cur,rfl,_,G,_⟩
 .exact UJ
 .intro D;have E:B=F:=by simpa[Value.ownBlock] using D
  subst E;exact I _ _ G
def AG.cD{w:AA}{g:Nat}{t:TypeId}{cs:Array AB}(B:AG w g t cs)(C:DK w w')(D:t≠5):AG w' g t cs:=
 (C.2 g B.lt (by
  intro E fr A;unfold AG at B;rw[B] at A;injection A with A;injection A with _ e2;exact D e2)).trans B
def me{w:AA}{k:Nat}{s:ByteArray}{C:Nat}(A:w.heap[k]? = some (.stringIter s C))(D:DK w w'):w'.heap[k]? = some (.stringIter s C):=
 (D.2 k (E7.1 A).1 (by intro E fr B;rw[A] at B;cases B)).trans A
def Z'{ops:Array Oper}{rest:List Oper}{o:Oper}{a:Act}{Q:Exit->Act->AA->Prop}(C:o.guard=none)(s x:Operand)
 (F:o.op=.call { callee:=.builtin .append,args:=#[s,x],argTypes:=#[27,27] })
 (A:Nat)(v:AB)(l:AE)(wr:AA)(y:Int)(H:a.eval s=v)(hown:wr.ownsRow A 5 1 v l.length (A3 l))(I:a.eval x=.slice wr 1 1)
 (O:l.length<=100000000)(N:A<=wr.heap.size)
 (h:∀v' w',w'.ownsRow A 5 1 v' (l++[byteOf y]).length (A3 (l++[byteOf y]))->Below A wr w'->DK wr w'->wpList prog ops Q rest (a.put o.dst v') w') :
 wpList prog ops Q (o::rest) a (wr.alloc (.cells #[.int .u8 (y%256)] 5)):=by
 obtain⟨M,D,J,K,L⟩:=info_parts HH;refine I8 _ C s x 27 F A 5 M (.int .u8 0) 1 1 underlying27 D J K L rfl AD v l.length (A3 l) H (hown.alloc _) ⟨wr,0,none⟩ 1 1 [.int .u8 (y%256)] I rfl
  (World.news_of_block (cs:=#[.int .u8 (y%256)]) (t:=5) (fr:=(0,0)) (Hf wr _)) C2 Hr U AM ?_
 intro v' w' G hg _;have hg':wr.grownBy w' v.ownBlock:=⟨hg.os,hg.tape,hg.output,Ap AH hg.size,λk hk E=>(hg.block k AM E).trans (GI wr _ k hk)⟩;refine h v' w' ?_ ?_ (DK.HW hg' hown)
 .rw[Cp,RY];have B:A3 [byteOf y]=[.int .u8 (y%256)]:=gz;rw[B];exact G
 .exact qx
def OU(A:Nat)(l:AE)(w:AA)(e:Ending)(w':AA):Prop:=
 ∃B,e=.returned B/\w'.ownsRow A 5 1 B l.length (A3 l)/\Below A w w'/\DK w w'
def AKU(base:Nat)(v:AB)(bs:AE)(x:Int)(size:Nat)(w:AA)(E:size<=8)(D:bs.length<=1000000)
 (hown:w.ownsRow base 5 1 v bs.length (A3 bs))(B:base<=w.heap.size):
 AI 375 #[v,x,size] w (OU base (bs++be size x) w):=by
 obtain⟨I,C,F,G,H⟩:=info_parts HH;go_in;go_wp2;go_loopw [0,7] (λv A wr=>∃(k:Nat) (l:AE),k<=size/\A=.int .i64 ((k:Int)-1)/\wr.ownsRow base 5 1 v l.length (A3 l)/\Below base w wr/\DK w wr/\l.length+k=bs.length+size/\Hid (l++be k x=bs++be size x))
  (λ_ A _=>(intOf A+1).toNat)
 case atStart=>exact⟨size,bs,Bh _,rfl,hown,AN _ _,DK.refl _,rfl,rfl⟩
 case round=>
  exact tf
end
section
variable{w:AA}{v:AB}{l:AE}{B:Nat}
def Af(B:Nat)(w:AA)(v:AB)(l:AE):Prop:=
 ∃(C:BH) (c:Nat),v=.slice C l.length c/\l.length<=c/\(0<l.length->∃A o,C=some ⟨A,o,none⟩/\A<B/\∀D E,l[D]? = some E->w.cell? ⟨A,o+D,none⟩=some (.int .u8 (E.toNat:Int)))
def Af.below{F:AA}(A:Af B w v l)(H:Below B w F):Af B F v l:=by
 obtain⟨G,c,M,I,A⟩:=A;refine⟨G,c,M,I,λK=>?_⟩;obtain⟨C,o,ha,D,J⟩:=A K;exact⟨C,o,ha,D,λE N L=>(H.cell (p:=⟨C,o+E,none⟩) D).trans (J E N L)⟩
def Af.mono{B':Nat}(h:Af B w v l)(H:B<=B'):Af B' w v l:=by
 obtain⟨A,c,G,D,h⟩:=h;refine⟨A,c,G,D,λF=>?_⟩;obtain⟨C,o,ha,I,E⟩:=h F;exact⟨C,o,ha,U,E⟩
def Af.FI{G:Nat}(h:w.ownsRow G 5 1 v l.length (A3 l)):Af w w v l:=by
 rcases h.2 with ⟨rfl,h0⟩|⟨C,H,cur,rfl,_,E,J,_,_,K⟩
 .exact⟨none,0,Ux,U,λM=>by omega⟩
 .refine⟨_,H,rfl,J,λ_=>⟨C,0,rfl,(E7.1 E).1,λA L F=>?_⟩⟩;rw[DP,cell_of_row w C A cur _ _ E];have I:A<l.length:=(Cd.1 F).1;have D:(A3 l)[A]? = some (.int .u8 (L.toNat:Int)):=by simp[A3,F]
  rw[<-K,Q9,Tk I] at D;simpa using D
def fold_push(l:AE):∀s:ByteArray,(l.map λb=>(b.toNat:Int)).foldl (λr n=>r.push (UInt8.ofNat n.toNat)) s=⟨s.data++l.toArray⟩:=by
 induction l with
 | nil=>intro s;simp
 | cons b l C=>
  intro s;rw[HA,Fh,C];have A:UInt8.ofNat ((b.toNat:Int)).toNat=b:=AH;rw[A];simp[ByteArray.push]
def Af.string(h:Af B w v l):(convert 27 9 v).run prog w=.ok (.string ⟨l.toArray⟩) w:=by
 obtain⟨E,c,rfl,N,h⟩:=h;rw[run_convert_bytes_string w 27 9 5 E _ c underlying27 underlying5 underlying9];rcases l with _|⟨C,l⟩
 .cases E with
  | none=>simp[Conv.bytesToString];rfl
  | some F=>
   have H:(loadCells F 0).run prog w=.ok (([]:Ay).map (Value.int .u8)).toArray w:=by simp[loadCells,loadCellsFrom]
   exact run_bytesToString w F 0 c [] H
 .obtain⟨A,o,rfl,_,J⟩:=h AH;have K:(loadCells ⟨A,o,none⟩ (C::l).length).run prog w=.ok (((C::l).map λA=>(A.toNat:Int)).map (Value.int .u8)).toArray w:=by
   have:=run_loadCells_list (P:=prog) w ⟨A,o,none⟩ (A3 (C::l)) (λD O G=>by
    have I:(⟨A,o,none⟩:Addr).add D=⟨A,o+D,none⟩:=iE;rw[I];simp only[A3,JA,I6] at G;obtain⟨M,L,rfl⟩:=G;exact J D M L)
   rw[RX] at this;rw[this];simp[A3]
  rw[run_bytesToString w ⟨A,o,none⟩ _ c _ K,fold_push];simp
def Af.jb(A:Af B w v l)(y:Iq B w):(convert 27 9 v).run prog y.x=.ok (.string ⟨l.toArray⟩) y.x:=(A.below y.h).string
end
def AQ(l:AE):Int:=l.foldl (λA c=>A*256+(c.toNat:Int)) 0
def ln(l:AE)(c:UInt8):AQ (l++[c])=AQ l*256+(c.toNat:Int):=by simp[AQ]
def AFJ(l:AE):∀n:Int,l.foldl (λn c=>n*256+(c.toNat:Int)) n=n*256 ^ l.length+AQ l:=by
 induction l with
 | nil=>intro n;simp[AQ]
 | cons c l A=>
  intro n;have B:AQ (c::l)=((0:Int)*256+(c.toNat:Int))*256 ^ l.length+AQ l:=by rw[<-A];rfl
  rw[Fh,A,B,CB,Int.pow_succ];simp only[Int.zero_mul,Int.zero_add,Int.add_mul];have C:n*256*256 ^ l.length=n*(256 ^ l.length*256):=by rw[Int.mul_assoc,Int.mul_comm 256 (256 ^ l.length)]
  omega
def AFI(c:UInt8)(l:AE):AQ (c::l)=(c.toNat:Int)*256 ^ l.length+AQ l:=by
 have:=AFJ l ((0:Int)*256+(c.toNat:Int));simpa[AQ] using this
def ADN(k:Nat):(0:Int)<256 ^ k:=Int.pow_pos AD
def KW(l:AE):0<=AQ l/\AQ l<256 ^ l.length:=by
 induction l with
 | nil=>simp[AQ]
 | cons c l G=>
  rw[AFI,CB,Int.pow_succ];have C:=c.toNat_lt;have D:=ADN l.length;have E:(c.toNat:Int)*256 ^ l.length<=255*256 ^ l.length:=Int.mul_le_mul_of_nonneg_right U U;have F:0<=(c.toNat:Int)*256 ^ l.length:=Int.mul_nonneg U U;generalize (256:Int) ^ l.length=A at *;generalize (c.toNat:Int)*A=B at *;omega
def ADO(k:Nat)(h:k<=6):(256:Int) ^ k<=281474976710656:=by
 have A:k=0\/k=1\/k=2\/k=3\/k=4\/k=5\/k=6:=U;rcases A with rfl|rfl|rfl|rfl|rfl|rfl|rfl<;>decide
def AEb(x c:Nat)(hc:c<256):(x*256) ||| c=x*256+c:=by
 have h:=Nat.two_pow_add_eq_or_of_lt (i:=8) (b:=c) ZT x;rw[show(2:Nat) ^ 8=256 from rfl,Nq] at h;exact h.symm
def li(a:Nat)(h:a<9223372036854775808):(BitVec.ofInt 64 (a:Int)).toNat=a:=by
 rw[BitVec.ofInt_natCast,BitVec.toNat_ofNat];exact Nat.mod_eq_of_lt U
def ba(x c:Int)(F:0<=x)(I:x<=1099511627776)(E:0<=c)(G:c<256):bits .or .i64 (x*256) c=x*256+c:=by
 obtain⟨A,rfl⟩:=O' F;obtain⟨B,rfl⟩:=O' E;have H:A*256+B<9223372036854775808:=U;have C:((A:Int)*256)=((A*256:Nat):Int):=U;rw[C];show IntKind.i64.wrap ((BitVec.ofInt 64 ((A*256:Nat):Int) ||| BitVec.ofInt 64 (B:Int)).toNat:Int)=_;have ha:=li (A*256) U;have D:=li B U;rw[BitVec.toNat_or,ha,D,AEb A B U,IntKind.wrap_i64];omega
structure fG(B g:Nat)(l:AE)(sh:Bool)(w:AA):Prop where
 ex:∃v,AG w g 305 #[v,sh]/\Af B w v l
 hB:B<=g
def BZ(k:Nat)(l:AE):Int:=if l.length<k then 0 else AQ (l.take k)
def BD(k:Nat)(l:AE):AE:=if l.length<k then l else l.drop k
def Cv(k:Nat)(l:AE)(A:Bool):Bool:=if l.length<k then true else A
def ALl(B g k:Nat)(l:AE)(C:Bool)(w:AA)(e:Ending)(A:AA):Prop:=
 e=.returned (.int .i64 (BZ k l))/\fG B g (BD k l) (Cv k l C) A/\w.grownBy A (some g)
def LW{w:AA}{g o:Nat}(u:AB):w.grownBy (w.setCell ⟨g,o,none⟩ u) (some g):=
 ⟨rfl,rfl,rfl,by simp[World.setCell],λC _ B=>Lg w ⟨g,o,none⟩ u C (λA=>B (by rw[A]))⟩
def zB(B g k:Nat)(R:Int)(l:AE)(A:Bool)(w:AA)(X:R=k)(r:1<=k)(s:k<=6)(h:fG B g l A w)(C:l.length<=4611686018427387904):
 AI 205 #[.pointer g,R] w (ALl B g k l A w):=by
 subst X;obtain⟨⟨u,hblk,Y⟩,K⟩:=h;obtain⟨P,c,rfl,T,Q⟩:=Y;have Z:w.cell? ⟨g,0,none⟩=some (.slice P l.length c):=gW;have a:w.cell? ⟨g,1,none⟩=some (.bool A):=gW;obtain⟨d,f,-⟩:=hblk.fz;by_cases hlt:l.length<k
 .have t:(l.length:Int)<(k:Int):=U;have G:Hid (BZ k l=0/\BD k l=l/\Cv k l A=true):=wn;go_in;go_wp2;go_ret;obtain⟨D,E,F⟩:=G.o;refine⟨by rw[D];rfl,?_,LW _⟩;rw[E,F];refine⟨⟨_,hblk.put 1 _,⟨P,c,rfl,T,λC=>?_⟩⟩,K⟩;obtain⟨J,o,ha,L,I⟩:=Q C;exact⟨J,o,ha,L,λj N H=>(Wi w _ _ _ VF).trans (I j N H)⟩
 .obtain⟨J,o,rfl,L,I⟩:=Q U;have m:(k:Int)<=(l.length:Int):=U;go_in;go_wp2;go_loop [5,7,25] (λx _ M=>∃j:Nat,j<=k/\M=.int .i64 j/\x=.int .i64 (AQ (l.take j))) (λ_ _ M=>k-(intOf M).toNat)
  case atStart=>exact⟨0,Az _,rfl,rfl⟩
  case round=>
   obtain⟨j,n,rfl,rfl⟩:=hrel;by_cases q:j<k
   .have hjl:j<l.length:=U;have b:=I j l[j] (BL hjl);exact tt
   .have W:j=k:=U;subst W;have G:Hid (BZ j l=AQ (l.take j)/\BD j l=l.drop j/\Cv j l A=A):=wn;have S:=O I;by_cases V:c=j
    .subst V;go_wp2;go_ret;obtain⟨D,E,F⟩:=G.o;refine⟨by rw[D];rfl,?_,LW _⟩;rw[E,F];refine⟨⟨_,hblk.put 0 _,⟨_,_,by rw[EM,show l.length-c=0 by omega],g_,λC=>?_⟩⟩,K⟩;rw[EM] at C;omega
    .go_wp2;go_ret;obtain⟨D,E,F⟩:=G.o;refine⟨by rw[D];rfl,?_,LW _⟩;rw[E,F];refine⟨⟨_,hblk.put 0 _,⟨_,_,by rw[EM],xD,λC=>?_⟩⟩,K⟩;refine⟨J,o+j,rfl,L,λi N H=>?_⟩;rw[Wh] at H;rw[Nj];exact(Wi w _ _ _ VF).trans (S.o _ N H)
def AIW(base:Nat)(v:AB)(bs:AE)(x:Int)(size:Nat)(w:AA)(E:size<=8)(D:bs.length<=1000000)
 (hown:w.ownsRow base 5 1 v bs.length (A3 bs))(B:base<=w.heap.size):
 AI 278 #[v,x,size] w (OU base (bs++be size x) w):=by
 obtain⟨I,C,F,G,H⟩:=info_parts HH;go_in;go_wp2;go_loopw [0,2] (λv A wr=>∃(k:Nat) (l:AE),k<=size/\A=.int .i64 ((k:Int)-1)/\wr.ownsRow base 5 1 v l.length (A3 l)/\Below base w wr/\DK w wr/\l.length+k=bs.length+size/\Hid (l++be k x=bs++be size x))
  (λ_ A _=>(intOf A+1).toNat)
 case atStart=>exact⟨size,bs,Bh _,rfl,hown,AN _ _,DK.refl _,rfl,rfl⟩
 case round=>
  exact tf
def AHi(x:Int)(size:Nat)(w:AA)(G:size<=8):
 AI 39 #[x,size] w (OU w (be size x) w):=by
 obtain⟨L,C,I,J,K⟩:=info_parts HH;go_in;go_wp2;go_loopw [5,6] (λB A wr=>∃(k:Nat) (l:AE),k<=size/\A=.int .i64 ((k:Int)-1)/\wr.ownsRow w 5 1 B l.length (A3 l)/\Below w w wr/\DK w wr/\l.length+k=size/\Hid (l++be k x=be size x))
  (λ_ A _=>(intOf A+1).toNat)
 case atStart=>exact⟨size,[],Bh _,rfl,⟨rfl,.inl ⟨rfl,rfl⟩⟩,AN _ _,DK.refl _,AH,rfl⟩
 case round=>
  obtain⟨k,l,D,rfl,hown',Aa,Wu,F,heq⟩:=hrel;have H:=Aa.size;rcases k with _|k
  .go_wp2;go_ret;have e:l=be size x:=xK;exact⟨_,rfl,we,Aa,Wu⟩
  .have E:(0:Int)<=(((k+1:Nat):Int)-1):=U;go_wp2_with (at_builtin;refine Z' AZ _ _ AZ w _ l wr (x / 2 ^ (8*k)) AZ (by exact hown') AZ U U ?_;intro M N hown1 hb1 hg1)
   exact r7
def Ev(B:Nat)(v:AB)(l:AE)(w:AA)(h:Af B w v l)(A:l.length<=6):
 AI 69 #[v] w (BX (.int .i64 (AQ l)) w):=by
 exact se
structure In(B g:Nat)(l:AE)(w:AA):Prop where
 ex:∃v,AG w g 282 #[v]/\Af B w v l
 hB:B<=g
def AMF(B g k:Nat)(l:AE)(w:AA)(e:Ending)(A:AA):Prop:=
 e=.returned (.int .i64 (AQ (l.take k)))/\In B g (l.drop k) A/\w.grownBy A (some g)
def WI(B g k:Nat)(J:Int)(l:AE)(w:AA)(Q:J=k)(b:1<=k)(d:k<=6)(h:In B g l w)(f:k<=l.length)(A:l.length<=4611686018427387904):
 AI 181 #[.pointer g,J] w (AMF B g k l w):=by
 subst Q;obtain⟨⟨m,hblk,R⟩,G⟩:=h;obtain⟨L,c,rfl,V,N⟩:=R;have T:w.cell? ⟨g,0,none⟩=some (.slice L l.length c):=gW;have X:=hblk.frozen 0;have Y:(k:Int)<=(l.length:Int):=U;have E:=O N;go_in;go_wp2;go_loop [5,7,15] (λx _ D=>∃j:Nat,j<=k/\D=.int .i64 j/\x=.int .i64 (AQ (l.take j))) (λ_ _ D=>k-(intOf D).toNat)
 case atStart=>exact⟨0,Az _,rfl,rfl⟩
 case round=>
  obtain⟨j,Z,rfl,rfl⟩:=hrel;by_cases a:j<k
  .have hjl:j<l.length:=U;obtain⟨F,o,rfl,H,C⟩:=E.o U;have W:=C j l[j] (BL hjl);exact tt
  .have P:j=k:=U;subst P;obtain⟨F,o,rfl,H,C⟩:=E.o U;have K:=O C;by_cases M:c=j
   .subst M;go_wp2;go_ret;refine⟨rfl,⟨⟨_,hblk.put 0 _,⟨_,_,by rw[EM,show l.length-c=0 by omega],g_,λA=>?_⟩⟩,G⟩,LW _⟩;rw[EM] at A;omega
   .go_wp2;go_ret;refine⟨rfl,⟨⟨_,hblk.put 0 _,⟨_,_,by rw[EM],xD,λA=>?_⟩⟩,G⟩,LW _⟩;refine⟨F,o+j,rfl,H,λi S I=>?_⟩;rw[Wh] at I;rw[Nj];exact(Wi w _ _ _ VF).trans (K.o _ S I)
def H4(v:Nat):Nat:=if v%2=1 then (v / 2) ^^^ 3988292384 else v / 2
def Hd:Nat->Nat->Nat
 | 0,v=>v
 | n+1,v=>Hd n (H4 v)
def He(v:Nat):Nat:=Hd 8 v
def Ll(v:Nat)(c:UInt8):Nat:=He (v ^^^ c.toNat)
def JC(l:AE)(v:Nat):Nat:=l.foldl Ll v
def Da(l:AE):Nat:=4294967295-JC l 4294967295
def AI6{v:Nat}(h:v<4294967296):H4 v<4294967296:=by
 unfold H4;split
 .have:=Wf (n:=32) (x:=v / 2) (y:=3988292384) U U;exact E_
 .omega
def db(n:Nat):∀{v:Nat},v<4294967296->Hd n v<4294967296:=by
 induction n with
 | zero=>intro v A;exact A
 | succ n B=>intro v A;exact B (AI6 A)
def oS{v:Nat}(A:v<4294967296):He v<4294967296:=db 8 A
def iR{a b:Nat}(ha:a<4294967296)(A:b<4294967296):a ^^^ b<4294967296:=by
 have:=Wf (n:=32) (x:=a) (y:=b) U U;exact E_
def AI3{v:Nat}(h:v<4294967296)(c:UInt8):Ll v c<4294967296:=by
 have:=c.toNat_lt;exact oS (iR h U)
def oR(l:AE):∀{v:Nat},v<4294967296->JC l v<4294967296:=by
 induction l with
 | nil=>intro v A;exact A
 | cons c l B=>intro v A;exact B (AI3 A c)
def RT(l:AE):Da l<4294967296:=by unfold Da;omega
def AI5(a b:Nat):H4 (a ^^^ b)=H4 a ^^^ H4 b:=by
 unfold H4;have E:(a ^^^ b) / 2=a / 2 ^^^ b / 2:=Nat.xor_div_two;have F:(a ^^^ b)%2=(a+b)%2:=by
  have D:=Nat.xor_mod_two_pow (a:=a) (b:=b) (n:=1);rw[show(2:Nat) ^ 1=2 from rfl] at D;rw[D];rcases Ti a with ha|ha<;>rcases Ti b with B|B<;>rw[ha,B]<;>simp<;>omega
 rw[E,F];rcases Ti a with ha|ha<;>rcases Ti b with B|B
 .rw[AU U,AU U,AU U]
 .rw[Ab U,AU U,Ab U,O8]
 .rw[Ab U,Ab U,AU U,O8,O8,Nat.xor_comm (b / 2)]
 .rw[AU U,Ab U,Ab U];have:∀C A p:Nat,(C ^^^ p) ^^^ (A ^^^ p)=C ^^^ A:=by
   intro C A p;rw[O8,Nat.xor_comm A p,<-O8 p p A,Nat.xor_self,Nat.zero_xor]
  rw[this]
def AIz(n:Nat):∀a b:Nat,Hd n (a ^^^ b)=Hd n a ^^^ Hd n b:=by
 induction n with
 | zero=>intro a b;rfl
 | succ n A=>intro a b;simp only[Hd];rw[AI5,A]
def AI7(m:Nat):H4 (2*m)=m:=by
 unfold H4;rw[AU U];omega
def AI4(h:Nat):He (256*h)=h:=by
 have A:256*h=2*(2*(2*(2*(2*(2*(2*(2*h))))))):=U;rw[A];simp only[He,Hd,AI7]
def zc(v:Nat):v=(v%256) ^^^ (256*(v / 256)):=by
 apply Nat.eq_of_testBit_eq;intro A;rw[Nat.testBit_xor];have D:(v%256).testBit A=(decide (A<8)&&v.testBit A):=Nat.testBit_mod_two_pow v 8 A;have E:(256*(v / 256)).testBit A=(decide (8<=A)&&v.testBit A):=by
  have:=Nat.testBit_two_pow_mul (i:=8) (a:=v / 256) (j:=A);rw[show(2:Nat) ^ 8=256 from rfl] at this;rw[this];by_cases B:8<=A
  .have C:=Nat.testBit_div_two_pow (x:=v) (n:=8) (i:=A-8);rw[show(2:Nat) ^ 8=256 from rfl] at C;rw[C];congr 2
   omega
  .simp[B]
 rw[D,E];by_cases B:A<8
 .have:¬8<=A:=U;simp[B,this]
 .have:8<=A:=U;simp[B,this]
def AI1(v:Nat)(c:UInt8):Ll v c=(v / 256) ^^^ He ((v%256) ^^^ c.toNat):=by
 unfold Ll;have A:v ^^^ c.toNat=((v%256) ^^^ c.toNat) ^^^ (256*(v / 256)):=by
  rw[O8,Nat.xor_comm c.toNat,<-O8,<-zc v]
 rw[A];have B:=AIz 8 ((v%256) ^^^ c.toNat) (256*(v / 256));have C:He (((v%256) ^^^ c.toNat) ^^^ (256*(v / 256)))=He ((v%256) ^^^ c.toNat) ^^^ He (256*(v / 256)):=B;rw[C,AI4,Nat.xor_comm]
def oQ(n:Nat):∀v:Nat,Hd (n+1) v=H4 (Hd n v):=by
 induction n with
 | zero=>intro v;rfl
 | succ n A=>intro v;exact A (H4 v)
def Fv(k:Nat):Array AB:=((List.range 256).map λA=>Value.int .u32 ((if A<k then He A else 0:Nat):Int)).toArray
def NE(k:Nat):(Fv k).size=256:=by simp[Fv]
def aR:zeroCells279=Fv 0:=AF
def Sh(k i:Nat)(A:i<256):(Fv k)[i]? = some (.int .u32 ((if i<k then He i else 0:Nat):Int)):=by
 simp[Fv,A]
def zK(k:Nat)(h:k<256):(Fv k).setIfInBounds k (.int .u32 (He k:Int))=Fv (k+1):=by
 apply Array.ext_getElem?;intro A;rw[I'];by_cases C:A<256
 .rw[Sh k A C,Sh (k+1) A C,NE];by_cases B:k=A
  .subst B;simp[h]
  .rw[AU B];have:A<k+1↔A<k:=U;simp[this]
 .have D:(Fv k)[A]? = none:=Kl ga;have E:(Fv (k+1))[A]? = none:=Kl ga;rw[D,E];split
  .rw[AU ga]
  .rfl
def pU(x:Nat)(h:x<4294967296):bits .and .u32 (x:Int) 1=((x%2:Nat):Int):=by
 have:=u32_and_nat x 1 h U;rw[Nat.and_one_is_mod] at this;exact D2
def oT{x:Nat}(h:x<4294967296)(A:x%2=1):bits .xor .u32 ((x:Int) / 2) 3988292384=(H4 x:Int):=by
 have:=u32_xor_nat (x / 2) 3988292384 U U;unfold H4;rw[Ab A];exact D2
def oU{x:Nat}(A:x%2=0):(x:Int) / 2=(H4 x:Int):=by
 unfold H4;rw[AU U];omega
def jt{w:AA}{g:Nat}{t:TypeId}{cs:Array AB}(B:AG w g t cs)(A:Array AB):(w.setRow g A).heap[g]? = some (.cells A t (0,0)):=by
 unfold AG at B;simp[World.setRow,Array.getElem?_modify,B]
def ld(k:Nat):(Fv k).all (·.oneCell')=true:=by
 rw[Array.all_eq_true];intro C B;have A:=Sh k C (by rw[NE] at B;omega);rw[Cn B] at A;injection A with A;rw[A];rfl
def AG3:(prog.info? 279).map (·.size)=some 256:=AF
def zH(w:AA):AI 180 #[] w (Bz (.agg (Fv 256)) w):=by
 go_in;go_wp2;go_loopw [4] (λC wr=>∃A:Nat,A<=256/\C=.int .i64 A/\AG wr w 279 (Fv 0)/\AG wr (w.heap.size+1) 279 (Fv A)/\Below w w wr) (λC _=>256-(intOf C).toNat)
 case atStart=>
  refine⟨0,U,rfl,?_,?_,((AN _ _).alloc AK _).alloc AH _⟩
  .rw[<-aR];exact(AG.new _ _ _).alloc _
  .rw[<-aR];exact AG.newAt _ _ _ _ AH
 case round=>
  obtain⟨A,T,rfl,E,D,I⟩:=hrel;by_cases J:A<256
  .have V:(A:Int)<256:=U;have P:wr.cell? ⟨w.heap.size+1,A,none⟩=some (.int .u32 0):=by rw[D.cell,Sh A A J];simp
   have Q:=D.frozen A;go_wp2;go_loop [3,9] (λv C=>∃B:Nat,B<=8/\C=.int .i64 B/\v=.int .u32 (Hd B A:Int)) (λ_ C=>8-(intOf C).toNat)
   case atStart=>exact⟨0,U,rfl,rfl⟩
   case round=>
    obtain⟨B,R,rfl,rfl⟩:=hrel;have L:=db B (v:=A) U;by_cases S:B<8
    .have G:=O (oQ B A);generalize Hd B A=F at *;have ha:=pU F L;by_cases K:F%2=1
     .rw[K] at ha;go_wp2;go_round
      case rel=>exact⟨B+1,U,A7,by rw[G.o,oT L K]⟩
      case measure=>exact A5
     .have H:F%2=0:=U;rw[H] at ha;go_wp2;go_round
      case rel=>exact⟨B+1,U,A7,by rw[G.o,oU H]⟩
      case measure=>exact A5
    .obtain rfl:B=8:=U;have M:=O (zK A J);have N:Hd 8 A=He A:=rfl;rw[N];go_wp2;go_roundw
     case rel=>refine⟨A+1,U,A7,E.far AH _,?_,I.setCell AH _⟩;rw[<-M.o];exact D.put _ _
     case measure=>exact A5
  .obtain rfl:A=256:=U;go_wp2_with (first
    | (refine wpList_load_row AZ 279 (.tmp 1) AZ (w.heap.size+1) AZ _ _ _ _ D underlying279 rfl Zw ?_)
    | (refine wpList_store_row AZ 279 (.tmp 0) (.tmp 24) AZ w (Fv 256) AZ AZ _ _ E Zw (by rw[NE,NE]) (ld 256) ?_))
   refine BE (v:=.agg (Fv 256)) (results_cell_row results180 _ _ w 279 _ (0,0) _ rfl (jt E _) underlying279 rfl Zw) rfl ⟨rfl,below_setRow I AK _⟩
def lz{x:Nat}(h:x<4294967296):bits .xor .u32 IntKind.u32.max (x:Int)=((4294967295-x:Nat):Int):=by
 have A:=u32_xor_nat 4294967295 x U h;have C:4294967295 ^^^ x=4294967295-x:=by
  have B:=BitVec.toNat_not (x:=BitVec.ofNat 32 x);rw[BitVec.not_def,BitVec.toNat_xor,BitVec.toNat_allOnes,BitVec.toNat_ofNat,Nat.mod_eq_of_lt U] at B;simpa using B
 rw[C] at A;exact A
def AI0(l:AE)(c:UInt8)(v:Nat):JC (l++[c]) v=Ll (JC l v) c:=by simp[JC]
def AI2{x i:Nat}{c:UInt8}(D:x<4294967296)(A:i=(x%256) ^^^ c.toNat):bits .xor .u32 ((x:Int) / 256) (He i:Int)=(Ll x c:Int):=by
 have C:=c.toNat_lt;have B:i<256:=by
  rw[A];have:=Wf (n:=8) (x:=x%256) (y:=c.toNat) U U;exact E_
 have:=u32_xor_nat (x / 256) (He i) U (oS U);rw[AI1,<-A];exact D2
def XW(B:Nat)(v:AB)(l:AE)(w:AA)(h:Af B w v l)(T:B<=w.heap.size)(i:l.length<=4611686018427387904):AI 112 #[v] w (Bz (.int .u32 (Da l:Int)) w):=by
 obtain⟨X,c,rfl,Y,E⟩:=h;have R:=O E;clear E;go_in;go_wp2_with (first
  | (go_at_call 180;refine(zH _).mono ?_;rintro e C ⟨rfl,F⟩)
  | (refine wpList_store_row AZ 279 (.tmp 3) (.tmp 7) AZ C (Fv 256) AZ AZ _ _ (AG.new _ _ _) Zw (by rw[aR,NE,NE]) (ld 256) ?_))
 have W:AG ((C.alloc (.cells zeroCells279 279)).setRow C (Fv 256)) C 279 (Fv 256):=jt (AG.new _ _ _) _;have L:Below w w ((C.alloc (.cells zeroCells279 279)).setRow C (Fv 256)):=below_setRow (F.alloc F.size _) F.size _;clear F;generalize (C.alloc (.cells zeroCells279 279)).setRow C (Fv 256)=J at *;generalize C.heap.size=S at *;go_loop [4,6,10] (λv _ I=>∃A:Nat,A<=l.length/\I=.int .i64 A/\v=.int .u32 (JC (l.take A) 4294967295:Int)) (λ_ _ I=>l.length-(intOf I).toNat)
 case atStart=>exact⟨0,U,rfl,rfl⟩
 case round=>
  obtain⟨A,f,rfl,rfl⟩:=hrel;have E:=oR (l.take A) (v:=4294967295) AD;by_cases hjl:A<l.length
  .have g:(A:Int)<(l.length:Int):=U;obtain⟨K,o,rfl,V,M⟩:=R.o U;have a:J.cell? ⟨K,o+A,none⟩=some (.int .u8 (l[A].toNat:Int)):=(L.cell (p:=⟨K,o+A,none⟩) (Co V T)).trans (M A l[A] (BL hjl));clear M;have Q:Hid (JC (l.take (A+1)) 4294967295=Ll (JC (l.take A) 4294967295) l[A]):=by
    exact p_
   have Z:=l[A].toNat_lt;generalize JC (l.take A) 4294967295=H at *;obtain⟨D,G⟩:∃D,D=(H%256) ^^^ l[A].toNat:=⟨_,rfl⟩;have b:bits .xor .u8 ((H:Int)%256) (l[A].toNat:Int)=(D:Int):=by
    rw[G];exact u8_xor_nat (H%256) l[A].toNat U U
   have N:D<256:=by
    rw[G];have:=Wf (n:=8) (x:=H%256) (y:=l[A].toNat) U U;exact E_
   have d:(D:Int)<256:=U;have j:J.cell? ⟨S,D,none⟩=some (.int .u32 (He D:Int)):=by rw[W.cell,Sh 256 D N,Ab N]
   have P:=O (AI2 E G);clear G;go_wp2;go_round
   case rel=>exact⟨A+1,U,A7,by rw[P.o,Q.o]⟩
   case measure=>exact A5
  .obtain rfl:A=l.length:=U;rw[F6] at E;go_wp2;go_ret;exact⟨GZ (by rw[lz E];rfl),L⟩
def cn(B:Nat)(v:AB)(l:AE)(w:AA)(h:Af B w v l)(d:l.length<=4611686018427387904):AI 40 #[v] w (BX (.int .u32 (Da l:Int)) w):=by
 obtain⟨S,c,rfl,V,D⟩:=h;have N:=O D;clear D;go_in;go_wp2;go_loop [3,4,5,6] (λv G _ _=>∃A:Nat,A<=l.length/\G=.int .i64 A/\v=.int .u32 (JC (l.take A) 4294967295:Int)) (λ_ G _ _=>l.length-(intOf G).toNat)
 case atStart=>exact⟨0,U,rfl,rfl⟩
 case round=>
  obtain⟨A,a,rfl,rfl⟩:=hrel;have D:=oR (l.take A) (v:=4294967295) AD;by_cases hjl:A<l.length
  .have b:(A:Int)<(l.length:Int):=U;obtain⟨Q,o,rfl,T,K⟩:=N.o U;have X:w.cell? ⟨Q,o+A,none⟩=some (.int .u8 (l[A].toNat:Int)):=K A l[A] (BL hjl);clear K;have M:Hid (JC (l.take (A+1)) 4294967295=Ll (JC (l.take A) 4294967295) l[A]):=by
    exact p_
   have W:=l[A].toNat_lt;generalize JC (l.take A) 4294967295=E at *;obtain⟨F,H⟩:∃F,F=E ^^^ l[A].toNat:=⟨_,rfl⟩;have f:bits .xor .u32 (E:Int) (l[A].toNat:Int)=(F:Int):=by
    rw[H];exact u32_xor_nat E l[A].toNat D U
   have R:F<4294967296:=by rw[H];exact iR D U
   have P:Hid (Ll E l[A]=Hd 8 F):=by unfold Hid Ll He;rw[H]
   clear H;go_wp2;go_loop [3,5,6] (λv G _=>∃C:Nat,C<=8/\G=.int .i64 C/\v=.int .u32 (Hd C F:Int)) (λ_ G _=>8-(intOf G).toNat)
   case atStart=>exact⟨0,U,rfl,rfl⟩
   case round=>
    obtain⟨C,Y,rfl,rfl⟩:=hrel;have D:=db C R;by_cases Z:C<8
    .have I:=O (oQ C F);generalize Hd C F=E at *;have ha:=pU E D;by_cases L:E%2=1
     .rw[L] at ha;go_wp2;go_round
      case rel=>exact⟨C+1,U,A7,by rw[I.o,oT D L]⟩
      case measure=>exact A5
     .have J:E%2=0:=U;rw[J] at ha;go_wp2;go_round
      case rel=>exact⟨C+1,U,A7,by rw[I.o,oU J]⟩
      case measure=>exact A5
    .obtain rfl:C=8:=U;go_wp2;go_round
     case rel=>exact⟨A+1,U,A7,by rw[M.o,P.o]⟩
     case measure=>exact A5
  .obtain rfl:A=l.length:=U;rw[F6] at D;go_wp2;go_ret;exact⟨GZ (by rw[lz D];rfl),rfl⟩
section
variable{w':AA}{t:TypeId}{l va D5:List AB}{S:List Nat}{y:AY}
def H2(op n d A:Int)(s:AE)(v:AB):List AB:=[.int .i64 op,.int .i64 n,.int .i64 d,.int .i64 A,AR s,v]
def Cells(w:AA)(t:TypeId)(g o:Nat)(l:List AB):Prop:=∃B,AG w g t B/\∀A,A<l.length->B[o+A]? = l[A]?
def Cells.below{w:AA}{g o:Nat}(C:Cells w t g o l)(E:Below w w w'):Cells w' t g o l:=by
 obtain⟨B,A,D⟩:=C;exact⟨B,A.below E A.lt,D⟩
def Cells.kept{w:AA}{g o:Nat}(B:Cells w t g o l)(E:AP S w w')(D:∀g cs,AG w g t cs->g∉S):Cells w' t g o l:=by
 obtain⟨cs,A,C⟩:=B;exact⟨cs,A.kept E (D g cs A),C⟩
def Cells.cell{w:AA}{g o:Nat}(A:Cells w t g o l)(i:Nat)(D:i<l.length):w.cell? ⟨g,o+i,none⟩=l[i]?:=by
 obtain⟨E,B,C⟩:=A;rw[B.cell,C i D]
def Cells.lt{w:AA}{g o:Nat}(A:Cells w t g o l):g<w.heap.size:=by
 obtain⟨C,B,D⟩:=A;exact B.lt
def AY.kids:AY->List AY
 | .un _ a=>[a]
 | .bin _ a b=>[a,b]
 | .ite c a b=>[c,a,b]
 | _=>[]
def AY.op:AY->Int
 | .zero=>0
 | .lit _ _=>1
 | .name _=>2
 | .EY _=>3
 | .un op _=>op
 | .bin op _ _=>op
 | .ite _ _ _=>21
def AY.head(e:AY)(v:AB):List AB:=
 match e with
 | .lit x A=>H2 1 x.n x.d A [] v
 | .name s=>H2 2 0 0 0 s v
 | .EY n=>H2 3 n 1 0 [] v
 | e=>H2 e.op 0 0 0 [] v
def AY.RK(e:AY)(v:AB):∃n d A s,e.head v=H2 e.op n d A s v:=by
 cases e<;>exact⟨_,_,_,_,rfl⟩
def AY.MV{P:AY->Prop}(h:∀e,(∀k∈e.kids,P k)->P e):∀e,P e:=by
 intro e;induction e with
 | zero=>exact h _ Uu
 | lit I E=>exact h _ Uu
 | name H=>exact h _ Uu
 | EY G=>exact h _ Uu
 | un D A ha=>exact h _ (λk hk=>by simp only[AY.kids,Aj,A',A_] at hk;subst hk;exact ha)
 | bin D A B ha C=>exact h _ (λk hk=>by simp only[AY.kids,Aj,A',A_] at hk;rcases hk with rfl|rfl<;>assumption)
 | ite c A B F ha C=>exact h _ (λk hk=>by simp only[AY.kids,Aj,A',A_] at hk;rcases hk with rfl|rfl|rfl<;>assumption)
inductive Ai(P:Nat->Prop)(w:AA):AY->List AB->Prop
 | mk (e:AY) (a:BH) (c g o:Nat) (vs:Nat->List AB) (h1:e.kids.length<=c) (h2:0<e.kids.length->a=some ⟨g,o,none⟩/\P g)
  (h3:∀i k,e.kids[i]? = some k->Cells w 213 g (o+i*6) (vs i)) (h4:∀i k,e.kids[i]? = some k->Ai P w k (vs i)):Ai P w e (e.head (.slice a e.kids.length c))
def cE{l:List AY}{i:Nat}{k:AY}(A:l[i]? = some k):0<l.length:=by
 have:=(Cd.1 A).1;omega
def Ai.stay{P:Nat->Prop}{w:AA}{e:AY}{A:List AB}(G:Ai P w e A)(K:Below w w w'):Ai P w' e A:=by
 induction G with
 | mk e E c F o A H I J M L=>exact .mk e E c F o A H I (λC D B=>(J C D B).below K) (λC D B=>L C D B)
def Ai.kept{P:Nat->Prop}{w:AA}{e:AY}{A:List AB}(I:Ai P w e A)(B:AP S w w')(L:∀g cs,P g->AG w g 213 cs->g∉S):Ai P w' e A:=by
 induction I with
 | mk e H c g o A J E K O M=>
  refine .mk e H c g o A J E (λC D F=>?_) (λC D B=>M C D B);obtain⟨cs,G,N⟩:=K C D F;exact⟨cs,G.kept B (L g cs (E (cE F)).2 G),N⟩
def Ai.set{P:Nat->Prop}{w:AA}{e:AY}{A:List AB}(H:Ai P w e A){p:Addr}(u:AB)(L:∀g,P g->g≠p.block):Ai P (w.setCell p u) e A:=by
 induction H with
 | mk e F c g o A I D J Q M=>
  refine .mk e F c g o A I D (λB C E=>?_) (λB C K=>M B C K);obtain⟨G,N,O⟩:=J B C E;exact⟨G,N.far (L g (D (cE E)).2) u,O⟩
def Ai.mono{P Q:Nat->Prop}{w:AA}{e:AY}{B:List AB}(A:Ai P w e B)(G:∀g,P g->Q g):Ai Q w e B:=by
 induction A with
 | mk e D c g o B E C F L J=>exact .mk e D c g o B E (λA=>⟨(C A).1,G g (C A).2⟩) F (λI K H=>J I K H)
def Ai.old{P:Nat->Prop}{w:AA}{e:AY}{A:List AB}(h:Ai P w e A):Ai (λg=>P g/\g<w.heap.size) w e A:=by
 induction h with
 | mk e F c g o A G D E I H=>
  refine .mk e F c g o A G (λh=>⟨(D h).1,(D h).2,?_⟩) E (λi C B=>H i C B);obtain⟨C,B⟩:=BQ e.kids 0 h;exact(E 0 C B).lt
def Ai.inv{P:Nat->Prop}{w:AA}{e:AY}{A:List AB}(B:Ai P w e A):∃(a:BH) (c g o:Nat) (us:Nat->List AB),A=e.head (.slice a e.kids.length c)/\e.kids.length<=c/\(0<e.kids.length->a=some ⟨g,o,none⟩/\P g)
 /\(∀i k,e.kids[i]? = some k->Cells w 213 g (o+i*6) (us i))/\(∀i k,e.kids[i]? = some k->Ai P w k (us i)):=by
 cases B with
 | mk e a c g o us C D E F=>exact⟨a,c,g,o,us,rfl,C,D,E,F⟩
def Ai.six{P:Nat->Prop}{w:AA}{e:AY}{B:List AB}(D:Ai P w e B):∃n d A s v,B=H2 e.op n d A s v:=by
 obtain⟨C,c,E,o,F,rfl,_⟩:=D.inv;obtain⟨n,d,A,s,e⟩:=e.RK (.slice C e.kids.length c);exact⟨n,d,A,s,_,e⟩
def Ai.un{P:Nat->Prop}{w:AA}{op:Int}{x:AY}{g o c:Nat}(h:Ai P w x va)(hg:P g)(D:Cells w 213 g o va)(C:1<=c):Ai P w (.un op x) (H2 op 0 0 0 [] (.slice (some ⟨g,o,none⟩) 1 c)):=
 .mk (.un op x) (some ⟨g,o,none⟩) c g o (λ_=>va) C gG
  (λB E A=>by match B,A with|0,_=>simpa using D)
  (λB E A=>by match B,A with|0,A=>cases A;exact h)
def Ai.bin{P:Nat->Prop}{w:AA}{op:Int}{x:AY}{g o c:Nat}(E:Ai P w x va)(F:Ai P w y D5)(hg:P g)(ha:Cells w 213 g o va)(D:Cells w 213 g (o+6) D5)(C:2<=c):Ai P w (.bin op x y) (H2 op 0 0 0 [] (.slice (some ⟨g,o,none⟩) 2 c)):=
 .mk (.bin op x y) (some ⟨g,o,none⟩) c g o (λB=>if B=0 then va else D5) C gG
  (λB G A=>by match B,A with|0,_=>simpa using ha|1,_=>simpa using D)
  (λB G A=>by match B,A with|0,A=>cases A;exact E|1,A=>cases A;exact F)
def Ai.ite{P:Nat->Prop}{w:AA}{x z:AY}{g o c:Nat}{C:List AB}(G:Ai P w x va)(H:Ai P w y D5)(I:Ai P w z C)(hg:P g)(ha:Cells w 213 g o va)(E:Cells w 213 g (o+6) D5)(F:Cells w 213 g (o+12) C)(D:3<=c):Ai P w (.ite x y z) (H2 21 0 0 0 [] (.slice (some ⟨g,o,none⟩) 3 c)):=
 .mk (.ite x y z) (some ⟨g,o,none⟩) c g o (λB=>if B=0 then va else if B=1 then D5 else C) D gG
  (λB J A=>by match B,A with|0,_=>simpa using ha|1,_=>simpa using E|2,_=>simpa using F)
  (λB J A=>by match B,A with|0,A=>cases A;exact G|1,A=>cases A;exact H|2,A=>cases A;exact I)
def Ai.leaf{P:Nat->Prop}{w:AA}{e:AY}(A:e.kids=[]):Ai P w e (e.head AL):=by
 have:=Ai.mk (P:=P) (w:=w) e none 0 0 0 (λ_=>[]) (by rw[A];exact Bh _) (λC=>by rw[A] at C;cases C) (λD E B=>by rw[A] at B;cases B) (λD E B=>by rw[A] at B;cases B);rwa [A] at this
def Ai.len{P:Nat->Prop}{w:AA}{e:AY}{A:List AB}(B:Ai P w e A):A.length=6:=by
 obtain⟨E,C,D,F,G,rfl⟩:=B.six;rfl
end
section
variable{s:AE}{f:Nat}
def GA(r:Rd):r.AX.l.length<=r.l.length:=by simp[Rd.AX]
def Vj(r:Rd):r.stop.l.length<=r.l.length:=Bh _
def JV(r:Rd)(s:AE):(r.want s).l.length<=r.l.length:=by
 unfold Rd.want;split
 .exact GA r
 .exact N0
def l9(r:Rd):r.name.2.l.length<=r.l.length:=by
 unfold Rd.name;split
 .exact N0
 .exact eg
def yA(r:Rd)(B A:Int):(r.whole B A).2.l.length<=r.l.length:=by
 unfold Rd.whole;split
 .exact N0
 .exact eg
def of_le(r:Rd)(n:Nat):(r.of n).2.l.length<=r.l.length:=by
 unfold Rd.of;split
 .exact N0
 .split
  .exact eg
  .exact N0
def ADK:∀(f:Nat) (m:Yy) (r:Rd),(pp f m r).2.l.length<=r.l.length:=by
 intro f;induction f with
 | zero=>intro m r;exact Vj r
 | succ f ih=>
  intro m r;cases m with
  | ex A=>
   rw[pp];split
   .exact Bh _
   .split
    .split
     .exact Ap (ih _ _) (Ap (JV _ _) (Ap (ih _ _) (Ap (JV _ _) fy)))
     .exact ih _ _
    .split
     .split
      .exact eJ
      .exact ih _ _
     .split
      .exact ih _ _
      .exact Ap (ih _ _) (ih _ _)
  | lp A B=>
   rw[pp];split
   .exact Bh _
   .split
    .exact Bh _
    .simp only;split
     .exact eJ
     .exact Ap (ih _ _) fy
  | call C=>
   rw[pp];simp only;split
   .exact Ap (JV _ _) (Ap (ih _ _) fx)
   .exact Ap (JV _ _) (Ap (ih _ _) (Ap (JV _ _) (Ap (ih _ _) fx)))
  | Kg=>
   rw[pp];split
   .exact GA r
   .split
    .exact eJ
    .split
     .exact Ap (JV _ _) fy
     .split
      .exact Ap (JV _ _) (Ap fw fx)
      .split
       .exact ih _ _
       .split
        .exact ih _ _
        .split
         .exact ih _ _
         .exact l9 r
def XH(r:Rd):(Ek r).2.l.length<=r.l.length:=ADK _ _ _
def mf{r:Rd}(A:r.Am s=true):0<r.l.length:=by
 cases B:r.l with
 | nil=>simp[Rd.Am,B] at A
 | cons C D=>simp
def yD{r:Rd}(A:(r.want s).bad=false):(r.want s).l.length<r.l.length:=by
 obtain⟨B,_,C⟩:=Rd.EC A;have:=mf B;rw[C,Rd.AX];simp only[List.length_tail];omega
structure AM5(v v':Ah):Prop where
 Ae:v'.Ae.length<=v.Ae.length+1
 Ad:v'.Ad.length<=v.Ad.length+1
 lets:v'.lets.length<=v.lets.length+1
 Ac:v'.Ac.length<=v.Ac.length+1
 red:v'.red.length<=v.red.length+1
def AJm(v:Ah)(r:Rd):AM5 v (Cy v r).1:=by
 unfold Cy;constructor<;>simp only<;>repeat' split
 all_goals (first|(simp only[Cp,CB,EE];omega)|omega)
def oc{v:Ah}{r:Rd}(h:(Cy v r).2.bad=false):(Cy v r).2.l.length<r.l.length:=by
 unfold Cy at h ⊢;simp only at h ⊢;refine Co (yD h) ?_;split
 .split
  .exact Ap fw (Ap (GA _) fu)
  .exact Ap (of_le _ _) (GA r)
 .split
  .split
   .split
    .exact Ap (GA _) fS
    .exact Ap (Vj _) fS
   .exact Ap (Vj _) fS
  .split
   .exact Ap (XH _) (Ap (JV _ _) (Ap (l9 _) (GA r)))
   .split
    .exact Ap (XH _) (Ap (JV _ _) (Ap (XH _) (Ap (JV _ _) fu)))
    .split
     .exact Ap (XH _) (Ap (JV _ _) fu)
     .exact N0
def AJa(f:Nat)(v:Ah)(r:Rd)(A:r.bad=true):(Ib f v r).2.bad=true:=by
 cases f with
 | zero=>exact A
 | succ f=>rw[Ib,Ab A];exact A
def df{v:Ah}{r:Rd}(A:(Ib f v r).2.bad=false):r.bad=false:=by
 cases B:r.bad with
 | false=>rfl
 | true=>rw[AJa f v r B] at A;cases A
def yQ(f:Nat)(v:List Ah)(r:Rd)(A:r.bad=true):(FF f v r).2.bad=true:=by
 cases f with
 | zero=>exact A
 | succ f=>rw[FF,Ab A];exact A
def i'{v:List Ah}{r:Rd}(A:(FF f v r).2.bad=false):r.bad=false:=by
 cases B:r.bad with
 | false=>rfl
 | true=>rw[yQ f v r B] at A;cases A
def AJZ(f:Nat):∀(v:Ah) (r:Rd),(Ib f v r).2.bad=false->(Ib f v r).2.l.length<=r.l.length:=by
 induction f with
 | zero=>intro v r _;exact Bh _
 | succ f D=>
  intro v r A;rw[Ib] at A ⊢;split
  .exact Bh _
  .rename_i C;rw[AU C] at A;split
   .exact GA r
   .rename_i B;rw[AU B] at A;exact Ap (D _ _ A) (I3 (oc (df A)))
def jB{r:Rd}(K:(CY r).2.bad=false):r.Am [102,114,111,109]=true/\∃G q,r.AX.l=.d G::q/\r.AX.AX.Am [123]=true/\r.AX.AX.AX.Am [114,111,117,110,100]=true
 /\(r.AX.AX.AX.AX.of 3).2.bad=false/\(r.AX.AX.AX.AX.AX.whole 1 100000).2.bad=false/\r.AX.AX.AX.AX.AX.AX.Am [59]=true
 /\CY r=Ib 9000 { fr:=(G:Int),mode:=(r.AX.AX.AX.AX.of 3).1,unit:=(r.AX.AX.AX.AX.AX.whole 1 100000).1 } r.AX.AX.AX.AX.AX.AX.AX:=by
 unfold CY at K ⊢;simp only at K ⊢;have V:=df K;obtain⟨A,O,B⟩:=Rd.EC V;obtain⟨P,h,_,Y,Z,a,b,C⟩:=Rd.QG O;obtain⟨R,g,_,e,c,d,D⟩:=Rd.Qj P;obtain⟨E,T,F⟩:=Rd.EC R;obtain⟨H,L,I⟩:=Rd.EC T;split at L
 .rename_i G q W N;obtain⟨U,J,M⟩:=Rd.EC W;rw[M] at N;rw[M] at A B C D E F H I ⊢;have X:r.AX.bad=false:=J;simp only[X,N] at A B C D E F H I ⊢;simp only[I] at A B C D E F ⊢;simp only[F] at A B C D ⊢;have S:(r.AX.AX.AX.AX.of 3).2=r.AX.AX.AX.AX.AX:=by rw[D]
  simp only[S] at A B C ⊢;have Q:(r.AX.AX.AX.AX.AX.whole 1 100000).2=r.AX.AX.AX.AX.AX.AX:=by rw[C]
  rw[Q] at A B ⊢;rw[B];exact⟨U,G,q,rfl,H,E,J,J,A,rfl⟩
 .cases L
def jC{r:Rd}(A:(CY r).2.bad=false):(CY r).2.l.length<r.l.length:=by
 obtain⟨B,D,J,I,_,_,_,_,_,C⟩:=jB A;rw[C] at A ⊢;have E:=AJZ _ _ _ A;have F:r.AX.AX.AX.AX.AX.AX.AX.l.length<=r.AX.l.length:=
  Ap (GA _) (Ap (GA _) (Ap (GA _) (Ap (GA _) (Ap (GA _) (GA _)))))
 have G:=mf B;have H:r.AX.l.length<r.l.length:=by
  simp only[Rd.AX,List.length_tail];omega
 omega
def ABr{t:List Tok}{x:CL}(h:NM t=some x):∃r,r=Rd.mk t false/\r.Am Re=true/\r.AX.name.2.bad=false/\r.AX.AX.Am Rc=true
 /\(r.AX.AX.AX.whole 1 999).2.bad=false/\r.AX.AX.AX.AX.Am [123]=true/\(CY r.AX.AX.AX.AX.AX).2.bad=false
 /\(FF 9000 [(CY r.AX.AX.AX.AX.AX).1] (CY r.AX.AX.AX.AX.AX).2).2.bad=false/\(FF 9000 [(CY r.AX.AX.AX.AX.AX).1] (CY r.AX.AX.AX.AX.AX).2).2.l=[]
 /\x=⟨r.AX.name.1,(r.AX.AX.AX.whole 1 999).1,(FF 9000 [(CY r.AX.AX.AX.AX.AX).1] (CY r.AX.AX.AX.AX.AX).2).1⟩:=by
 refine⟨_,rfl,?_⟩;generalize Z:Rd.mk t false=r;have X:NM t=(let P:=r.want Re
  let c:=P.name.2.want Rc
  let Q:=c.whole 1 999
  let G:=Q.2.want [123]
  let J:List Ah × Rd:=if G.bad then ([],G) else FF 9000 [(CY G).1] (CY G).2
  if J.2.bad || !J.2.l.isEmpty then none else some ⟨P.name.1,Q.1,J.1⟩):=by rw[<-Z];rfl
 rw[X] at h;simp only at h;by_cases hb:((((r.want Re).name.2.want Rc).whole 1 999).2.want [123]).bad=true
 .rw[Ab hb] at h;simp[hb] at h
 rw[AU hb] at h;have Y:((((r.want Re).name.2.want Rc).whole 1 999).2.want [123]).bad=false:=SJ;split at h
 .cases h
 .rename_i O;have B:=Ld h;simp only[Ki,Ni,not_or,PA,Bool.not_eq_false,List.isEmpty_iff] at O;obtain⟨A,C⟩:=O;obtain⟨D,R,E⟩:=Rd.EC Y;obtain⟨S,j,_,a,b,d,e,F⟩:=Rd.QG R;obtain⟨H,T,I⟩:=Rd.EC S;obtain⟨U,s,_,g,i,L⟩:=Rd.WK T;obtain⟨V,N,W⟩:=Rd.EC U;rw[W] at D E F H I L A C B;have M:r.AX.name.2=r.AX.AX:=by rw[L]
  rw[M] at D E F H I A C B;rw[I] at D E F A C B;have K:(r.AX.AX.AX.whole 1 999).2=r.AX.AX.AX.AX:=by rw[F]
  rw[K] at D E A C B;rw[E] at A C B;exact⟨V,by rw[M];exact N,H,by rw[K];exact N,D,i' A,A,C,B.symm⟩
end
section
open Go.RowKit Go.ChangeMaps Go.MapKept Go.WideShapes
open Go.Maps (Keyed IsMap Tidy)
def Oy:laidOutB prog=true:=AF
def cC:WideMaps.KeyLaw prog 234:=deep_law_laid (P:=prog) Oy (m:=prog.types.size+1) K3 K3 AF AF
def TX:WideMaps.KeyLaw prog 225:=deep_law_laid (P:=prog) Oy (m:=prog.types.size+1) K3 K3 AF AF
def Ec(x:Int):Prop:=-9223372036854775808<=x/\x<=9223372036854775807
def TW(k:Nat)(x:Int)(h:Ec x):prog.keyLits (k+1) 3 [.int .i64 x]=some [.int .i64 x]:=by
 have hw:(Lit.int .i64 x).wf=true:=xV;simp[Program.keyLits,underlying3,hw]
def di:prog.cellsOf 3=1:=AF
def Jl(a b:Int):AB:=.agg #[a,b]
def Kc(a b c:Int):AB:=.agg #[a,b,c]
def XY:prog.cellsOf 225=2:=AF
def ow:prog.cellsOf 234=3:=AF
def AGc:prog.keyType 225=true:=AF
def AGb:prog.keyType 234=true:=AF
def O2(a b:Int)(B:Ec a)(C:Ec b):keyOf prog 225 (Jl a b)=some (.string (keyBytes [.int .i64 a,.int .i64 b])):=by
 have D:(Jl a b).formed prog 225=true:=by simp[Jl,Value.formed,underlying225,XY]
 have E:prog.keyLits (prog.types.size+1) 225 (Jl a b).cells.toList=some [.int .i64 a,.int .i64 b]:=by
  obtain⟨A,F⟩:∃A,prog.types.size=A+1:=⟨prog.types.size-1,AF⟩;rw[F];unfold Program.keyLits;simp only[Jl,Value.cells];rw[underlying225];simp[di,XY,TW _ a B,TW _ b C]
 simp only[keyOf,underlying225,AGc,D,E,Qw,CI,Td]
def mZ(a b c:Int)(B:Ec a)(C:Ec b)(D:Ec c):keyOf prog 234 (Kc a b c)=some (.string (keyBytes [.int .i64 a,.int .i64 b,.int .i64 c])):=by
 have E:(Kc a b c).formed prog 234=true:=by simp[Kc,Value.formed,underlying234,ow]
 have F:prog.keyLits (prog.types.size+1) 234 (Kc a b c).cells.toList=some [.int .i64 a,.int .i64 b,.int .i64 c]:=by
  obtain⟨A,G⟩:∃A,prog.types.size=A+1:=⟨prog.types.size-1,AF⟩;rw[G];unfold Program.keyLits;simp only[Kc,Value.cells];rw[underlying234];simp[di,ow,TW _ a B,TW _ b C,TW _ c D]
 simp only[keyOf,underlying234,AGb,E,F,Qw,CI,Td]
end
