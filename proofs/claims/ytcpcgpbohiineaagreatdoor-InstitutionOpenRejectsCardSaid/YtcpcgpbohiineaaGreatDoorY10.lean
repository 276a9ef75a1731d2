/- Lemmas for Y28. -/
import Derived.Test.YtcpcgpbohiineaaGreatDoorY06
import Derived.Test.YtcpcgpbohiineaaGreatDoorY07
namespace Go.Proofs.YtcpcgpbohiineaaGreatDoor
open Go.RowKit Go.Proofs.Tryz
set_option linter.all false
set_option maxRecDepth 100000
set_option maxHeartbeats 4000000
def Gc{w:AA}{A B n:Nat}{t:TypeId}{v:AB}{C:List AB}(F:w.ownsRow A t 1 v n C)(H:B<=A):w.ownsRow B t 1 v n C:=by
 obtain⟨K,L⟩:=F;refine⟨K,?_⟩;rcases L with G|⟨E,D,cur,J,I,rest⟩
 .exact .inl G
 .exact .inr ⟨E,D,cur,J,Ap H I,rest⟩
structure Lz(w:AA)(B:Nat)(T:TypeId)(cs:Array AB)(v:AB)(l:AE)(wr:AA):Prop where
 own:wr.ownsRow B 5 1 v l.length (A3 l)
 box:AG wr w T cs
 AJ:Below w w wr
 lo:w.heap.size<B
 hi:B<=wr.heap.size
def AMI(w:AA)(B:Nat)(T:TypeId)(cs:Array AB)(l:AE)(e:Ending)(C:AA):Prop:=∃A,e=.returned A/\Lz w B T cs A l C
def Lz.step{w wr:AA}{B:Nat}{T:TypeId}{cs:Array AB}{v:AB}{l:AE}(h:Lz w B T cs v l wr)(x:Int)(k:Nat)(A:Int)(D:A=k)(C:k<=8)(E:l.length<=1000):
 AI 278 #[v,x,A] wr (AMI w B T cs (l++be k x)):=by
 subst D;go_call AIW B v l x k wr C U h.own h.hi as e w' ⟨v',rfl,hown,hb,_⟩;exact⟨v',rfl,hown,h.box.below hb h.lo,h.AJ.trans (hb.mono (I3 h.lo)),h.lo,Ap h.hi hb.size⟩
def Lz.start{w B:AA}{T:TypeId}{cs:Array AB}(A:Below (w.alloc (.cells cs T)).heap.size (w.alloc (.cells cs T)) B):Lz w B T cs AL [] B:=by
 have C:=A.size;simp at C;exact⟨⟨rfl,.inl ⟨rfl,rfl⟩⟩,(AG.new _ _ _).below A AH,AW C8 A,U,Bh _⟩
def Un(l:AE)(b:Bool)(w:AA)(e:Ending)(B:AA):Prop:=∃A,e=.returned (.tuple #[A,b])/\B.ownsRow w 5 1 A l.length (A3 l)/\Below w w B
def og(A B C D E F:Int):AE:=(((((([]++be 1 A)++be 2 B)++be 1 C)++be 1 D)++be 1 E)++be 3 F)
def UD(A B C D E F:Int):AE:=if Lm A B C D E F then og A B C D E F else []
def kJ(A B C:Int):AE:=((([]++be 1 A)++be 2 B)++be 5 C)
def S4(A B C:Int):AE:=if LJ A B C then kJ A B C else []
def kN(A B C D E F:Int):AE:=(((((([]++be 1 A)++be 1 B)++be 2 C)++be 2 D)++be 5 E)++be 5 F)
def S6(A B C D E F:Int):AE:=if LK A B C D E F then kN A B C D E F else []
def lr(A B C D:Int):AE:=(((([]++be 1 A)++be 2 B)++be 5 C)++be 6 (D+1000000000000))
def TS(A B C D:Int):AE:=if LR A B C D then lr A B C D else []
section
open Go.ChangeShapes Go.WideShapes Go.ChangeAt Go.RowKit Go.Deep
variable{n:Nat}
def AEk:prog.cellsOf 5=1:=AF
def yi{x:Int}(h:(Lit.int .u8 x).wf=true):0<=x/\x<=255:=by
 exact qd
def iW{ops:Array Oper}{rest:List Oper}{o:Oper}{a:Act}{Q:Exit->Act->AA->Prop}(hgd:o.guard=none)(s x:Operand)
 (ho:o.op=.call { callee:=.builtin .append,args:=#[s,x],argTypes:=#[27,27] })
 (base B:Nat)(v y:AB)(l m:AE)(wr:AA)(hs:a.eval s=v)(hown:wr.ownsRow base 5 1 v l.length (A3 l))(hx:a.eval x=y)(C:Af B wr y m)(hz:∀c,y=.slice none 0 c->c=0)
 (E:l.length+m.length<=100000000)(hbase:base<=wr.heap.size)
 (h:∀v' w',w'.ownsRow base 5 1 v' (l++m).length (A3 (l++m))->Below base wr w'->DK wr w'->wr.grownBy w' v.ownBlock->wpList prog ops Q rest (a.put o.dst v') w') :
 wpList prog ops Q (o::rest) a wr:=by
 obtain⟨i0,hi,hz0,hz1,hz2⟩:=info_parts HH;obtain⟨ad,c,rfl,D,hcell⟩:=C;have fin:∀v' w',w'.ownsRow base 5 1 v' (l++m).length (A3 (l++m))->wr.grownBy w' v.ownBlock->wpList prog ops Q rest (a.put o.dst v') w':=by
  intro v' w' A hg;refine h v' w' A ?_ (DK.HW hg hown) hg;exact qm
 exact tw
def AEY{w:AA}{base:Nat}{t:TypeId}{v:AB}{C:List AB}(B:w.ownsRow base t 1 v n C):∀c,v=.slice none 0 c->c=0:=by
 intro c A;rcases B.2 with ⟨rfl,_⟩|⟨E,D,cur,rfl,_⟩
 .injection A with _ _ h3;exact h3.symm
 .cases A
def bW{w:AA}{base:Nat}{v:AB}{l:AE}(B:w.ownsRow base 5 1 v l.length (A3 l))(G:0<l.length):∃g c,v=.slice (some ⟨g,0,none⟩) l.length c/\base<=g/\l.length<=c/\g<w.heap.size:=by
 rcases B.2 with ⟨rfl,F⟩|⟨g,A,cur,rfl,C,E,D,_⟩
 .omega
 .exact⟨g,A,rfl,C,D,(E7.1 E).1⟩
def Af.take{B:Nat}{w:AA}{b o c:Nat}{l:AE}(h:Af B w (.slice (some ⟨b,o,none⟩) l.length c) l)(K:n<=l.length):Af B w (.slice (some ⟨b,o,none⟩) n c) (l.take n):=by
 obtain⟨N,O,G,P,h⟩:=h;injection G with h1 h2 h3;subst h1 h3;refine⟨_,_,by rw[HE,Nat.min_eq_left K],AM,λJ=>?_⟩;simp at J;obtain⟨D,L,ha,E,F⟩:=h U;refine⟨D,L,ha,E,λC M A=>?_⟩;have I:C<n:=by have:=(Cd.1 A).1;simp at this;omega
 rw[Tk I] at A;exact F C M A
end
def Parts(B:Nat)(w:AA):List AB->List AE->Prop
 | [],[]=>True
 | v::vs,l::ls=>(Af B w v l/\∀c,v=.slice none 0 c->c=0)/\Parts B w vs ls
 | _,_=>False
def Parts.at{B:Nat}{w:AA}: ∀{A:List AB} {C:List AE} (h:Parts B w A C) (i:Nat) (hi:i<A.length),∃v l,A[i]? = some v/\C[i]? = some l/\Af B w v l/\∀c,v=.slice none 0 c->c=0
 | [],_,_,i,hi=>by simp at hi
 | v::A,[],h,_,_=>h.elim
 | v::A,l::C,h,0,_=>⟨v,l,rfl,rfl,h.1.1,h.1.2⟩
 | v::A,l::C,h,i+1,hi=>by
  obtain⟨F,E,h1,h2,D⟩:=Parts.at h.2 i KF;exact⟨F,E,OR,SN,D⟩
def Parts.length{B:Nat}{w:AA}: ∀{C:List AB} {A:List AE},Parts B w C A->C.length=A.length
 | [],[],_=>rfl
 | [],_::_,h=>h.elim
 | _::_,[],h=>h.elim
 | _::C,_::A,h=>by have:=Parts.length h.2;simp[this]
def AHw(A:List AE)(i:Nat):(A.take i).flatten.length<=A.flatten.length:=by
 have B:A.flatten=(A.take i).flatten++(A.drop i).flatten:=by rw[<-O9,Md]
 rw[B,Cp];omega
def Qp(B g:Nat)(F:List AB)(C:List AE)(w:AA)(e:B<=w.heap.size)(R:AG w g 27 F.toArray)(M:Parts B w F C)(m:F.length<=100)(x:C.flatten.length<=100000):
 AI 143 #[.slice g F.length F.length] w (OU w C.flatten w):=by
 have k:=R.lt;have b:=O M;have J:=M.length;clear M;obtain⟨E,L⟩:∃E,E=F.length:=⟨_,rfl⟩;have a:=O L;rw[<-L] at m J ⊢;have P:=O J;clear L J;go_in;go_wp2;go_loopw [3,4] (λq N wr=>∃(A:Nat) (D:AE),A<=E/\N=.int .i64 A/\wr.ownsRow w 5 1 q D.length (A3 D)/\Below w w wr/\DK w wr/\Hid (D=(C.take A).flatten))
  (λ_ N _=>E-(intOf N).toNat)
 case atStart=>exact⟨0,[],Az _,rfl,⟨rfl,.inl ⟨rfl,rfl⟩⟩,AN _ _,DK.refl _,rfl⟩
 case round=>
  obtain⟨A,D,u,rfl,W,G,V,I⟩:=hrel;by_cases T:A<E
  .obtain⟨Z,H,Y,K,X,i⟩:=b.o.at A (by rw[<-a.o];exact T);have s:wr.cell? ⟨g,A,none⟩=some Z:=by
    rw[G.cell (p:=⟨g,A,none⟩) k,R.cell];simpa using Y
   have Q:Hid ((C.take (A+1)).flatten=(C.take A).flatten++H):=by
    unfold Hid;have S:A<C.length:=by rw[<-P.o];exact T
    rw[Mj S,O9];have:C[A]=H:=by rw[BL S] at K;injection K
    simp[this]
   have r:D.length+H.length<=100000:=by
    have d:=AHw C (A+1);rw[Q.o,Cp] at d;rw[I.o];omega
   have v:(A:Int)<(E:Int):=U;have o:=(X.below (G.mono e));clear Y K X;go_wp2_with (at_builtin;refine iW AZ _ _ AZ w B _ Z D H wr AZ W AZ o i U G.size ?_;intro y z n f l j;clear j);go_roundw
   case rel=>exact⟨A+1,D++H,U,A7,n,G.trans f,V.trans l,by unfold Hid;rw[Q.o,I.o]⟩
   case measure=>exact A5
  .have t:¬(A:Int)<(E:Int):=U;go_wp2;go_ret;have c:D=C.flatten:=by rw[I.o,HB (by rw[<-P.o];omega)]
   exact⟨_,rfl,by rw[<-c];exact W,G,V⟩
section
variable{v:AB}{l:AE}
def Ei(x:Int)(k:Nat)(A:Int)(w:AA)(B:A=k)(C:k<=8):AI 39 #[x,A] w (OU w (be k x) w):=by
 subst B;exact AHi x k w C
def Ck(w:AA)(v:AB)(l:AE):Prop:=Af w w v l/\∀c,v=.slice none 0 c->c=0
def Ck.of{w:AA}{B:Nat}(A:w.ownsRow B 5 1 v l.length (A3 l)):Ck w v l:=⟨Af.FI A,AEY A⟩
def Ck.shape{w:AA}(A:Ck w v l):∃a n c,v=.slice a n c:=by
 obtain⟨⟨a,c,B,_⟩,_⟩:=A;exact⟨a,_,c,B⟩
def Ck.next{w C:AA}(A:Ck w v l)(B:Below w w C):Ck C v l:=⟨(A.1.below B).mono B.size,A.2⟩
def ABH(B C D E F G:Int)(w:AA):AI 335 #[.agg #[B,C,D,E,F,G]] w (Un (UD B C D E F G) (Lm B C D E F G) w):=by
 rcases M:Lm B C D E F G with _|_
 .have BI:Hid (UD B C D E F G=[]):=by simp[Hid,UD,M]
  simp only[Lm] at M;go_in;go_wp2_with (first
   | (go_at_call 202;refine(Iu _ _ _ _).mono ?_;rintro e P ⟨rfl,rfl⟩)
   | (go_at_call 109;refine(jD _ _).mono ?_;rintro e P ⟨rfl,rfl⟩))
  all_goals first
   | (exfalso;simp_all;done)
   | (go_ret2;rw[BI.o];exact⟨_,rfl,⟨rfl,.inl ⟨rfl,rfl⟩⟩,(AN _ _).alloc AK _⟩)
 .have BI:Hid (UD B C D E F G=[be 1 B,be 2 C,be 1 D,be 1 E,be 1 F,be 3 G].flatten):=by simp[Hid,UD,M,og]
  simp only[Lm,At] at M;obtain⟨⟨⟨⟨⟨T,U⟩,V⟩,W⟩,X⟩,Y⟩:=M;have N:=AG.new w 131 #[B,C,D,E,F,G];have Aa:Below w w (w.alloc (.cells #[B,C,D,E,F,G] 131)):=(AN _ _).alloc AK _;go_in;go_wp2_with (first
   | (go_at_call 202;refine(Iu _ _ _ _).mono ?_;rintro e P ⟨rfl,rfl⟩)
   | (go_at_call 109;refine(jD _ _).mono ?_;rintro e P ⟨rfl,rfl⟩))
  refine DB [2,5,8,11,14,17,18,19] [0,1,3,4,6,7,9,10,12,13,15,16,2,5,8,11,14,17,18,19,20,21] (w.alloc (.cells #[B,C,D,E,F,G] 131)).drew.heap.size AF AF rfl AD AF BK ?_;refine Ea ?_;replace N:=N.drew;replace Aa:=Aa.drew;generalize (w.alloc (.cells #[B,C,D,E,F,G] 131)).drew=S at *;have Z:=N.cell;have a:=N.lt;repeat refine DD ?_
  refine HK ?_;intro K hK;go_at_call 39;go_call Ei B 1 _ _ rfl AD as e u0 ⟨v0,rfl,hown,hb,hk⟩;refine hK _ _ u0 hb.size hb ?_;replace Aa:=AW Aa hb;have A:=Ck.of hown;obtain⟨a0,n0,c0,rfl⟩:=A.shape;refine H_ ?_;intro K hK;go_call Ei C 2 _ _ rfl AD as e u1 ⟨v1,rfl,hown,hb,hk⟩;refine hK _ _ u1 hb.size hb ?_;replace Aa:=AW Aa hb;replace A:=A.next hb
  have H:=Ck.of hown;obtain⟨a1,n1,c1,rfl⟩:=H.shape;refine H_ ?_;intro K hK;go_call Ei D 1 _ _ rfl AD as e u2 ⟨v2,rfl,hown,hb,hk⟩;refine hK _ _ u2 hb.size hb ?_;replace Aa:=AW Aa hb;replace A:=A.next hb
  replace H:=H.next hb
  have I:=Ck.of hown;obtain⟨a2,n2,c2,rfl⟩:=I.shape;refine H_ ?_;intro K hK;go_call Ei E 1 _ _ rfl AD as e u3 ⟨v3,rfl,hown,hb,hk⟩;refine hK _ _ u3 hb.size hb ?_;replace Aa:=AW Aa hb;replace A:=A.next hb
  replace H:=H.next hb
  replace I:=I.next hb
  have J:=Ck.of hown;obtain⟨a3,n3,c3,rfl⟩:=J.shape;refine H_ ?_;intro K hK;go_call Ei F 1 _ _ rfl AD as e u4 ⟨v4,rfl,hown,hb,hk⟩;refine hK _ _ u4 hb.size hb ?_;replace Aa:=AW Aa hb;replace A:=A.next hb
  replace H:=H.next hb
  replace I:=I.next hb
  replace J:=J.next hb
  have L:=Ck.of hown;obtain⟨a4,n4,c4,rfl⟩:=L.shape;refine H_ ?_;intro K hK;go_call Ei G 3 _ _ rfl AD as e u5 ⟨v5,rfl,hown,hb,hk⟩;refine hK _ _ u5 hb.size hb ?_;replace Aa:=AW Aa hb;replace A:=A.next hb
  replace H:=H.next hb
  replace I:=I.next hb
  replace J:=J.next hb
  replace L:=L.next hb
  have O:=Ck.of hown;obtain⟨a5,n5,c5,rfl⟩:=O.shape;refine Cq ?_;intro K hK;have R:=AG.new u5 27 #[.slice a0 n0 c0,.slice a1 n1 c1,.slice a2 n2 c2,.slice a3 n3 c3,.slice a4 n4 c4,.slice a5 n5 c5];have hb:Below u5 u5 (u5.alloc (.cells #[.slice a0 n0 c0,.slice a1 n1 c1,.slice a2 n2 c2,.slice a3 n3 c3,.slice a4 n4 c4,.slice a5 n5 c5] 27)):=(AN _ _).alloc AK _;refine uX ?_;replace A:=A.next hb
  replace H:=H.next hb
  replace I:=I.next hb
  replace J:=J.next hb
  replace L:=L.next hb
  replace O:=O.next hb
  replace Aa:=AW Aa hb;generalize u5.alloc (.cells #[.slice a0 n0 c0,.slice a1 n1 c1,.slice a2 n2 c2,.slice a3 n3 c3,.slice a4 n4 c4,.slice a5 n5 c5] 27)=Q at *;refine Cq ?_;intro K hK;go_at_call 143;refine(Qp Q u5 [.slice a0 n0 c0,.slice a1 n1 c1,.slice a2 n2 c2,.slice a3 n3 c3,.slice a4 n4 c4,.slice a5 n5 c5] [be 1 B,be 2 C,be 1 D,be 1 E,be 1 F,be 3 G] _ AK R ⟨A,H,I,J,L,O,trivial⟩ AH FC).mono ?_;exact YN
def ABE(A B C:Int)(w:AA):AI 336 #[.agg #[A,B,C]] w (Un (S4 A B C) (LJ A B C) w):=by
 rcases M:LJ A B C with _|_
 .have BI:Hid (S4 A B C=[]):=by simp[Hid,S4,M]
  simp only[LJ] at M;exact fE
 .have BI:Hid (S4 A B C=[be 1 A,be 2 B,be 5 C].flatten):=by simp[Hid,S4,M,kJ]
  simp only[LJ,At] at M;obtain⟨⟨V,W⟩,X⟩:=M;have Q:=AG.new w 358 #[A,B,C];have Aa:Below w w (w.alloc (.cells #[A,B,C] 358)):=(AN _ _).alloc AK _;go_in;go_wp2_with (first
   | (go_at_call 202;refine(Iu _ _ _ _).mono ?_;rintro e w' ⟨rfl,rfl⟩)
   | (go_at_call 110;refine(Od _ _).mono ?_;rintro e w' ⟨rfl,rfl⟩))
  refine DB [2,5,8,9,10] [0,1,3,4,6,7,2,5,8,9,10,11,12] (w.alloc (.cells #[A,B,C] 358)).drew.heap.size AF AF rfl AD AF BK ?_;refine Ea ?_;replace Q:=Q.drew;replace Aa:=Aa.drew;generalize (w.alloc (.cells #[A,B,C] 358)).drew=U at *;have Y:=Q.cell;have Z:=Q.lt;repeat refine DD ?_
  refine HK ?_;intro K hK;go_at_call 39;go_call Ei A 1 _ _ rfl AD as e u0 ⟨v0,rfl,hown,hb,hk⟩;refine hK _ _ u0 hb.size hb ?_;replace Aa:=AW Aa hb;have D:=Ck.of hown;obtain⟨F,N,I,rfl⟩:=D.shape;refine H_ ?_;intro K hK;go_call Ei B 2 _ _ rfl AD as e u1 ⟨v1,rfl,hown,hb,hk⟩;refine hK _ _ u1 hb.size hb ?_;replace Aa:=AW Aa hb;replace D:=D.next hb
  have E:=Ck.of hown;obtain⟨G,O,J,rfl⟩:=E.shape;refine H_ ?_;intro K hK;go_call Ei C 5 _ _ rfl AD as e u2 ⟨v2,rfl,hown,hb,hk⟩;refine hK _ _ u2 hb.size hb ?_;replace Aa:=AW Aa hb;replace D:=D.next hb
  replace E:=E.next hb
  have R:=Ck.of hown;obtain⟨H,P,L,rfl⟩:=R.shape;refine Cq ?_;intro K hK;have T:=AG.new u2 27 #[.slice F N I,.slice G O J,.slice H P L];have hb:Below u2 u2 (u2.alloc (.cells #[.slice F N I,.slice G O J,.slice H P L] 27)):=(AN _ _).alloc AK _;refine hK _ _ (u2.alloc (.cells #[.slice F N I,.slice G O J,.slice H P L] 27)).heap.size hb.size hb ?_;replace D:=D.next hb
  replace E:=E.next hb
  replace R:=R.next hb
  replace Aa:=AW Aa hb;generalize u2.alloc (.cells #[.slice F N I,.slice G O J,.slice H P L] 27)=S at *;refine Cq ?_;intro K hK;go_at_call 143;refine(Qp S u2 [.slice F N I,.slice G O J,.slice H P L] [be 1 A,be 2 B,be 5 C] _ AK T ⟨D,E,R,trivial⟩ AH FC).mono ?_;exact YN
def ABF(B C D E F G:Int)(w:AA):AI 337 #[.agg #[B,C,D,E,F,G]] w (Un (S6 B C D E F G) (LK B C D E F G) w):=by
 rcases M:LK B C D E F G with _|_
 .have BI:Hid (S6 B C D E F G=[]):=by simp[Hid,S6,M]
  simp only[LK] at M;exact fE
 .have BI:Hid (S6 B C D E F G=[be 1 B,be 1 C,be 2 D,be 2 E,be 5 F,be 5 G].flatten):=by simp[Hid,S6,M,kN]
  simp only[LK,At] at M;obtain⟨⟨⟨⟨⟨S,T⟩,U⟩,V⟩,W⟩,X⟩:=M;have N:=AG.new w 362 #[B,C,D,E,F,G];have Aa:Below w w (w.alloc (.cells #[B,C,D,E,F,G] 362)):=(AN _ _).alloc AK _;go_in;go_wp2_with (first
   | (go_at_call 202;refine(Iu _ _ _ _).mono ?_;rintro e w' ⟨rfl,rfl⟩)
   | (go_at_call 110;refine(Od _ _).mono ?_;rintro e w' ⟨rfl,rfl⟩))
  refine DB [2,5,8,11,14,17,18,19] [0,1,3,4,6,7,9,10,12,13,15,16,2,5,8,11,14,17,18,19,20,21] (w.alloc (.cells #[B,C,D,E,F,G] 362)).drew.heap.size AF AF rfl AD AF BK ?_;refine Ea ?_;replace N:=N.drew;replace Aa:=Aa.drew;generalize (w.alloc (.cells #[B,C,D,E,F,G] 362)).drew=R at *;have Y:=N.cell;have Z:=N.lt;repeat refine DD ?_
  refine HK ?_;intro K hK;go_at_call 39;go_call Ei B 1 _ _ rfl AD as e u0 ⟨v0,rfl,hown,hb,hk⟩;refine hK _ _ u0 hb.size hb ?_;replace Aa:=AW Aa hb;have A:=Ck.of hown;obtain⟨a0,n0,c0,rfl⟩:=A.shape;refine H_ ?_;intro K hK;go_call Ei C 1 _ _ rfl AD as e u1 ⟨v1,rfl,hown,hb,hk⟩;refine hK _ _ u1 hb.size hb ?_;replace Aa:=AW Aa hb;replace A:=A.next hb
  have H:=Ck.of hown;obtain⟨a1,n1,c1,rfl⟩:=H.shape;refine H_ ?_;intro K hK;go_call Ei D 2 _ _ rfl AD as e u2 ⟨v2,rfl,hown,hb,hk⟩;refine hK _ _ u2 hb.size hb ?_;replace Aa:=AW Aa hb;replace A:=A.next hb
  replace H:=H.next hb
  have I:=Ck.of hown;obtain⟨a2,n2,c2,rfl⟩:=I.shape;refine H_ ?_;intro K hK;go_call Ei E 2 _ _ rfl AD as e u3 ⟨v3,rfl,hown,hb,hk⟩;refine hK _ _ u3 hb.size hb ?_;replace Aa:=AW Aa hb;replace A:=A.next hb
  replace H:=H.next hb
  replace I:=I.next hb
  have J:=Ck.of hown;obtain⟨a3,n3,c3,rfl⟩:=J.shape;refine H_ ?_;intro K hK;go_call Ei F 5 _ _ rfl AD as e u4 ⟨v4,rfl,hown,hb,hk⟩;refine hK _ _ u4 hb.size hb ?_;replace Aa:=AW Aa hb;replace A:=A.next hb
  replace H:=H.next hb
  replace I:=I.next hb
  replace J:=J.next hb
  have L:=Ck.of hown;obtain⟨a4,n4,c4,rfl⟩:=L.shape;refine H_ ?_;intro K hK;go_call Ei G 5 _ _ rfl AD as e u5 ⟨v5,rfl,hown,hb,hk⟩;refine hK _ _ u5 hb.size hb ?_;replace Aa:=AW Aa hb;replace A:=A.next hb
  replace H:=H.next hb
  replace I:=I.next hb
  replace J:=J.next hb
  replace L:=L.next hb
  have O:=Ck.of hown;obtain⟨a5,n5,c5,rfl⟩:=O.shape;refine Cq ?_;intro K hK;have Q:=AG.new u5 27 #[.slice a0 n0 c0,.slice a1 n1 c1,.slice a2 n2 c2,.slice a3 n3 c3,.slice a4 n4 c4,.slice a5 n5 c5];have hb:Below u5 u5 (u5.alloc (.cells #[.slice a0 n0 c0,.slice a1 n1 c1,.slice a2 n2 c2,.slice a3 n3 c3,.slice a4 n4 c4,.slice a5 n5 c5] 27)):=(AN _ _).alloc AK _;refine uX ?_;replace A:=A.next hb
  replace H:=H.next hb
  replace I:=I.next hb
  replace J:=J.next hb
  replace L:=L.next hb
  replace O:=O.next hb
  replace Aa:=AW Aa hb;generalize u5.alloc (.cells #[.slice a0 n0 c0,.slice a1 n1 c1,.slice a2 n2 c2,.slice a3 n3 c3,.slice a4 n4 c4,.slice a5 n5 c5] 27)=P at *;refine Cq ?_;intro K hK;go_at_call 143;refine(Qp P u5 [.slice a0 n0 c0,.slice a1 n1 c1,.slice a2 n2 c2,.slice a3 n3 c3,.slice a4 n4 c4,.slice a5 n5 c5] [be 1 B,be 1 C,be 2 D,be 2 E,be 5 F,be 5 G] _ AK Q ⟨A,H,I,J,L,O,trivial⟩ AH FC).mono ?_;exact YN
def ABG(B C D A:Int)(w:AA):AI 338 #[.agg #[B,C,D,A]] w (Un (TS B C D A) (LR B C D A) w):=by
 rcases Q:LR B C D A with _|_
 .have BI:Hid (TS B C D A=[]):=by simp[Hid,TS,Q]
  simp only[LR] at Q;exact fE
 .have BI:Hid (TS B C D A=[be 1 B,be 2 C,be 5 D,be 6 (A+1000000000000)].flatten):=by simp[Hid,TS,Q,lr]
  simp only[LR,At] at Q;obtain⟨⟨⟨b,c⟩,d⟩,Y⟩:=Q;have f : -1000000000000<=A/\A<=1000000000000:=by simpa[BJ] using Y
  have V:=AG.new w 366 #[B,C,D,A];have Aa:Below w w (w.alloc (.cells #[B,C,D,A] 366)):=(AN _ _).alloc AK _;go_in;go_wp2_with (first
   | (go_at_call 202;refine(Iu _ _ _ _).mono ?_;rintro e w' ⟨rfl,rfl⟩)
   | (go_at_call 110;refine(Od _ _).mono ?_;rintro e w' ⟨rfl,rfl⟩))
  refine DB [2,5,8,12,13,14] [0,1,3,4,6,7,9,10,11,2,5,8,12,13,14,15,16] (w.alloc (.cells #[B,C,D,A] 366)).drew.heap.size AF AF rfl AD AF BK ?_;refine Ea ?_;replace V:=V.drew;replace Aa:=Aa.drew;generalize (w.alloc (.cells #[B,C,D,A] 366)).drew=a at *;have g:=V.cell;have i:=V.lt;repeat refine DD ?_
  refine HK ?_;intro K hK;go_at_call 39;go_call Ei B 1 _ _ rfl AD as e u0 ⟨v0,rfl,hown,hb,hk⟩;refine hK _ _ u0 hb.size hb ?_;replace Aa:=AW Aa hb;have E:=Ck.of hown;obtain⟨H,R,M,rfl⟩:=E.shape;refine H_ ?_;intro K hK;go_call Ei C 2 _ _ rfl AD as e u1 ⟨v1,rfl,hown,hb,hk⟩;refine hK _ _ u1 hb.size hb ?_;replace Aa:=AW Aa hb;replace E:=E.next hb
  have F:=Ck.of hown;obtain⟨I,S,N,rfl⟩:=F.shape;refine H_ ?_;intro K hK;go_call Ei D 5 _ _ rfl AD as e u2 ⟨v2,rfl,hown,hb,hk⟩;refine hK _ _ u2 hb.size hb ?_;replace Aa:=AW Aa hb;replace E:=E.next hb
  replace F:=F.next hb
  have G:=Ck.of hown;obtain⟨J,T,O,rfl⟩:=G.shape;refine H_ ?_;intro K hK;go_call Ei (A+1000000000000) 6 _ _ rfl AD as e u3 ⟨v3,rfl,hown,hb,hk⟩;refine hK _ _ u3 hb.size hb ?_;replace Aa:=AW Aa hb;replace E:=E.next hb
  replace F:=F.next hb
  replace G:=G.next hb
  have W:=Ck.of hown;obtain⟨L,U,P,rfl⟩:=W.shape;refine Cq ?_;intro K hK;have Z:=AG.new u3 27 #[.slice H R M,.slice I S N,.slice J T O,.slice L U P];have hb:Below u3 u3 (u3.alloc (.cells #[.slice H R M,.slice I S N,.slice J T O,.slice L U P] 27)):=(AN _ _).alloc AK _;refine hK _ _ (u3.alloc (.cells #[.slice H R M,.slice I S N,.slice J T O,.slice L U P] 27)).heap.size hb.size hb ?_;replace E:=E.next hb
  replace F:=F.next hb
  replace G:=G.next hb
  replace W:=W.next hb
  replace Aa:=AW Aa hb;generalize u3.alloc (.cells #[.slice H R M,.slice I S N,.slice J T O,.slice L U P] 27)=X at *;refine Cq ?_;intro K hK;go_at_call 143;refine(Qp X u3 [.slice H R M,.slice I S N,.slice J T O,.slice L U P] [be 1 B,be 2 C,be 5 D,be 6 (A+1000000000000)] _ AK Z ⟨E,F,G,W,trivial⟩ AH FC).mono ?_;exact YN
end
section
variable{g B:Nat}{w':AA}{t:TypeId}{g0 g1 g2 g3 g4 g5:Int}
def DT{P:Program}{A:Func}{p u:Tmp}{ty:TypeId}(h:A.results=#[.cell p ty,.tmp u])(tmps:Array AB)(w:AA)(g:Nat)(t:TypeId)(cs:Array AB)(fr:Nat × Nat)(d:TypeDesc)(v1:AB)
 (hp:tmps.getD p undef=.pointer g)(h1:tmps.getD u undef=v1)(hg:w.heap[g]? = some (.cells cs t fr))
 (hu:P.underlying ty=some d)(hd:(match d with | .struct _ | .array _ _=>true|_=>false)=true)(hi:(P.info? ty).map (·.size)=some cs.size):
 (results A tmps).run P w=.ok (.tuple #[.agg cs,v1]) w:=by
 exact sJ
structure FW(w:AA)(T:TypeId)(zs:Array AB)(l:AE)(wr:AA):Prop where
 z:AG wr w T zs
 r:In w (w.heap.size+1) l wr
 AJ:Below w w wr
 len:l.length<=1000
def ANd(w:AA)(T:TypeId)(zs:Array AB)(k:Nat)(l:AE)(wr:AA)(e:Ending)(w':AA):Prop:=
 ∃(g:Int) (A:AE),Hid (g=AQ (l.take k)/\A=l.drop k)/\A.length+k=l.length/\e=.returned g/\FW w T zs A w'/\wr.grownBy w' (some (w.heap.size+1))
def FW.next{w wr:AA}{T:TypeId}{zs:Array AB}{l:AE}(h:FW w T zs l wr)(k:Nat)(C:Int)(G:C=k)(E:1<=k)(F:k<=6)(H:k<=l.length):
 AI 181 #[.pointer (some ⟨w.heap.size+1,0,none⟩),C] wr (ANd w T zs k l wr):=by
 refine(WI w (w.heap.size+1) k C l wr G E F h.r H (by have:=h.len;omega)).mono ?_;rintro J w' ⟨D,I,A⟩;exact⟨_,_,⟨rfl,rfl⟩,AM,D,⟨h.z.grown A AH,I,h.AJ.grown A h.AJ.size Pu,by have:=h.len;simp;omega⟩,A⟩
def FW.start{w:AA}{T:TypeId}{zs:Array AB}{a:BH}{c:Nat}{l:AE}(h:Af w w (.slice a l.length c) l)(C:l.length<=1000):
 FW w T zs l ((w.alloc (.cells zs T)).alloc (.cells #[.slice a l.length c] 282)):=by
 have A:Below w w ((w.alloc (.cells zs T)).alloc (.cells #[.slice a l.length c] 282)):=((AN _ _).alloc AK _).alloc AH _;exact⟨(AG.new _ _ _).alloc _,⟨⟨_,AG.newAt _ _ _ _ AH,h.below A⟩,U⟩,A,C⟩
def FW.alloc{w wr:AA}{T:TypeId}{zs:Array AB}{l:AE}(D:FW w T zs l wr)(o:Obj):FW w T zs l (wr.alloc o):=by
 obtain⟨I,⟨⟨J,F,H⟩,E⟩,C,G⟩:=D;have A:w.heap.size<=wr.heap.size:=C.size;exact⟨I.alloc o,⟨⟨J,F.alloc o,H.below ((AN _ _).alloc A o)⟩,E⟩,C.alloc A o,G⟩
def bm(l:AE)(k:Nat)(C:k<=6):0<=AQ (l.take k)/\AQ (l.take k)<281474976710656:=by
 have h:=KW (l.take k);have A:=ADO (l.take k).length AM;omega
def E0(l:AE):Bool:=decide (l.length=9)&&Lm (AQ (List.take 1 l)) (AQ (List.take 2 (List.drop 1 l))) (AQ (List.take 1 (List.drop 2 (List.drop 1 l)))) (AQ (List.take 1 (List.drop 1 (List.drop 2 (List.drop 1 l))))) (AQ (List.take 1 (List.drop 1 (List.drop 1 (List.drop 2 (List.drop 1 l)))))) (AQ (List.take 3 (List.drop 1 (List.drop 1 (List.drop 1 (List.drop 2 (List.drop 1 l)))))))
def UE(l:AE):Int:=if E0 l then (AQ (List.take 1 l)) else 0
def ot(l:AE):Int:=if E0 l then (AQ (List.take 2 (List.drop 1 l))) else 0
def oq(l:AE):Int:=if E0 l then (AQ (List.take 1 (List.drop 2 (List.drop 1 l)))) else 0
def oo(l:AE):Int:=if E0 l then (AQ (List.take 1 (List.drop 1 (List.drop 2 (List.drop 1 l))))) else 0
def om(l:AE):Int:=if E0 l then (AQ (List.take 1 (List.drop 1 (List.drop 1 (List.drop 2 (List.drop 1 l)))))) else 0
def oh(l:AE):Int:=if E0 l then (AQ (List.take 3 (List.drop 1 (List.drop 1 (List.drop 1 (List.drop 2 (List.drop 1 l))))))) else 0
def YF(l:AE)(w:AA)(e:Ending)(w':AA):Prop:=e=.returned (.tuple #[.agg #[.int .i64 (UE l),.int .i64 (ot l),.int .i64 (oq l),.int .i64 (oo l),.int .i64 (om l),.int .i64 (oh l)],.bool (E0 l)])/\Below w w w'
def RV{wr:AA}{z:Array AB}(hz:z.size=6)(h:AG wr g t z)(g0 g1 g2 g3 g4 g5:Int):AG ((((((wr.setCell ⟨g,0,none⟩ g0).setCell ⟨g,1,none⟩ g1).setCell ⟨g,2,none⟩ g2).setCell ⟨g,3,none⟩ g3).setCell ⟨g,4,none⟩ g4).setCell ⟨g,5,none⟩ g5) g t #[g0,g1,g2,g3,g4,g5]:=by
 exact tT
def Nt{w wr:AA}(C:Below B w wr)(A:B<=g)(g0 g1 g2 g3 g4 g5:Int):Below B w ((((((wr.setCell ⟨g,0,none⟩ g0).setCell ⟨g,1,none⟩ g1).setCell ⟨g,2,none⟩ g2).setCell ⟨g,3,none⟩ g3).setCell ⟨g,4,none⟩ g4).setCell ⟨g,5,none⟩ g5):=
 ((((((C.setCell (p:=⟨g,0,none⟩) A g0).setCell (p:=⟨g,1,none⟩) A g1).setCell (p:=⟨g,2,none⟩) A g2).setCell (p:=⟨g,3,none⟩) A g3).setCell (p:=⟨g,4,none⟩) A g4).setCell (p:=⟨g,5,none⟩) A g5)
def Q6:(prog.info? 131).map (·.size)=some 6:=AF
def Vd{l:AE}{w:AA}(h:E0 l=false)(hb:Below w w w'):YF l w (.returned (.tuple #[.agg #[(),(),(),(),(),()],false])) w':=by
 exact qY
def jP{l:AE}{w:AA}(A:(AQ (List.take 1 l))=g0)(C:(AQ (List.take 2 (List.drop 1 l)))=g1)(D:(AQ (List.take 1 (List.drop 2 (List.drop 1 l))))=g2)(E:(AQ (List.take 1 (List.drop 1 (List.drop 2 (List.drop 1 l)))))=g3)(F:(AQ (List.take 1 (List.drop 1 (List.drop 1 (List.drop 2 (List.drop 1 l))))))=g4)(G:(AQ (List.take 3 (List.drop 1 (List.drop 1 (List.drop 1 (List.drop 2 (List.drop 1 l)))))))=g5)(h:E0 l=true)(hb:Below w w w'):YF l w (.returned (.tuple #[.agg #[g0,g1,g2,g3,g4,g5],true])) w':=by
 subst A C D E F G;exact qY
def zF(v:AB)(l:AE)(w:AA)(H:Af w w v l):AI 315 #[v] w (YF l w):=by
 obtain⟨S,c,R,K,f⟩:=id H;subst R;by_cases G:l.length=9
 .have I:=FW.start (T:=131) (zs:=#[.int .i64 0,.int .i64 0,.int .i64 0,.int .i64 0,.int .i64 0,.int .i64 0]) H U;rw[G] at I K ⊢;have HLEN:=O G;go_in;go_wp2_with fail;go_call I.next 1 _ rfl AD AD GQ as e u0 ⟨g0,l1,M0,X,rfl,L,hgr⟩
  go_wp2_with fail;go_call L.next 2 _ rfl AD AD GQ as e u1 ⟨g1,l2,OI,hl2,rfl,M,hgr⟩
  go_wp2_with fail;go_call M.next 1 _ rfl AD AD GQ as e u2 ⟨g2,l3,HG2,Y,rfl,N,hgr⟩
  go_wp2_with fail;go_call N.next 1 _ rfl AD AD GQ as e u3 ⟨g3,FK,SC,hl4,rfl,P,hgr⟩
  go_wp2_with fail;go_call P.next 1 _ rfl AD AD GQ as e u4 ⟨g4,TY,go,Z,rfl,Q,hgr⟩
  go_wp2_with fail;go_call Q.next 3 _ rfl AD AD GQ as e u5 ⟨g5,i,wX,a,rfl,RH,hgr⟩
  have e0:(AQ (List.take 1 l))=g0:=ZE;have e1:(AQ (List.take 2 (List.drop 1 l)))=g1:=Ze;have e2:(AQ (List.take 1 (List.drop 2 (List.drop 1 l))))=g2:=Zm;have e3:(AQ (List.take 1 (List.drop 1 (List.drop 2 (List.drop 1 l)))))=g3:=hZ;have e4:(AQ (List.take 1 (List.drop 1 (List.drop 1 (List.drop 2 (List.drop 1 l))))))=g4:=xE;have e5:(AQ (List.take 3 (List.drop 1 (List.drop 1 (List.drop 1 (List.drop 2 (List.drop 1 l)))))))=g5:=xO;have J:Hid (E0 l=Lm g0 g1 g2 g3 g4 g5):=by
   unfold Hid E0;exact Xt
  go_wp2_with fail;have b:w.heap.size+1<u5.heap.size:=xH;have A:=RH.z.alloc (.cells #[g0,g1,g2,g3,g4,g5] 131);have C:=RH.AJ.alloc U (.cells #[g0,g1,g2,g3,g4,g5] 131);have D:=AG.new u5 131 #[g0,g1,g2,g3,g4,g5];go_call yR g0 g1 g2 g3 g4 g5 _ as e j ⟨rfl,F⟩;replace A:=A.below F A.lt;replace D:=D.below F D.lt;replace C:=AW C F;have V:=A.cell;have W:=A.frozen;have T:=D.cell;rw[<-J.o];rcases E:E0 l with _|_
  .go_wp2;refine BE (v:=.tuple #[.agg #[(),(),(),(),(),()],false]) (DT results315 _ _ w 131 _ (0,0) _ _ rfl rfl (RV rfl A 0 0 0 0 0 0) underlying131 rfl Q6) rfl ?_;exact Vd E (Nt C AK 0 0 0 0 0 0)
  .go_wp2;refine BE (v:=.tuple #[.agg #[g0,g1,g2,g3,g4,g5],true]) (DT results315 _ _ w 131 _ (0,0) _ _ rfl rfl (RV rfl A g0 g1 g2 g3 g4 g5) underlying131 rfl Q6) rfl ?_;exact jP e0 e1 e2 e3 e4 e5 E (Nt C AK g0 g1 g2 g3 g4 g5)
 .have E:E0 l=false:=by simp[E0,G]
  have d:¬(l.length:Int)=9:=U;have A:AG (w.alloc (.cells #[(),(),(),(),(),()] 131)) w 131 #[(),(),(),(),(),()]:=AG.new _ _ _;go_in;go_wp2;refine BE (v:=.tuple #[.agg #[(),(),(),(),(),()],false]) (DT results315 _ _ w 131 _ (0,0) _ _ rfl rfl A underlying131 rfl Q6) rfl ?_;exact Vd E C8
def Fw(l:AE):Bool:=decide (l.length=8)&&LJ (AQ (List.take 1 l)) (AQ (List.take 2 (List.drop 1 l))) (AQ (List.take 5 (List.drop 2 (List.drop 1 l))))
def kM(l:AE):Int:=if Fw l then (AQ (List.take 1 l)) else 0
def kL(l:AE):Int:=if Fw l then (AQ (List.take 2 (List.drop 1 l))) else 0
def kK(l:AE):Int:=if Fw l then (AQ (List.take 5 (List.drop 2 (List.drop 1 l)))) else 0
def YB(l:AE)(w:AA)(e:Ending)(w':AA):Prop:=e=.returned (.tuple #[.agg #[.int .i64 (kM l),.int .i64 (kL l),.int .i64 (kK l)],.bool (Fw l)])/\Below w w w'
def S3{wr:AA}{z:Array AB}(D:z.size=3)(C:AG wr g t z)(g0 g1 g2:Int):AG (((wr.setCell ⟨g,0,none⟩ g0).setCell ⟨g,1,none⟩ g1).setCell ⟨g,2,none⟩ g2) g t #[g0,g1,g2]:=by
 have A:(((z.setIfInBounds 0 g0).setIfInBounds 1 g1).setIfInBounds 2 g2)=#[.int .i64 g0,.int .i64 g1,.int .i64 g2]:=by
  obtain⟨z⟩:=z;match z,D with
  | [_,_,_],_=>rfl
 rw[<-A];exact(((C.put 0 g0).put 1 g1).put 2 g2)
def QW{w wr:AA}(C:Below B w wr)(A:B<=g)(g0 g1 g2:Int):Below B w (((wr.setCell ⟨g,0,none⟩ g0).setCell ⟨g,1,none⟩ g1).setCell ⟨g,2,none⟩ g2):=
 (((C.setCell (p:=⟨g,0,none⟩) A g0).setCell (p:=⟨g,1,none⟩) A g1).setCell (p:=⟨g,2,none⟩) A g2)
def Q3:(prog.info? 358).map (·.size)=some 3:=AF
def Va{l:AE}{w:AA}(h:Fw l=false)(hb:Below w w w'):YB l w (.returned (.tuple #[.agg #[(),(),()],false])) w':=by
 exact pz
def jM{l:AE}{w:AA}(A:(AQ (List.take 1 l))=g0)(C:(AQ (List.take 2 (List.drop 1 l)))=g1)(D:(AQ (List.take 5 (List.drop 2 (List.drop 1 l))))=g2)(h:Fw l=true)(hb:Below w w w'):YB l w (.returned (.tuple #[.agg #[g0,g1,g2],true])) w':=by
 subst A C D;exact pz
def zC(v:AB)(l:AE)(w:AA)(K:Af w w v l):AI 316 #[v] w (YB l w):=by
 obtain⟨S,c,R,N,b⟩:=id K;subst R;by_cases G:l.length=8
 .have L:=FW.start (T:=358) (zs:=#[.int .i64 0,.int .i64 0,.int .i64 0]) K U;rw[G] at L N ⊢;have HLEN:=O G;go_in;go_wp2_with fail;go_call L.next 1 _ rfl AD AD GQ as e u0 ⟨g0,l1,M0,X,rfl,P,hgr⟩
  go_wp2_with fail;go_call P.next 2 _ rfl AD AD GQ as e u1 ⟨g1,l2,OI,hl2,rfl,Q,hgr⟩
  go_wp2_with fail;go_call Q.next 5 _ rfl AD AD GQ as e u2 ⟨g2,l3,HG2,Y,rfl,PF,hgr⟩
  have H:(AQ (List.take 1 l))=g0:=ZE;have I:(AQ (List.take 2 (List.drop 1 l)))=g1:=Ze;have J:(AQ (List.take 5 (List.drop 2 (List.drop 1 l))))=g2:=Zm;have M:Hid (Fw l=LJ g0 g1 g2):=by
   unfold Hid Fw;rw[H,I,J,HLEN.o];rfl
  go_wp2_with fail;have Z:w.heap.size+1<u2.heap.size:=xG;have A:=PF.z.alloc (.cells #[g0,g1,g2] 358);have C:=PF.AJ.alloc U (.cells #[g0,g1,g2] 358);have D:=AG.new u2 358 #[g0,g1,g2];go_call yG g0 g1 g2 _ as e d ⟨rfl,F⟩;replace A:=A.below F A.lt;replace D:=D.below F D.lt;replace C:=AW C F;have V:=A.cell;have W:=A.frozen;have T:=D.cell;rw[<-M.o];rcases E:Fw l with _|_
  .go_wp2;refine BE (v:=.tuple #[.agg #[(),(),()],false]) (DT results316 _ _ w 358 _ (0,0) _ _ rfl rfl (S3 rfl A 0 0 0) underlying358 rfl Q3) rfl ?_;exact Va E (QW C AK 0 0 0)
  .go_wp2;refine BE (v:=.tuple #[.agg #[g0,g1,g2],true]) (DT results316 _ _ w 358 _ (0,0) _ _ rfl rfl (S3 rfl A g0 g1 g2) underlying358 rfl Q3) rfl ?_;exact jM H I J E (QW C AK g0 g1 g2)
 .have E:Fw l=false:=by simp[Fw,G]
  have a:¬(l.length:Int)=8:=U;have A:AG (w.alloc (.cells #[(),(),()] 358)) w 358 #[(),(),()]:=AG.new _ _ _;go_in;go_wp2;refine BE (v:=.tuple #[.agg #[(),(),()],false]) (DT results316 _ _ w 358 _ (0,0) _ _ rfl rfl A underlying358 rfl Q3) rfl ?_;exact Va E C8
def Es(l:AE):Bool:=decide (l.length=16)&&LK (AQ (List.take 1 l)) (AQ (List.take 1 (List.drop 1 l))) (AQ (List.take 2 (List.drop 1 (List.drop 1 l)))) (AQ (List.take 2 (List.drop 2 (List.drop 1 (List.drop 1 l))))) (AQ (List.take 5 (List.drop 2 (List.drop 2 (List.drop 1 (List.drop 1 l)))))) (AQ (List.take 5 (List.drop 5 (List.drop 2 (List.drop 2 (List.drop 1 (List.drop 1 l)))))))
def S7(l:AE):Int:=if Es l then (AQ (List.take 1 l)) else 0
def kS(l:AE):Int:=if Es l then (AQ (List.take 1 (List.drop 1 l))) else 0
def kR(l:AE):Int:=if Es l then (AQ (List.take 2 (List.drop 1 (List.drop 1 l)))) else 0
def kQ(l:AE):Int:=if Es l then (AQ (List.take 2 (List.drop 2 (List.drop 1 (List.drop 1 l))))) else 0
def kP(l:AE):Int:=if Es l then (AQ (List.take 5 (List.drop 2 (List.drop 2 (List.drop 1 (List.drop 1 l)))))) else 0
def kO(l:AE):Int:=if Es l then (AQ (List.take 5 (List.drop 5 (List.drop 2 (List.drop 2 (List.drop 1 (List.drop 1 l))))))) else 0
def YC(l:AE)(w:AA)(e:Ending)(w':AA):Prop:=e=.returned (.tuple #[.agg #[.int .i64 (S7 l),.int .i64 (kS l),.int .i64 (kR l),.int .i64 (kQ l),.int .i64 (kP l),.int .i64 (kO l)],.bool (Es l)])/\Below w w w'
def S5{wr:AA}{z:Array AB}(hz:z.size=6)(h:AG wr g t z)(g0 g1 g2 g3 g4 g5:Int):AG ((((((wr.setCell ⟨g,0,none⟩ g0).setCell ⟨g,1,none⟩ g1).setCell ⟨g,2,none⟩ g2).setCell ⟨g,3,none⟩ g3).setCell ⟨g,4,none⟩ g4).setCell ⟨g,5,none⟩ g5) g t #[g0,g1,g2,g3,g4,g5]:=by
 exact tT
def QX{w wr:AA}(C:Below B w wr)(A:B<=g)(g0 g1 g2 g3 g4 g5:Int):Below B w ((((((wr.setCell ⟨g,0,none⟩ g0).setCell ⟨g,1,none⟩ g1).setCell ⟨g,2,none⟩ g2).setCell ⟨g,3,none⟩ g3).setCell ⟨g,4,none⟩ g4).setCell ⟨g,5,none⟩ g5):=
 ((((((C.setCell (p:=⟨g,0,none⟩) A g0).setCell (p:=⟨g,1,none⟩) A g1).setCell (p:=⟨g,2,none⟩) A g2).setCell (p:=⟨g,3,none⟩) A g3).setCell (p:=⟨g,4,none⟩) A g4).setCell (p:=⟨g,5,none⟩) A g5)
def Q4:(prog.info? 362).map (·.size)=some 6:=AF
def Vb{l:AE}{w:AA}(h:Es l=false)(hb:Below w w w'):YC l w (.returned (.tuple #[.agg #[(),(),(),(),(),()],false])) w':=by
 exact rZ
def jN{l:AE}{w:AA}(A:(AQ (List.take 1 l))=g0)(C:(AQ (List.take 1 (List.drop 1 l)))=g1)(D:(AQ (List.take 2 (List.drop 1 (List.drop 1 l))))=g2)(E:(AQ (List.take 2 (List.drop 2 (List.drop 1 (List.drop 1 l)))))=g3)(F:(AQ (List.take 5 (List.drop 2 (List.drop 2 (List.drop 1 (List.drop 1 l))))))=g4)(G:(AQ (List.take 5 (List.drop 5 (List.drop 2 (List.drop 2 (List.drop 1 (List.drop 1 l)))))))=g5)(h:Es l=true)(hb:Below w w w'):YC l w (.returned (.tuple #[.agg #[g0,g1,g2,g3,g4,g5],true])) w':=by
 subst A C D E F G;exact rZ
def zD(v:AB)(l:AE)(w:AA)(H:Af w w v l):AI 317 #[v] w (YC l w):=by
 obtain⟨S,c,R,K,f⟩:=id H;subst R;by_cases G:l.length=16
 .have I:=FW.start (T:=362) (zs:=#[.int .i64 0,.int .i64 0,.int .i64 0,.int .i64 0,.int .i64 0,.int .i64 0]) H U;rw[G] at I K ⊢;have HLEN:=O G;go_in;go_wp2_with fail;go_call I.next 1 _ rfl AD AD GQ as e u0 ⟨g0,l1,M0,X,rfl,L,hgr⟩
  go_wp2_with fail;go_call L.next 1 _ rfl AD AD GQ as e u1 ⟨g1,l2,OI,hl2,rfl,M,hgr⟩
  go_wp2_with fail;go_call M.next 2 _ rfl AD AD GQ as e u2 ⟨g2,l3,HG2,Y,rfl,N,hgr⟩
  go_wp2_with fail;go_call N.next 2 _ rfl AD AD GQ as e u3 ⟨g3,FK,SC,hl4,rfl,P,hgr⟩
  go_wp2_with fail;go_call P.next 5 _ rfl AD AD GQ as e u4 ⟨g4,TY,go,Z,rfl,Q,hgr⟩
  go_wp2_with fail;go_call Q.next 5 _ rfl AD AD GQ as e u5 ⟨g5,i,wX,a,rfl,RH,hgr⟩
  have e0:(AQ (List.take 1 l))=g0:=ZE;have e1:(AQ (List.take 1 (List.drop 1 l)))=g1:=Ze;have e2:(AQ (List.take 2 (List.drop 1 (List.drop 1 l))))=g2:=Zm;have e3:(AQ (List.take 2 (List.drop 2 (List.drop 1 (List.drop 1 l)))))=g3:=hZ;have e4:(AQ (List.take 5 (List.drop 2 (List.drop 2 (List.drop 1 (List.drop 1 l))))))=g4:=xE;have e5:(AQ (List.take 5 (List.drop 5 (List.drop 2 (List.drop 2 (List.drop 1 (List.drop 1 l)))))))=g5:=xO;have J:Hid (Es l=LK g0 g1 g2 g3 g4 g5):=by
   unfold Hid Es;exact Xt
  go_wp2_with fail;have b:w.heap.size+1<u5.heap.size:=xH;have A:=RH.z.alloc (.cells #[g0,g1,g2,g3,g4,g5] 362);have C:=RH.AJ.alloc U (.cells #[g0,g1,g2,g3,g4,g5] 362);have D:=AG.new u5 362 #[g0,g1,g2,g3,g4,g5];go_call yH g0 g1 g2 g3 g4 g5 _ as e j ⟨rfl,F⟩;replace A:=A.below F A.lt;replace D:=D.below F D.lt;replace C:=AW C F;have V:=A.cell;have W:=A.frozen;have T:=D.cell;rw[<-J.o];rcases E:Es l with _|_
  .go_wp2;refine BE (v:=.tuple #[.agg #[(),(),(),(),(),()],false]) (DT results317 _ _ w 362 _ (0,0) _ _ rfl rfl (S5 rfl A 0 0 0 0 0 0) underlying362 rfl Q4) rfl ?_;exact Vb E (QX C AK 0 0 0 0 0 0)
  .go_wp2;refine BE (v:=.tuple #[.agg #[g0,g1,g2,g3,g4,g5],true]) (DT results317 _ _ w 362 _ (0,0) _ _ rfl rfl (S5 rfl A g0 g1 g2 g3 g4 g5) underlying362 rfl Q4) rfl ?_;exact jN e0 e1 e2 e3 e4 e5 E (QX C AK g0 g1 g2 g3 g4 g5)
 .have E:Es l=false:=by simp[Es,G]
  have d:¬(l.length:Int)=16:=U;have A:AG (w.alloc (.cells #[(),(),(),(),(),()] 362)) w 362 #[(),(),(),(),(),()]:=AG.new _ _ _;go_in;go_wp2;refine BE (v:=.tuple #[.agg #[(),(),(),(),(),()],false]) (DT results317 _ _ w 362 _ (0,0) _ _ rfl rfl A underlying362 rfl Q4) rfl ?_;exact Vb E C8
def Fc(l:AE):Bool:=decide (l.length=14)&&LR (AQ (List.take 1 l)) (AQ (List.take 2 (List.drop 1 l))) (AQ (List.take 5 (List.drop 2 (List.drop 1 l)))) (AQ (List.take 6 (List.drop 5 (List.drop 2 (List.drop 1 l))))-1000000000000)
def lx(l:AE):Int:=if Fc l then (AQ (List.take 1 l)) else 0
def lw(l:AE):Int:=if Fc l then (AQ (List.take 2 (List.drop 1 l))) else 0
def lv(l:AE):Int:=if Fc l then (AQ (List.take 5 (List.drop 2 (List.drop 1 l)))) else 0
def lu(l:AE):Int:=if Fc l then (AQ (List.take 6 (List.drop 5 (List.drop 2 (List.drop 1 l))))-1000000000000) else 0
def YD(l:AE)(w:AA)(e:Ending)(w':AA):Prop:=e=.returned (.tuple #[.agg #[.int .i64 (lx l),.int .i64 (lw l),.int .i64 (lv l),.int .i64 (lu l)],.bool (Fc l)])/\Below w w w'
def TR{wr:AA}{z:Array AB}(D:z.size=4)(C:AG wr g t z)(g0 g1 g2 g3:Int):AG ((((wr.setCell ⟨g,0,none⟩ g0).setCell ⟨g,1,none⟩ g1).setCell ⟨g,2,none⟩ g2).setCell ⟨g,3,none⟩ g3) g t #[g0,g1,g2,g3]:=by
 have A:((((z.setIfInBounds 0 g0).setIfInBounds 1 g1).setIfInBounds 2 g2).setIfInBounds 3 g3)=#[.int .i64 g0,.int .i64 g1,.int .i64 g2,.int .i64 g3]:=by
  obtain⟨z⟩:=z;match z,D with
  | [_,_,_,_],_=>rfl
 rw[<-A];exact((((C.put 0 g0).put 1 g1).put 2 g2).put 3 g3)
def Qk{w wr:AA}(C:Below B w wr)(A:B<=g)(g0 g1 g2 g3:Int):Below B w ((((wr.setCell ⟨g,0,none⟩ g0).setCell ⟨g,1,none⟩ g1).setCell ⟨g,2,none⟩ g2).setCell ⟨g,3,none⟩ g3):=
 ((((C.setCell (p:=⟨g,0,none⟩) A g0).setCell (p:=⟨g,1,none⟩) A g1).setCell (p:=⟨g,2,none⟩) A g2).setCell (p:=⟨g,3,none⟩) A g3)
def Q5:(prog.info? 366).map (·.size)=some 4:=AF
def Vc{l:AE}{w:AA}(h:Fc l=false)(hb:Below w w w'):YD l w (.returned (.tuple #[.agg #[(),(),(),()],false])) w':=by
 exact qA
def jO{l:AE}{w:AA}(A:(AQ (List.take 1 l))=g0)(C:(AQ (List.take 2 (List.drop 1 l)))=g1)(D:(AQ (List.take 5 (List.drop 2 (List.drop 1 l))))=g2)(E:(AQ (List.take 6 (List.drop 5 (List.drop 2 (List.drop 1 l))))-1000000000000)=g3)(h:Fc l=true)(hb:Below w w w'):YD l w (.returned (.tuple #[.agg #[g0,g1,g2,g3],true])) w':=by
 subst A C D E;exact qA
def zE(v:AB)(l:AE)(w:AA)(L:Af w w v l):AI 318 #[v] w (YD l w):=by
 obtain⟨W,c,V,Q,j⟩:=id L;subst V;by_cases G:l.length=14
 .have M:=FW.start (T:=366) (zs:=#[.int .i64 0,.int .i64 0,.int .i64 0,.int .i64 0]) L U;rw[G] at M Q ⊢;have HLEN:=O G;go_in;go_wp2_with fail;go_call M.next 1 _ rfl AD AD GQ as e u0 ⟨g0,l1,M0,b,rfl,S,hgr⟩
  go_wp2_with fail;go_call S.next 2 _ rfl AD AD GQ as e u1 ⟨g1,l2,OI,hl2,rfl,T,hgr⟩
  go_wp2_with fail;go_call T.next 5 _ rfl AD AD GQ as e u2 ⟨g2,l3,HG2,d,rfl,PF,hgr⟩
  have f:w.heap.size+1<u2.heap.size:=xG;replace PF:=PF.alloc (.cells #[g0,g1,g2,()] 366);have A:=AG.new u2 366 #[g0,g1,g2,()];go_wp2_with fail;go_call PF.next 6 _ rfl AD AD GQ as e u3 ⟨g3,FK,SC,hl4,rfl,N,hgr⟩
  replace A:=A.grown hgr AM;have H:(AQ (List.take 1 l))=g0:=ZE;have I:(AQ (List.take 2 (List.drop 1 l)))=g1:=Ze;have J:(AQ (List.take 5 (List.drop 2 (List.drop 1 l))))=g2:=Zm;have K:(AQ (List.take 6 (List.drop 5 (List.drop 2 (List.drop 1 l))))-1000000000000)=(g3-1000000000000):=hZ;have X:0<=g3/\g3<281474976710656:=by rw[SC.o.1];exact bm _ 6 AD
  have P:Hid (Fc l=LR g0 g1 g2 (g3-1000000000000)):=by
   unfold Hid Fc;rw[H,I,J,K,HLEN.o];rfl
  have R:=A.cell;have Z:=A.frozen;have C:=N.z.far (p:=⟨u2,3,none⟩) AM (.int .i64 (g3-1000000000000));have D:=N.AJ.setCell (p:=⟨u2,3,none⟩) AM (.int .i64 (g3-1000000000000));go_wp2_with fail;replace A:=A.put 3 (.int .i64 (g3-1000000000000));replace A:AG _ u2 366 #[g0,g1,g2,.int .i64 (g3-1000000000000)]:=A;go_call yL g0 g1 g2 (g3-1000000000000) _ as e k ⟨rfl,F⟩;replace C:=C.below F C.lt;replace A:=A.below F A.lt;replace D:=AW D F;have Y:=C.cell;have a:=C.frozen;have R:=A.cell;rw[<-P.o];rcases E:Fc l with _|_
  .go_wp2;refine BE (v:=.tuple #[.agg #[(),(),(),()],false]) (DT results318 _ _ w 366 _ (0,0) _ _ rfl rfl (TR rfl C 0 0 0 0) underlying366 rfl Q5) rfl ?_;exact Vc E (Qk D AK 0 0 0 0)
  .go_wp2;refine BE (v:=.tuple #[.agg #[g0,g1,g2,.int .i64 (g3-1000000000000)],true]) (DT results318 _ _ w 366 _ (0,0) _ _ rfl rfl (TR rfl C g0 g1 g2 (g3-1000000000000)) underlying366 rfl Q5) rfl ?_;exact jO H I J K E (Qk D AK g0 g1 g2 (g3-1000000000000))
 .have E:Fc l=false:=by simp[Fc,G]
  have i:¬(l.length:Int)=14:=U;have C:AG (w.alloc (.cells #[(),(),(),()] 366)) w 366 #[(),(),(),()]:=AG.new _ _ _;go_in;go_wp2;refine BE (v:=.tuple #[.agg #[(),(),(),()],false]) (DT results318 _ _ w 366 _ (0,0) _ _ rfl rfl C underlying366 rfl Q5) rfl ?_;exact Vc E C8
end
