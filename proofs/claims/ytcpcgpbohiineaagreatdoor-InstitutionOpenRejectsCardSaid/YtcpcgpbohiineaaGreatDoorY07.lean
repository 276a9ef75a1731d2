/- Lemmas for Y28. -/
import Derived.Test.YtcpcgpbohiineaaGreatDoorY01
namespace Go.Proofs.YtcpcgpbohiineaaGreatDoor
open Go.RowKit Go.Proofs.Tryz
set_option linter.all false
set_option maxRecDepth 100000
set_option maxHeartbeats 4000000
def CF(k:Int):AE:=
 if k=1 then [83,80,84,72,67,65] else if k=2 then [83,80,72,67,65] else if k=3 then [83,80,72,67,65]
 else if k=4 then [83,80,84] else if k=5 then [83,80] else if k=6 then [83,80,67,65] else if k=7 then [83,80]
 else if k=8 then [83,80] else if k=9 then [83,80] else if k=10 then [83,80,82] else if k=11 then [80]
 else if k=12 then [80] else if k=13 then [80] else if k=14 then [80,82] else []
def Dc(k:Int):ByteArray:=⟨(CF k).toArray⟩
def QL(k:Int)(h:k<1\/14<k):CF k=[]:=by
 unfold CF;repeat (rw[AU U])
def VW(k:Int)(w:AA):
 AI 132 #[k] w (BX (.string (Dc k)) w):=by
 by_cases h:1<=k/\k<=14
 .have B:k=1\/k=2\/k=3\/k=4\/k=5\/k=6\/k=7\/k=8\/k=9\/k=10\/k=11\/k=12\/k=13\/k=14:=U;rcases B with rfl|rfl|rfl|rfl|rfl|rfl|rfl|rfl|rfl|rfl|rfl|rfl|rfl|rfl;all_goals
   go_in;go_wp2;go_ret;exact⟨rfl,rfl⟩
 .have A:CF k=[]:=QL k U;have H:Hid (CF k=[]):=A;have C:(k==1)=false:=Aw.2 U;have J:(k==2)=false:=Aw.2 U;have K:(k==3)=false:=Aw.2 U;have L:(k==4)=false:=Aw.2 U;have M:(k==5)=false:=Aw.2 U;have N:(k==6)=false:=Aw.2 U;have O:(k==7)=false:=Aw.2 U;have P:(k==8)=false:=Aw.2 U;have Q:(k==9)=false:=Aw.2 U;have D:(k==10)=false:=Aw.2 U;have E:(k==11)=false:=Aw.2 U;have F:(k==12)=false:=Aw.2 U;have G:(k==13)=false:=Aw.2 U;have I:(k==14)=false:=Aw.2 U;go_in;go_wp2;go_ret;exact⟨vm,rfl⟩
def QT(k:Int)(w:AA):
 AI 84 #[k] w (Bz (.string (Dc k)) w):=by
 by_cases h:1<=k/\k<=14
 .have A:k=1\/k=2\/k=3\/k=4\/k=5\/k=6\/k=7\/k=8\/k=9\/k=10\/k=11\/k=12\/k=13\/k=14:=U;rcases A with rfl|rfl|rfl|rfl|rfl|rfl|rfl|rfl|rfl|rfl|rfl|rfl|rfl|rfl;all_goals
   go_in;go_wp2;go_ret;exact⟨rfl,(AN _ _).alloc AK _⟩
 .have H:Hid (CF k=[]):=QL k U;by_cases B:k<1
  .exact qO
  .have C:15<=k:=U;exact qO
def BJ(x B A:Int):Bool:=decide (B<=x/\x<=A)
def VS(x B A:Int)(w:AA):
 AI 135 #[x,B,A] w (BX (.bool (BJ x B A)) w):=by
 by_cases h:B<=x
 .by_cases C:x<=A
  .have H:Hid (BJ x B A=true):=by simp[Hid,BJ,h,C]
   exact UP
  .have H:Hid (BJ x B A=false):=by simp[Hid,BJ,C]
   exact UP
 .have H:Hid (BJ x B A=false):=by simp[Hid,BJ,h]
  exact UP
def Cf(C:Bool)(x B A:Int):Bool:=if C then BJ x B A else x==0
def XE(u:Bool)(x B A:Int)(w:AA):
 AI 136 #[u,x,B,A] w (BX (.bool (Cf u x B A)) w):=by
 cases u
 .by_cases h:x=0
  .subst h;go_in;go_wp2_with (go_at_call 135;refine(VS _ _ _ _).mono ?_;rintro e w' ⟨rfl,rfl⟩)
   exact H7
  .have G:(x==0)=false:=Aw.2 h;have C:Hid (Cf false x B A=false):=by simp[Hid,Cf,h]
   go_in;go_wp2_with (go_at_call 135;refine(VS _ _ _ _).mono ?_;rintro e w' ⟨rfl,rfl⟩)
   go_ret;exact⟨D8 C.o.symm,rfl⟩
 .have C:Hid (Cf true x B A=BJ x B A):=rfl;have D:∀w:AA,AI 135 #[x,B,A] w (BX (.bool (BJ x B A)) w):=VS x B A;generalize BJ x B A=F at *;have E:=O D;cases F;all_goals
   go_in;go_wp2_with (go_at_call 135;refine(E.o _).mono ?_;rintro e w' ⟨rfl,rfl⟩)
   go_ret;exact⟨D8 C.o.symm,rfl⟩
def G0(a b:Int):Bool:=decide (0<=a/\a<b/\b<=73049)
def VT(a b:Int)(w:AA):
 AI 137 #[.agg #[a,b]] w (Bz (.bool (G0 a b)) w):=by
 by_cases h:0<=a
 .by_cases A:a<b
  .by_cases B:b<=73049
   .have H:Hid (G0 a b=true):=by simp[Hid,G0,h,A,B]
    exact X5
   .have H:Hid (G0 a b=false):=by simp[Hid,G0,B]
    exact X5
  .have H:Hid (G0 a b=false):=by simp[Hid,G0,A]
   exact X5
 .have H:Hid (G0 a b=false):=by simp[Hid,G0,h]
  exact X5
def AG8(s:ByteArray)(c:Int)(w:AA):(callFunc 362 #[.string s,.int .u8 c]).run prog w=.ok (.value (.int .i64 (Lib.indexByte s.data.toList c.toNat.toUInt8))) w:=by
 rw[run_callFunc_extern func362 AF AF AF (e:=Extern.BytealgIndexByte.indexByte) AF,Lib.run_indexByteString];rfl
def hasB(l:AE)(c:UInt8):Bool:=decide (0<=Lib.indexByte l c)
def AHa(c:UInt8):hasB [c] c=true:=by simp[hasB,Lib.indexByte]
def AJH(s:ByteArray)(c:UInt8)(w:AA):
 AI 134 #[.string s,.string ⟨#[c]⟩] w (BX (.bool (hasB s.data.toList c)) w):=by
 by_cases h:([c]==s.toList)=true
 .have H:Hid (hasB s.data.toList c=true):=by
   have B:=C7.1 h;rw[ByteArray.toList_eq] at B;rw[<-B];exact AHa c
  exact UP
 .have D:([c]==s.toList)=false:=Fq;have E:∀w:AA,(callFunc 362 #[.string s,.int .u8 (((⟨#[c]⟩:ByteArray)[0]'Nat.one_pos).toNat:Int)]).run prog w=.ok (.value (.int .i64 (Lib.indexByte s.data.toList c))) w:=by
   intro w;have A:=AG8 s c.toNat w;have C:(c.toNat:Int).toNat.toUInt8=c:=AH;rw[C] at A;exact A
  have H:Hid (hasB s.data.toList c=decide (0<=Lib.indexByte s.data.toList c)):=rfl;generalize Lib.indexByte s.data.toList c=F at *;exact UP
def W8(s:ByteArray)(c:UInt8)(b o:Nat)(w:AA)(A:w.cell? ⟨b,o,none⟩=some (.string s)):
 AI 133 #[.string ⟨#[c]⟩,.pointer (some ⟨b,o,none⟩)] w (BX (.bool (hasB s.data.toList c)) w):=by
 go_in;go_wp2_with (go_at_call 134;refine(AJH _ _ _).mono ?_;rintro e w' ⟨rfl,rfl⟩)
 exact H7
structure Bm where
 B9:Int
 num:Int
 BB:Int
 gone:Bool
 per:Int
 kind:Int
 st:Int
 fr:Int
 BR:Int
 seat:Int
 share:Int
 cur:Int
 Cm:Int
 ref:Int
def Ds(k:Int)(c:UInt8):Bool:=hasB (CF k) c
def MF(f:Bm):Bool:=
 if f.kind=4 then f.st !=f.seat
 else if f.kind=11\/f.kind=12 then f.BR==f.fr+1
 else if f.kind=10\/f.kind=14 then f.ref !=f.per
 else true
def BY(f:Bm):Bool:=
 !(CF f.kind).isEmpty&&BJ f.B9 0 5&&BJ f.num 1 999&&BJ f.BB 1 99&&BJ f.per 1 99
 && Cf (Ds f.kind 83) f.st 0 5&&Cf (Ds f.kind 84) f.seat 0 5&&G0 f.fr f.BR
 && Cf (Ds f.kind 72) f.share 1 100&&Cf (Ds f.kind 67) f.cur 1 999&&Cf (Ds f.kind 65) f.Cm 0 1000000000&&Cf (Ds f.kind 82) f.ref 1 99
 && MF f
def QK(I J K:Int)(L:Bool)(M a5 G A B H C D E F:Int)(w:AA):
 AI 75 #[.agg #[I,J,K,L,M,a5,G,A,B,H,C,D,E,F]] w
  λe w'=>e=.returned (.bool (BY ⟨I,J,K,L,M,a5,G,A,B,H,C,D,E,F⟩))/\Below w w w':=by
 go_in;go_wp2_with (first
  | (go_at_call 132;refine(VW _ _).mono ?_;rintro e w' ⟨rfl,rfl⟩)
  | (go_at_call 135;refine(VS _ _ _ _).mono ?_;rintro e w' ⟨rfl,rfl⟩))
 iterate 5
  (focus
   go_ret;refine⟨D8 ?_,?_⟩
   .exact eH
   .exact((AN _ _).alloc AK _).alloc AH _)
 rcases S:Cf (hasB (Dc a5).data.toList 83) G 0 5 with _|_
 .exact fF
 rcases T:Cf (hasB (Dc a5).data.toList 84) H 0 5 with _|_
 .exact fF
 rcases O:G0 A B with _|_
 .exact fF
 .
   refine EZ ?_;repeat (go_big_quiet_step ((first
    | (go_at_call 133;refine EN (W8 (Dc a5) _ _ _ _ ?_);go_simp)
    | (go_at_call 136;exact EN (XE _ _ _ _ _))
    | (go_at_call 137;exact Hh (VT _ _ _)))))
   refine Cj ?_;rintro w' ⟨⟨w2,hb2⟩,hw''⟩;subst hw'';go_wp2;have d:w.heap.size<w'.heap.size:=wj;have f:w.heap.size+1<w'.heap.size:=wj;have hB:Below w w w':=(((AN _ _).alloc AK _).alloc AH _).trans (hb2.mono AM);obtain⟨W,Y⟩:=Ra hb2;rcases U:Cf (hasB (Dc a5).data.toList 72) C 1 100 with _|_
   .exact YY
   rcases V:Cf (hasB (Dc a5).data.toList 67) D 1 999 with _|_
   .exact YY
   rcases Q:Cf (hasB (Dc a5).data.toList 65) E 0 1000000000 with _|_
   .exact YY
   rcases R:Cf (hasB (Dc a5).data.toList 82) F 1 99 with _|_
   .exact YY
   .
     refine EZ ?_;repeat (go_big_quiet_step ((first
      | (go_at_call 133;refine EN (W8 (Dc a5) _ _ _ _ ?_);go_simp)
      | (go_at_call 136;exact EN (XE _ _ _ _ _))
      | (go_at_call 137;exact Hh (VT _ _ _)))))
     refine Cj ?_;rintro w2 ⟨⟨w3,hb3⟩,hw''⟩;subst hw'';obtain⟨X,Z⟩:=Ra hb3;have N:=hB.trans K6;have P:0<=A/\A<B/\B<=73049:=by simpa[G0] using O
     obtain⟨a,b,c⟩:=P;go_wp2;all_goals
      go_ret;refine⟨D8 ?_,N⟩;go_light;simp_all [BY,MF,Dc,Ds]
def nN(c:UInt8):hasB [] c=false:=by simp[hasB,Lib.indexByte]
def AHb(b c:UInt8)(l:AE):hasB (b::l) c=(b==c||hasB l c):=by
 unfold hasB;have h:=Lib.indexByte_ge l c;by_cases A:b==c
 .simp[Lib.indexByte,A]
 .simp only[Lib.indexByte,A];by_cases h1:Lib.indexByte l c = -1
  .simp[h1]
  .have B:(Lib.indexByte l c == -1)=false:=OR;simp only[B];have:0<=Lib.indexByte l c:=U;simp[this];omega
def W_(l:AE)(c:UInt8):hasB l c=decide (c∈l):=by
 induction l with
 | nil=>simp[nN]
 | cons A l E=>
  rw[AHb,E];by_cases h:A=c
  .subst h;simp
  .have C:(A==c)=false:=Fq;have D:¬c=A:=λB=>h B.symm;simp[C,D]
def QM(k:Int):(CF k).length<=6:=by
 by_cases h:1<=k/\k<=14
 .have A:k=1\/k=2\/k=3\/k=4\/k=5\/k=6\/k=7\/k=8\/k=9\/k=10\/k=11\/k=12\/k=13\/k=14:=U;rcases A with rfl|rfl|rfl|rfl|rfl|rfl|rfl|rfl|rfl|rfl|rfl|rfl|rfl|rfl;all_goals decide
 .rw[QL k U];decide
def l5(s:ByteArray)(i:Nat)(c:UInt8):Prop:=∀j (h:j<s.size),j<i->s[j]≠c
def AFN{s:ByteArray}{c:UInt8}(h:l5 s s.size c):hasB s.data.toList c=false:=by
 rw[W_];simp only[PQ];intro E;obtain⟨A,hj,C⟩:=List.getElem_of_mem E;have B:A<s.size:=P0;have D:s.data[A]' P0=c:=by simpa using C
 exact h A B B D
def zg{s:ByteArray}{c:UInt8}{i:Nat}(hi:i<s.size)(h:s[i]=c):hasB s.data.toList c=true:=by
 rw[W_];simp only[CJ];rw[<-h];exact Gq (l:=s.data.toList) (n:=i) KF
def AAK(k:Int)(c:UInt8)(w:AA):
 AI 385 #[k,.int .u8 c.toNat] w (Bz (.bool (Ds k c)) w):=by
 have T:(Dc k).size<=6:=QM k;have G:Hid (Ds k c=hasB (Dc k).data.toList c):=rfl;have J:=O (QT k);generalize Dc k=B at *;go_in;go_wp2_with (go_at_call 84;refine(J.o _).mono ?_;rintro e w' ⟨rfl,I⟩)
 go_loop [6] (λF=>∃A:Nat,A<=B.size/\F=.int .i64 A/\l5 B A c) (λF=>B.size-(intOf F).toNat)
 case atStart=>exact⟨0,Az _,rfl,λE _ h=>absurd h U⟩
 case round=>
  obtain⟨A,R,rfl,Q⟩:=hrel;have H:=O Q;by_cases P:A<B.size
  .by_cases C:B[A]=c
   .have K:((B[A].toNat:Int)==c.toNat)=true:=by rw[C];simp
    have D:Hid (hasB B.data.toList c=true):=zg P C;go_wp2;go_ret;exact⟨D8 (G.o.trans D.o).symm,I⟩
   .have K:((B[A].toNat:Int)==c.toNat)=false:=by
     rw[Aw];intro h;exact C (UInt8.toNat_inj.1 U)
    have D:=O C;go_wp2;go_round
    case rel=>
     refine⟨A+1,U,A7,λE M S=>?_⟩;by_cases N:E=A
     .subst N;exact D.o
     .exact H.o E M U
    case measure=>exact A5
  .have L:A=B.size:=U;subst L;go_wp2;go_ret;exact⟨D8 (G.o.trans (AFN H.o)).symm,I⟩
def IG(k m:Int):Bool:=Ds k m.toNat.toUInt8
def ABc(k m n C A:Int)(w:AA)(F:0<=m)(G:m<=255):
 AI 380 #[k,.int .u8 m,n,C,A] w (Bz (.bool (Cf (IG k m) n C A)) w):=by
 have B:m=(m.toNat.toUInt8.toNat:Int):=AM;have D:Hid (∀w:AA,AI 385 #[k,.int .u8 m] w λe w'=>e=.returned (.bool (IG k m))/\Below w w w'):=by
  intro w;have:=AAK k m.toNat.toUInt8 w;rw[<-B] at this;exact D2
 clear B;go_in;go_wp2_with (go_at_call 385;refine(D.o _).mono ?_;rintro e w' ⟨rfl,E⟩)
 all_goals
  go_ret;refine⟨D8 ?_,E⟩;go_light;simp_all [Cf,BJ]
  try omega
def Below.next{w W B:AA}(A:Below w w W)(C:Below W W B):Below w w B:=A.trans (C.mono A.size)
def Below.boxed{w A:AA}{o:Obj}(h:Below (w.alloc o).heap.size (w.alloc o) A):Below w w A:=
 ((AN _ _).alloc AK _).trans (h.mono AH)
section
variable{f:Bm}
def RU(f:Bm):Prop:=0<=f.B9/\f.B9<=5/\1<=f.num/\f.num<=999/\1<=f.BB/\f.BB<=99/\1<=f.per/\f.per<=99/\0<=f.fr/\f.fr<f.BR/\f.BR<=73049
def yJ(A:¬RU f):false=BY f:=by
 refine Eq.symm (Tl.2 λB=>A ?_);simp only[BY,BJ,G0,At,CJ] at B;unfold RU;omega
def yI(A:(CF f.kind).isEmpty=true):false=BY f:=by simp[BY,A]
def iy(A:MF f=false):false=BY f:=by simp[BY,A]
def yM(h:RU f)(G:(CF f.kind).isEmpty=false)(F:MF f=true):BY f =
 (Cf (IG f.kind 83) f.st 0 5&&Cf (IG f.kind 84) f.seat 0 5&&Cf (IG f.kind 72) f.share 1 100&&Cf (IG f.kind 67) f.cur 1 999&&Cf (IG f.kind 65) f.Cm 0 1000000000&&Cf (IG f.kind 82) f.ref 1 99):=by
 unfold RU at h;have A:BJ f.B9 0 5=true:=OS;have B:BJ f.num 1 999=true:=OS;have C:BJ f.BB 1 99=true:=OS;have D:BJ f.per 1 99=true:=OS;have E:G0 f.fr f.BR=true:=xA;have u1:IG f.kind 83=Ds f.kind 83:=rfl;have u2:IG f.kind 84=Ds f.kind 84:=rfl;have u3:IG f.kind 72=Ds f.kind 72:=rfl;have u4:IG f.kind 67=Ds f.kind 67:=rfl;have u5:IG f.kind 65=Ds f.kind 65:=rfl;have u6:IG f.kind 82=Ds f.kind 82:=rfl;simp[BY,G,F,A,B,C,D,E,u1,u2,u3,u4,u5,u6]
def ai(B C H:Int)(I:Bool)(J K L M N O D E F G:Int)(w:AA):
 AI 374 #[.agg #[B,C,H,I,J,K,L,M,N,O,D,E,F,G]] w
  λe Q=>e=.returned (.bool (BY ⟨B,C,H,I,J,K,L,M,N,O,D,E,F,G⟩))/\Below w w Q:=by
 go_in;go_wp2_with (first
  | (go_at_call 84;refine(QT _ _).mono ?_;rintro e V ⟨rfl,P⟩;obtain⟨R,T⟩:=Ra P)
  | (go_at_call 380;refine(ABc _ _ _ _ _ _ AD AD).mono ?_;rintro e W ⟨rfl,A⟩;replace A:=Below.next (by assumption) A;obtain⟨S,U⟩:=Ra A))
 all_goals
  go_ret;refine⟨D8 ?_,by first|exact Below.boxed (by assumption)|exact(AN _ _).alloc AK _⟩;go_light;first
   | (refine yJ ?_;simp only[RU];omega)
   | (refine yI ?_;simp_all [Dc];done)
   | (refine iy ?_;simp only[MF];simp_all;done)
   | (refine iy ?_;simp only[MF];simp_all;omega)
   | (rw[yM (by simp only[RU];omega) (by simp_all [Dc]) (by simp only[MF];simp_all;try omega)];simp_all;done)
end
def NW(x B A:Int)(w:AA):
 AI 242 #[x,B,A] w (BX (.bool (BJ x B A)) w):=by
 exact YH
def Iu(x B A:Int)(w:AA):
 AI 202 #[x,B,A] w (BX (.bool (BJ x B A)) w):=by
 exact YH
def jD(x:Int)(w:AA):
 AI 109 #[x] w (BX (.bool (BJ x 0 73048)) w):=by
 exact YH
def Od(x:Int)(w:AA):
 AI 110 #[x] w (BX (.bool (BJ x 0 2399)) w):=by
 exact YH
def Lm(A B C D E F:Int):Bool:=BJ A 0 5&&BJ B 1 999&&BJ C 1 99&&BJ D 1 5&&BJ E 0 99&&BJ F 0 73048
def yR(A B C D E F:Int)(w:AA):AI 356 #[.agg #[A,B,C,D,E,F]] w (Bz (.bool (Lm A B C D E F)) w):=by
 have AC:Hid (Lm A B C D E F=(BJ A 0 5&&BJ B 1 999&&BJ C 1 99&&BJ D 1 5&&BJ E 0 99&&BJ F 0 73048)):=rfl;exact YR
def LJ(A B C:Int):Bool:=BJ A 1 99&&BJ B 0 2399&&BJ C 0 1000000000000
def yG(A B C:Int)(w:AA):AI 357 #[.agg #[A,B,C]] w (Bz (.bool (LJ A B C)) w):=by
 have AC:Hid (LJ A B C=(BJ A 1 99&&BJ B 0 2399&&BJ C 0 1000000000000)):=rfl;exact YR
def LK(A B C D E F:Int):Bool:=BJ A 0 5&&BJ B 1 99&&BJ C 0 2399&&BJ D 1 999&&BJ E 1 1000000000000&&BJ F 1 1000000000000
def yH(A B C D E F:Int)(w:AA):AI 358 #[.agg #[A,B,C,D,E,F]] w (Bz (.bool (LK A B C D E F)) w):=by
 have AC:Hid (LK A B C D E F=(BJ A 0 5&&BJ B 1 99&&BJ C 0 2399&&BJ D 1 999&&BJ E 1 1000000000000&&BJ F 1 1000000000000)):=rfl;exact YR
def LR(A B C D:Int):Bool:=BJ A 1 99&&BJ B 0 2399&&BJ C 0 1000000000000&&BJ D (-1000000000000) 1000000000000
def yL(A B C D:Int)(w:AA):AI 359 #[.agg #[A,B,C,D]] w (Bz (.bool (LR A B C D)) w):=by
 have AC:Hid (LR A B C D=(BJ A 1 99&&BJ B 0 2399&&BJ C 0 1000000000000&&BJ D (-1000000000000) 1000000000000)):=rfl;exact YR
section
open Go.ChangeShapes Go.WideShapes Go.ChangeAt Go.RowKit Go.Deep
variable{n off:Nat}{t:TypeId}{cs:List AB}
def AEZ:ownKnob prog.godebug=none:=AF
def lf:prog.cellsOf 3=1:=AF
def AEu:prog.cellsOf 4=1:=AF
section
variable {H:Type} {enc:TypeId × AB->H} {w:AA} {base:Nat} {spare:Nat->Bool} {held:Bool}
def GG{y:Option (DataW H × List MemPlace)}{D:DataW H × List MemPlace}(B:t=3)
 (h:DataW.trod enc prog w base spare held n t ((cs.drop off).take (prog.cellsOf t))=y)(C:y=some D):∃x:Int,cs[off]? = some (x:AB)/\(Lit.int .i64 x).wf=true:=by
 subst B C;obtain⟨x,A,_,hw⟩:=DataW.trod_int underlying3 h;rw[lf] at A;refine⟨x,?_,hw⟩;have:((cs.drop off).take 1)[0]? = some (x:AB):=by rw[A];rfl
 exact E_
def AHu{y:Option (DataW H × List MemPlace)}{D:DataW H × List MemPlace}(B:t=4)
 (h:DataW.trod enc prog w base spare held n t ((cs.drop off).take (prog.cellsOf t))=y)(C:y=some D):∃x:Bool,cs[off]? = some (.bool x):=by
 subst B C;obtain⟨x,A,_⟩:=DataW.trod_bool underlying4 h;rw[AEu] at A;refine⟨x,?_⟩;have:((cs.drop off).take 1)[0]? = some (.bool x):=by rw[A];rfl
 exact E_
def AHC{x:Int}(h:(Lit.int .i64 x).wf=true): -9223372036854775808<=x/\x<=9223372036854775807:=by
 exact qd
def Ed{α:Type}{l:List α}{i:Nat}(A:i<l.length):∃y,l[i]? = some y:=⟨_,BL A⟩
end
end
inductive Pl where
 | nil
 | q (i:Nat) (r:Pl)
 | l (i:Nat) (r:Pl)
 | f (i j:Nat) (r s:Pl)
def Pl.len:Pl->Nat
 | .nil=>0
 | .q _ r=>r.len+1
 | .l _ r=>r.len+1
 | .f _ _ r _=>r.len+1
inductive Ii where
 | nil
 | bad
 | q (o:Oper) (r:Ii)
 | l (o:Oper) (r:Ii)
 | f (o p:Oper) (r s:Ii)
def Pl.ops(l:List Oper):Pl->Ii
 | .nil=>.nil
 | .q i r=>match l[i]? with|some o=>.q o (r.ops l)|none=>.bad
 | .l i r=>match l[i]? with|some o=>.l o (r.ops l)|none=>.bad
 | .f i j r s=>match l[i]?,l[j]? with|some o,some p=>.f o p (r.ops l) (s.ops l)|_,_=>.bad
def Pl.okB(ops:Array Oper):Pl->Array Bool->Bool
 | .nil,listed=>(Region.ready .any ops listed).isEmpty
 | .q i r,listed=>(Region.ready .any ops listed).contains i&&Region.free .any ops listed i&&(match ops[i]? with|some o=>Oo o.op|none=>false)&&r.okB ops (listed.setIfInBounds i true)
 | .l i r,listed=>Region.ready .any ops listed==[i]&&r.okB ops (listed.setIfInBounds i true)
 | .f i j r s,listed=>Region.ready .any ops listed==[i,j]&&r.okB ops (listed.setIfInBounds i true)&&s.okB ops (listed.setIfInBounds j true)&&r.len==s.len
section
variable {P:Program} {ops:Array Oper} {Q:Exit->Act->AA->Prop}
def Ep(P:Program)(ops:Array Oper)(Q:Exit->Act->AA->Prop):Ii->Nat->Act->AA->Prop
 | .nil,_,a,w=>Q .normal a w
 | .bad,_,_,_=>False
 | .q o r,B,a,w=>wpQuiet P ops (C9 B w) (λD=>Ep P ops Q r B D w) [o] a
 | .l o r,B,a,w=>if Region.wanted o (yielded ops a.tmps) then o.wp P a w (λD C=>∃A,B<=A/\Below B w C/\Ep P ops Q r A D C) Q else Ep P ops Q r B (a.put o.dst undef) w
 | .f o p r s,B,a,w=>
  (if Region.wanted o (yielded ops a.tmps) then o.wp P a w (λD C=>∃A,B<=A/\Below B w C/\Ep P ops Q r A D C) Q else Ep P ops Q r B (a.put o.dst undef) w)/\
  (if Region.wanted p (yielded ops a.tmps) then p.wp P a w (λD C=>∃A,B<=A/\Below B w C/\Ep P ops Q s A D C) Q else Ep P ops Q s B (a.put p.dst undef) w)
def Z9{l:List Oper}{i:Nat}{o:Oper}{A:Nat}{C:Array Bool}{B:Nat}{a:Act}{w:AA}{r:Ii}(D:l.toArray[i]? = some o)
 (ih:∀B' a' w',Ep P l.toArray Q r B' a' w'->wpAnyH P .any l.toArray Q (C9 B' w') A (C.setIfInBounds i true) a' w')
 (h:if Region.wanted o (yielded l.toArray a.tmps) then o.wp P a w (λa' w'=>∃B',B<=B'/\Below B w w'/\Ep P l.toArray Q r B' a' w') Q else Ep P l.toArray Q r B (a.put o.dst undef) w):
 wpOp P l.toArray Q i (λa' w'=>C9 B w w'/\wpAnyH P .any l.toArray Q (C9 B w) A (C.setIfInBounds i true) a' w') a w:=by
 unfold wpOp;rw[D];exact sr
def xz{l:List Oper}(V:Region.noSelect l.toArray=true)(hQ:∀c a (d:Tmp) v w,Q (.panic c) (Act.put a (some d) v) w->Q (.panic c) a w):
 ∀(p:Pl) (D:Array Bool) (B:Nat) (a:Act) (w:AA),p.okB l.toArray D=true->Ep P l.toArray Q (p.ops l) B a w->wpAnyH P .any l.toArray Q (C9 B w) p.len D a w:=by
 intro p;induction p with
 | nil=>intro D B a w A h;exact wpAnyH_done (by simpa[Pl.okB] using A) h _
 | q C r I=>
  intro D B a w A h;simp only[Pl.okB,At] at A;obtain⟨⟨⟨U,O⟩,J⟩,F⟩:=A;cases ho:l[C]? with
  | none=>simp only[Pl.ops,ho] at h;exact h.elim
  | some o=>
   have hi':l.toArray[C]? = some o:=L9;simp only[hi'] at J;simp only[Pl.ops,ho,Ep] at h;have T:qOp P l.toArray (C9 B w) C (λa'=>Ep P l.toArray Q (r.ops l) B a' w) a:=by
    exact Lo
   obtain⟨v,W,M⟩:=Le hi' T;have N:∀c a w,Q (.panic c) (Act.put a o.dst v) w->Q (.panic c) a w:=by
    exact Lt
   exact wpAnyH_take hi' V O U N (Z5 J W) (C9.self B w) (I _ B _ w F M)
 | l C r I=>
  intro D B a w A h;simp only[Pl.okB,At,C7] at A;obtain⟨H,F⟩:=A;cases ho:l[C]? with
  | none=>simp only[Pl.ops,ho] at h;exact h.elim
  | some o=>
   have hi':l.toArray[C]? = some o:=L9;simp only[Pl.ops,ho] at h;refine wpAnyH_all H AH λG hj=>?_;obtain rfl:G=C:=P0;exact Z9 hi' (λE a' w' hh=>I _ E a' w' F hh) h
 | f C G r s X Y=>
  intro D B a w A h;simp only[Pl.okB,At,C7] at A;obtain⟨⟨⟨H,F⟩,L⟩,S⟩:=A;cases ho:l[C]? with
  | none=>simp only[Pl.ops,ho] at h;exact h.elim
  | some o=>
   cases hp:l[G]? with
   | none=>simp only[Pl.ops,ho,hp] at h;exact h.elim
   | some p=>
    have hi':l.toArray[C]? = some o:=L9;have R:l.toArray[G]? = some p:=P6;simp only[Pl.ops,ho,hp] at h;refine wpAnyH_all H AH λZ K=>?_;simp only[Aj,A',A_] at K;rcases K with rfl|rfl
    .exact Z9 hi' (λE a' w' hh=>X _ E a' w' F hh) h.1
    .exact Z9 R (λE a' w' hh=>by have:=Y _ E a' w' L hh;rw[<-S] at this;exact this) h.2
def iT{id:Nat}{a:Act}{w:AA}{l:List Oper}(p:Pl)(B:Nat)(E:P.follows .mixedOrders=true)(F:Region.noSelect l.toArray=true)
 (D:p.len=l.toArray.size)(A:p.okB l.toArray (Array.replicate l.toArray.size false)=true)
 (C:∀c a (d:Tmp) v w,Q (.panic c) (Act.put a (some d) v) w->Q (.panic c) a w)
 (h:Ep P l.toArray Q (p.ops l) B a w.drew):(Code.region id l.toArray true).wp P Q a w:=by
 refine wp_region_held (S:=C9 B w.drew) E ?_;have:=xz F C p (Array.replicate l.toArray.size false) B a w.drew A h;rw[D] at this;exact D2
section
variable {B:Nat} {o p:Oper} {r s:Ii} {a:Act} {w:AA}
def ADr(C:wpQuiet P ops (λD=>∃y:Iq B w,D=y.x) (λA=>Ep P ops Q r B A w) [o] a):Ep P ops Q (.q o r) B a w:=C
def ADs(hw:Region.wanted o (yielded ops a.tmps)=true)
 (D:∀K:Act->AA->Prop,(∀C A B',B<=B'->Below B w A->Ep P ops Q r B' C A->K C A)->o.wp P a w K Q):Ep P ops Q (.l o r) B a w:=by
 simp only[Ep,hw,CI];exact D _ λ_ _ B' E F G=>⟨B',E,F,G⟩
def bH(A:Ep P ops Q (.l o r) B a w)(C:Ep P ops Q (.l p s) B a w):Ep P ops Q (.f o p r s) B a w:=⟨A,C⟩
def WB(A:Q .normal a w):Ep P ops Q .nil B a w:=A
end
attribute [irreducible] Ep
end
section
open Go.ChangeMaps Go.MapKept Go.WideShapes
open Go.Maps (Keyed IsMap Tidy)
variable{t e:TypeId}
def PK(v:AB):Option (DataW AB × List MemPlace):=some (.held v,[])
def DQ(w:AA)(P:Program)(k:TypeId)(b n:Nat)(F:AB->Option AB):Prop:=
 ∃A:DataW AB,w.ownsMap P k PK b n A/\∀key B,keyOf P k key=some B->∀C,A.atKey B C=(match F key with|some v=>.held v|none=>C)
section
variable {P:Program} {k:TypeId} {w:AA} {b n:Nat} {F:AB->Option AB}
def DQ.made(w:AA)(P:Program)(k:TypeId):DQ (w.alloc (.map #[] 0)) P k w 0 (λ_=>none):=
 ⟨.map [],World.ownsMap_made w P k PK,λ_ _ _ _=>rfl⟩
def DQ.mono(C:DQ w P k b n F){A:Nat}(G:n<=A):DQ w P k b A F:=by
 obtain⟨B,D,E⟩:=C;exact⟨B,D.mono G,E⟩
def DQ.lt(A:DQ w P k b n F):b<w.heap.size:=by
 obtain⟨C,B,D⟩:=A;exact B.lt
def DQ.keep(E:DQ w P k b n F){A:AA}(I:A.heap[b]? = w.heap[b]?):DQ A P k b n F:=by
 obtain⟨B,⟨D,C,H,J⟩,G⟩:=E;exact⟨B,⟨D,C,I.trans H,J⟩,G⟩
def DQ.isMap(C:DQ w P k b n F):∃B A,w.heap[b]? = some (.map B A):=by
 obtain⟨E,⟨B,A,D,H⟩,G⟩:=C;exact⟨B,A,D⟩
def DQ.look(h:DQ w P k b n F)(K:Keyed P k)(G:P.underlying t=some (.map k e)){z:AB}(H:(zeroValue e).run P w=.ok z w){key:AB}{B:Lit}(A:keyOf P k key=some B):
 (Instr.lookup t (.map (some b)) key false).run P w=.ok ((F key).getD z) w:=by
 obtain⟨I,⟨M,J,E,C,N,rfl⟩,D⟩:=h;have h3:=D key B A;rcases Maps.fit_look false K G H E C A with ⟨hrun,_,hat⟩|⟨L,O,_,_,hrun,cj,hat,_⟩
 .exact rm
 .exact sT
def DQ.look_ok(h:DQ w P k b n F)(K:Keyed P k)(G:P.underlying t=some (.map k e)){z:AB}(H:(zeroValue e).run P w=.ok z w){key:AB}{B:Lit}(A:keyOf P k key=some B):
 (Instr.lookup t (.map (some b)) key true).run P w=.ok (.tuple #[(F key).getD z,.bool (F key).isSome]) w:=by
 obtain⟨I,⟨M,J,E,C,N,rfl⟩,D⟩:=h;have h3:=D key B A;rcases Maps.fit_look true K G H E C A with ⟨hrun,_,hat⟩|⟨L,O,_,_,hrun,cj,hat,_⟩
 .exact rm
 .exact sT
def DQ.store(H:DQ w P k b n F)(K:Keyed P k)(T:P.underlying t=some (.map k e))(O:n<maxLen){key val:AB}{E:Lit}(B:keyOf P k key=some E)
 {F':AB->Option AB}(I:F' key=some val)(J:∀x,x≠key->F' x=F x):
 ∃A,(Instr.mapUpdate t (.map (some b)) key val).run P w=.ok () A/\DQ A P k b (n+1) F'/\w.grownBy A (some b):=by
 obtain⟨V,D,L⟩:=H;obtain⟨A,S,R,N⟩:=D.update K T O B (d:=.held val) (ps:=[]) rfl;refine⟨A,S,⟨_,R,λx G C U=>?_⟩,N⟩;by_cases e:x=key
 .subst e;rw[C] at B;cases B;rw[I];exact Maps.atKey_put_same D.isMap (K.key C) _ _
 .rw[J x e];have Q:G≠E:=λM=>by subst M;exact e (K.inj C B)
  rw[Maps.atKey_put_other Q];exact L x G C U
end
end
def IL(r d i:Nat):Nat:=r*10 ^ i%d
def H3(r d j:Nat):Nat:=IL r d j*10 / d
def I2(r d i:Nat):AE:=(List.range i).map λA=>UInt8.ofNat (48+H3 r d A)
def XT(r d i:Nat):I2 r d (i+1)=I2 r d i++[UInt8.ofNat (48+H3 r d i)]:=by
 simp[I2,List.range_succ]
def oB(r d i:Nat):(I2 r d i).length=i:=by simp[I2]
def kI(r d i:Nat)(A:1<=d):IL r d i<d:=Mi _ A
def dT(r d j:Nat)(A:1<=d):H3 r d j<10:=by
 unfold H3;have:=kI r d j A;rw[Nat.div_lt_iff_lt_mul A];omega
def ABe(r d i:Nat):IL r d (i+1)=IL r d i*10%d:=by
 unfold IL;rw[JB,<-Jy];simp
def kH(r d:Nat)(A:r<d):IL r d 0=r:=by simp[IL,Nat.mod_eq_of_lt A]
def ABf(r d i:Nat)(h:10000%d=0)(C:4<=i):IL r d i=0:=by
 unfold IL;obtain⟨A,rfl⟩:∃A,i=4+A:=⟨i-4,U⟩;obtain⟨c,B⟩:=O5 h;refine Nat.mod_eq_zero_of_dvd ⟨r*(c*10 ^ A),?_⟩;rw[Nat.pow_add,show(10 ^ 4:Nat)=10000 from rfl,B];simp only[Jy,Nat.mul_left_comm]
def AIh(r d i:Nat)(A:1<=d):(I2 r d i).all CD=true:=by
 induction i with
 | zero=>rfl
 | succ i B=>
  rw[XT,Ml,B,Ju,(UA _ (dT r d i A)).1];rfl
def AIg(r d i:Nat)(B:1<=d)(D:r<d):Cc (I2 r d i)=r*10 ^ i / d:=by
 induction i with
 | zero=>simp[I2,Cc,Nat.div_eq_of_lt D]
 | succ i E=>
  rw[XT,aJ,E,(UA _ (dT r d i B)).2.1];unfold H3 IL;rw[JB,<-Jy];generalize r*10 ^ i=A;have F:=Nat.div_add_mod A d;have C:A*10=(A%d)*10+d*(A / d*10):=by
   have:d*(A / d*10)=d*(A / d)*10:=by rw[Jy]
   omega
  conv=>rhs;rw[C]
  rw[Nat.add_mul_div_left _ _ B];omega
def QN(A:Int):AE:=if A=3 then [100] else if A=4 then [109] else []
def UH(n d k:Nat):AE:=BG (n / d)++(if k=0 then [] else 46::I2 (n%d) d k)
def Sc(n d k:Nat)(A:Int):AE:=UH n d k++QN A
def n_(n:Nat)(h:n<=999999999):P4 (BG n)/\Cc (BG n)=n:=by
 exact rY
def oL(l:AE)(A:Int)(I:2<=A/\A<=4)(H:∃x c,l=x++[c]/\CD c=true):DO (l++QN A)=(l,A):=by
 unfold QN;by_cases C:A=3
 .rw[Ab C,oO,C]
 .rw[AU C];by_cases D:A=4
  .rw[Ab D,oM,D]
  .rw[AU D,El];obtain rfl:A=2:=U;obtain⟨x,c,rfl,G⟩:=H;obtain⟨_,_,_,E,F⟩:=RQ c G;simp only[DO,List.getLast?_append,List.getLast?_singleton];split
   .rename_i B;cases B;exact absurd rfl E
   .rename_i B;cases B;exact absurd rfl F
   .rfl
def mU(l:AE)(D:l.all CD=true)(B:1<=l.length):∃x c,l=x++[c]/\CD c=true:=by
 have A:l≠[]:=by intro C;rw[C] at B;simp at B
 refine⟨l.dropLast,l.getLast A,(List.dropLast_concat_getLast A).symm,?_⟩;exact List.all_eq_true.mp D _ (List.getLast_mem A)
def AEL(s a b:AE)(C:Int)(L:DO s=(a++46::b,C))(ha:P4 a)(J:b.all CD=true)(Q:1<=b.length)(R:b.length<=4):G3 s=some (a,b,C):=by
 obtain⟨N,O,P⟩:=ny a ha.all;have M:(a++46::b).takeWhile B4=a:=by
  rw[List.takeWhile_append_of_pos (λc A=>(RQ c (List.all_eq_true.mp ha.all c A)).2.1)];have:B4 46=false:=AD;rw[Qx,this];simp
 have K:(a++46::b).dropWhile B4=46::b:=by
  rw[List.dropWhile_append_of_pos (λc A=>(RQ c (List.all_eq_true.mp ha.all c A)).2.1)];have:B4 46=false:=AD;rw[Tg,this];simp
 have H:(decide (1<a.length)&&a.head? == some 48)=false:=by
  by_cases B:1<a.length
  .have:=ha.head B;simp[B,this]
  .simp[B]
 have D:decide (a.length<1)=false:=by have:=ha.lo;rw[PQ];omega
 have E:decide (9<a.length)=false:=by have:=ha.hi;rw[PQ];omega
 have F:decide (b.length<1)=false:=w5;have G:decide (4<b.length)=false:=w5;have I:(a++b).all CD=true:=by rw[Ml,ha.all,J];rfl
 simp only[G3,L,M,K,Qz,Nh,I,H,D,E,F,G,Np,Bool.and_false,DW,DV,Tj]
def jF(a b:AE):Cc (a++b)=Cc a*10 ^ b.length+Cc b:=by
 have C:∀(b:AE) (A:Nat),b.foldl (λA c=>A*10+(c.toNat-48)) A=A*10 ^ b.length+b.foldl (λA c=>A*10+(c.toNat-48)) 0:=by
  intro b;induction b with
  | nil=>intro A;simp
  | cons c b B=>
   intro A;rw[Fh,Fh,B,B (0*10+(c.toNat-48)),CB,JB];rw[Kj,Jy,Nq 10 (10 ^ b.length),O6,DP];omega
 unfold Cc;rw[RD,C]
def AF1(n d k m:Nat)(I:1<=d)(C:Nat.gcd n d=1)(D:m*d=n*10 ^ k):B8 m (10 ^ k)=⟨(n:Nat),(d:Nat)⟩:=by
 have J:d∣10 ^ k:=by
  have H:d∣n*10 ^ k:=⟨m,by rw[<-D,Nq]⟩;exact Nat.Coprime.dvd_of_dvd_mul_left (Nat.Coprime.symm C) H
 obtain⟨A,B⟩:=J;have F:0<10 ^ k:=Nat.pow_pos AD;have G:0<A:=by
  rcases A with _|A
  .rw[B] at F;simp at F
  .omega
 have E:m=n*A:=by
  have:m*d=n*A*d:=by rw[D,B,Jy,Nq A d]
  exact Nat.eq_of_mul_eq_mul_right I this
 have K:Nat.gcd (10 ^ k) m=A:=by
  rw[B,E,Nat.gcd_mul_right,Nat.gcd_comm d n,C,Nf]
 unfold B8;rw[K,E,B,WY _ G,WY _ G]
def AHs(n d k:Nat)(A:Int)(C:1<=d)(K:Nat.gcd n d=1)(S:n / d<=999999999)(J:2<=A/\A<=4)(G:IL (n%d) d k=0)(W:k<=4):Ff (Sc n d k A)=some (⟨(n:Nat),(d:Nat)⟩,A):=by
 obtain⟨D,N⟩:=n_ (n / d) S;have M:n%d<d:=Mi _ C;rcases k with _|k
 .rw[kH _ _ M] at G;have Q:d=1:=by
   have E:d∣n:=O5 G;have B:d∣Nat.gcd n d:=Nat.dvd_gcd E (Nat.dvd_refl d);rw[K] at B;exact Nat.dvd_one.mp B
  subst Q;have F:=oL (BG (n / 1)) A J (mU _ D.all D.lo);have H:=bR _ _ A F D;have R:Sc n 1 0 A=BG (n / 1)++QN A:=by simp[Sc,UH]
  rw[R];unfold Ff;rw[H];simp only[El,EE,Nat.pow_zero];rw[N,mH,Nat.div_one];rfl
 .have I:=AIh (n%d) d (k+1) C;have L:=oB (n%d) d (k+1);have O:UH n d (k+1)=BG (n / d)++46::I2 (n%d) d (k+1):=by simp[UH]
  obtain⟨V,c,T,P⟩:=mU _ I U;have F:=oL (BG (n / d)++46::I2 (n%d) d (k+1)) A J ⟨BG (n / d)++46::V,c,by rw[T];simp,P⟩;have H:=AEL _ _ _ A F D I U U;unfold Sc;rw[O];unfold Ff;rw[H];simp only[L];rw[jF,N,L,AIg _ _ _ C M];rw[AF1 n d (k+1) _ C K];have E:=Nat.div_add_mod n d;have B:(n%d)*10 ^ (k+1) / d*d=(n%d)*10 ^ (k+1):=Nat.div_mul_cancel (O5 G);rw[Kj,B];conv=>rhs;rw[<-E]
  rw[Kj,Jy,Nq (10 ^ (k+1)) d,<-Jy,Nq (n / d) d]
section
variable{y m:Nat}{op:Int}{a b:AY}{s:AE}
def AHy:∀d,d<=5->d∣5->d=1\/d=5:=AD
def yk:∀d,d<=2->d∣2->d=1\/d=2:=AD
def AJG(g k:Nat)(h:g∣10 ^ k)(F:¬2∣g)(G:¬5∣g):g=1:=by
 have C:Nat.Coprime g 2:=by
  rcases yk _ (Tf AD (RF g 2)) (RF g 2) with A|A
  .exact A
  .exact absurd (by have:=Tq g 2;rwa [A] at this) F
 have D:Nat.Coprime g 5:=by
  rcases AHy _ (Tf AD (RF g 5)) (RF g 5) with A|A
  .exact A
  .exact absurd (by have:=Tq g 5;rwa [A] at this) G
 have B:Nat.Coprime g (2*5):=Nat.Coprime.mul_right C D;have E:Nat.Coprime g (10 ^ k):=Nat.Coprime.pow_right k B;exact Nat.Coprime.eq_one_of_dvd E h
def Io(m p x y:Nat):Prop:=∃c,m=x*c/\p=y*c
def Io.refl(m p:Nat):Io m p m p:=⟨1,AH,AH⟩
def Io.step{p x d:Nat}(A:Io m p x y)(D:x%d=0)(E:y%d=0):Io m p (x / d) (y / d):=by
 obtain⟨c,B,C⟩:=A;refine⟨d*c,?_,?_⟩
 .rw[<-Jy,Nat.div_mul_cancel (O5 D),B]
 .rw[<-Jy,Nat.div_mul_cancel (O5 E),C]
def Io.pos{p x:Nat}(B:Io m p x y)(A:0<p):0<y:=by
 obtain⟨c,_,C⟩:=B;rcases y with _|y
 .rw[C] at A;simp at A
 .omega
def Io.le{p x:Nat}(D:Io m p x y)(C:0<p):x<=m/\y<=p:=by
 obtain⟨c,E,A⟩:=D;have B:0<c:=by
  rcases c with _|c
  .rw[A] at C;simp at C
  .omega
 exact⟨by rw[E];exact cI x B,by rw[A];exact cI y B⟩
def Pp(x y:Nat):Prop:=¬(x%2=0/\y%2=0)
def vA(x y:Nat):Prop:=¬(x%5=0/\y%5=0)
def Pp.fifth{x:Nat}(h:Pp x y)(A:x%5=0)(B:y%5=0):Pp (x / 5) (y / 5):=by
 intro ⟨h1,h2⟩;exact h ⟨U,U⟩
def AF2(m p k x y:Nat)(D:p=10 ^ k)(h:Io m p x y)(F:Pp x y)(G:vA x y):B8 m p=⟨(x:Nat),(y:Nat)⟩:=by
 have E:0<p:=by rw[D];exact Nat.pow_pos AD
 obtain⟨c,B,A⟩:=h;have C:0<c:=by
  rcases c with _|c
  .rw[A] at E;simp at E
  .omega
 have H:Nat.gcd y x=1:=by
  refine AJG _ k ?_ (λhd=>F ?_) (λhd=>G ?_)
  .rw[<-D,A];exact Nat.dvd_trans (Tq y x) ⟨c,rfl⟩
  .exact qC
  .exact qC
 have I:Nat.gcd p m=c:=by rw[B,A,Nat.gcd_mul_right,H,Nf]
 unfold B8;rw[I,B,A,WY _ C,WY _ C]
def mr{B:Env}{x:Int}(C:C5 B (.un op a)=some x):∃d,C5 B a=some d/\NL op d=x/\x≠0:=by
 simp only[C5,cH] at C;obtain⟨d,D,A⟩:=C;split at A
 .cases A
 .rename_i E;cases A;exact⟨d,D,rfl,E⟩
def mw{A:Env}{x:Int}(C:C5 A (.bin op a b)=some x):∃d e,C5 A a=some d/\C5 A b=some e/\NK op d e=x/\x≠0:=by
 simp only[C5,cH] at C;obtain⟨d,D,e,E,B⟩:=C;split at B
 .cases B
 .rename_i F;cases B;exact⟨d,e,D,E,rfl,F⟩
def mv{A:Env}{x:Int}{c:AY}(C:C5 A (.ite c a b)=some x):C5 A c=some 1/\C5 A a=some x/\C5 A b=some x/\x≠0:=by
 simp only[C5,cH] at C;obtain⟨I,D,J,E,K,F,B⟩:=C;split at B
 .rename_i G;cases B;obtain⟨rfl,rfl,H⟩:=G;exact⟨D,E,F,H⟩
 .cases B
def AF6(l:Env)(i:Nat)(p:AE × Int)(s:AE)(B:l[i]? = some p):(l.take (i+1)).reverse.lookup s=if s==p.1 then some p.2 else (l.take i).reverse.lookup s:=by
 rw[Mk,B];simp only[Option.toList_some,List.reverse_append,List.reverse_cons,List.reverse_nil,Dg,DC,List.lookup];split<;>rename_i A<;>simp[A]
def bz(l:Ay)(h:distinct l=true):∀(i j:Nat) (x y:Int),i<j->l[i]? = some x->l[j]? = some y->x≠y:=by
 induction l with
 | nil=>intro i j x y _ A;cases A
 | cons a F D=>
  unfold distinct at h;simp only[At,Ni] at h;intro i j x y E A B;rcases j with _|j
  .omega
  rw[Bt] at B;rcases i with _|i
  .rw[A8] at A;cases A;intro C;subst C;have:=List.contains_iff_mem.2 (Bu B);rw[this] at h;cases h.1
  .rw[Bt] at A;exact D h.2 i j x y U A B
def l6(l:Ay)(C:rising l=true):∀(i:Nat) (x y:Int),l[i]? = some x->l[i+1]? = some y->x<y:=by
 induction l with
 | nil=>intro i x y A;cases A
 | cons a D E=>
  intro i x y A B;rcases D with _|⟨b,D⟩
  .rw[Bt] at B;cases B
  unfold rising at C;simp only[At,CJ] at C;rcases i with _|i
  .cases A;cases B;exact C.1
  .rw[Bt] at A B;exact E C.2 i x y A B
structure eV(x:Ah)(env:Env):Prop where
 lets:G5 x.lets []=some env
 Ae:∀(i j:Nat) (a b:M7),i<j->x.Ae[i]? = some a->x.Ae[j]? = some b->a.kind≠b.kind
 Ad:∀(i:Nat) (a b:N3),x.Ad[i]? = some a->x.Ad[i+1]? = some b->a.year<b.year
 Ac:∀(i j:Nat) (a b:K9),i<j->x.Ac[i]? = some a->x.Ac[j]? = some b->a.CN≠b.CN
 red:∀(i j:Nat) (a b:Kx),i<j->x.red[i]? = some a->x.red[j]? = some b->a.CN≠b.CN
 nP:∀g∈x.Ac,Dk env g.cond 1=true/\Dk env g.pay 4=true
 kT:∀g∈x.red,Dk env g.H5 2=true
def jA{x:Ah}(h:ME x=true):∃D,eV x D:=by
 unfold ME at h;split at h
 .cases h
 .rename_i D M;simp only[At,DS] at h;obtain⟨⟨⟨⟨⟨G,H⟩,I⟩,J⟩,K⟩,L⟩:=h;refine⟨D,M,λA C a b B ha hb=>bz _ G A C _ _ B VH VG,
   λA a b ha hb=>l6 _ H A _ _ VH VG,
   λA C a b B ha hb=>bz _ I A C _ _ B VH VG,
   λA C a b B ha hb=>bz _ J A C _ _ B VH VG,
   λE F=>by simpa using K E F,λE F=>L E F⟩
structure ALn(x:CL):Prop where
 ok:KO x=true
 fr:∀(i:Nat) (a b:Ah),x.A0[i]? = some a->x.A0[i+1]? = some b->a.fr<b.fr
 A0:∀v∈x.A0,ME v=true
def aT{x:CL}(h:NH x=true):ALn x:=by
 unfold NH at h;simp only[At,DS] at h;exact⟨h.1.1,λA a b ha hb=>l6 _ h.1.2 A _ _ VH VG,h.2⟩
def l7{B:Env}{e:AY}{d:Int}(A:Dk B e d=true):e.BY=true/\C5 B e=some d:=by
 unfold Dk at A;simp only[At,C7] at A;exact A
def WS{x:Fm}{r:List Fm}{B D:Env}(A:G5 (x::r) B=some D):
 GE.lookup x.name=none/\FJ x.name=true/\B.any (λp=>p.1==x.name)=false/\x.body.BY=true/\∃d,C5 B x.body=some d/\G5 r (B++[(x.name,d)])=some D:=by
 unfold G5 at A;split at A
 .cases A
 .rename_i C;simp only[Ki,Ni,not_or,PA,Bool.not_eq_false,Option.isSome_eq_false_iff,Option.isNone_iff_eq_none] at C;obtain⟨⟨⟨C,E⟩,F⟩,G⟩:=C;split at A
  .rename_i d H;exact⟨C,E,F,G,d,H,A⟩
  .cases A
def Hq(B:Env):Prop:=∀A∈B,1<=A.2/\A.2<=4
def AG2(s:AE)(d:Int)(h:GE.lookup s=some d):1<=d/\d<=4:=by
 have A:(s,d)∈GE:=by
  have:∀(l:List (AE × Int)),l.lookup s=some d->(s,d)∈l:=by
   exact sk
  exact this _ h
 have:∀p∈GE,1<=p.2/\p.2<=4:=AD;exact this _ A
def AF8{d:Int}: ∀(l:Env),l.lookup s=some d->(s,d)∈l:=by
 exact sk
def AF_{B:Env}{d:Int}(A:Iz s B=some d)(C:Hq B):1<=d/\d<=4:=by
 unfold Iz at A;split at A
 .rename_i E D;cases A;exact AG2 s d D
 .exact C _ (by simpa using AF8 _ A)
def ABh{a:Int}(A:NL op a≠0)(ha:1<=a/\a<=4):1<=NL op a/\NL op a<=4:=by
 unfold NL at A ⊢;(repeat' split)<;>omega
def ABg{a b:Int}(A:NK op a b≠0)(ha:1<=a/\a<=4)(B:1<=b/\b<=4):1<=NK op a b/\NK op a b<=4:=by
 unfold NK at A ⊢;(repeat' split)<;>simp_all<;>omega
def my{G:Env}(I:Hq G):∀(e:AY) (d:Int),e.DG=true->C5 G e=some d->1<=d/\d<=4:=by
 intro e;induction e with
 | zero=>intro d _ A;cases A
 | lit N J=>
  intro d B A;simp only[C5,CW] at A;subst A;simp only[AY.DG,Ej,At,CJ] at B;omega
 | name s=>intro d _ A;exact AF_ A I
 | EY M=>intro d _ A;simp only[C5,CW] at A;omega
 | un op a ha=>
  intro d B A;simp only[AY.DG,At] at B;obtain⟨F,C,rfl,D⟩:=mr A;exact ABh D (ha F B.2 C)
 | bin op a b ha H=>
  intro d B A;simp only[AY.DG,At] at B;obtain⟨F,y,C,E,rfl,D⟩:=mw A;exact ABg D (ha F B.1.2 C) (H y B.2 E)
 | ite c a b L ha H=>
  intro d B A;simp only[AY.DG,At] at B;obtain⟨C,E,D,K⟩:=mv A;exact ha d B.1.2 E
def Hq.snoc{B:Env}{p:AE × Int}(C:Hq B)(D:1<=p.2/\p.2<=4):Hq (B++[p]):=by
 intro E A;rcases E1.1 A with A|A
 .exact C E A
 .simp only[Aj,A',A_] at A;subst A;exact D
def mM:∀(l:List Fm) (A C:Env),G5 l A=some C->C.length=A.length+l.length:=by
 intro l;induction l with
 | nil=>intro A C B;simp only[G5,CW] at B;subst B;rfl
 | cons H G E=>
  intro A C B;obtain⟨_,_,_,_,F,_,D⟩:=WS B;have:=E _ _ D;simp at this;simp only[CB];omega
def mN:∀(l:List Fm) (A D:Env),Hq A->G5 l A=some D->Hq D:=by
 intro l;induction l with
 | nil=>intro A D C B;simp only[G5,CW] at B;subst B;exact C
 | cons K J H=>
  intro A D C B;obtain⟨_,_,_,E,I,G,F⟩:=WS B;unfold AY.BY at E;simp only[At] at E;exact H _ _ (C.snoc (my C _ _ E.2 G)) F
end
section
variable{n:Nat}
def AIl(f:Nat):∀n,n<10 ^ f->0<f->Lib.decDigits n=Dm f n:=by
 induction f with
 | zero=>intro n _ h;omega
 | succ f C=>
  intro n hn _;by_cases A:n<=9
  .rw[Lib.decDigits,dif_pos U,Dm,Ab A]
  .have B:0<f:=by
    rcases f with _|f
    .simp at hn;omega
    .omega
   rw[Lib.decDigits,dif_neg U,Dm,AU A,C (n / 10) wB B]
def AIm(h:n<1000000000000):Lib.decDigits n=BG n:=AIl 20 n U AD
def AGy(h:n<1000000000000):Lib.itoa (n:Int)=BG n:=by
 unfold Lib.itoa;rw[AU U];simpa using AIm h
def m_:∀l:AE,Lib.index l [46]=if l.any (λc=>c==46) then ((l.takeWhile B4).length:Int) else -1
 | []=>rfl
 | b::l=>by
  have F:=m_ l;by_cases hb:b=46
  .subst hb;rfl
  .have A:(b==46)=false:=SJ;have B:((46:UInt8)==b)=false:=by simpa using λh=>hb h.symm
   have C:B4 b=true:=by unfold B4;rw[bne,A];rfl
   have D:List.isPrefixOf [46] (b::l)=false:=by
    simp only[List.isPrefixOf,B,Bool.false_and]
   unfold Lib.index;rw[D,F,Qy,A,No,Qx,C];cases ha:l.any (λc=>c==46) with
   | true=>
    have E:((((l.takeWhile B4).length:Nat):Int) == -1)=false:=Aw.2 U;simp only[CI,E,DW,DV];simp
   | false=>simp
def AIu(l:AE):Lib.cut l [46]=(l.takeWhile B4,(l.dropWhile B4).drop 1,l.any (λc=>c==46)):=by
 have A:=m_ l;have E:l.take (l.takeWhile B4).length=l.takeWhile B4:=by
  exact rJ
 have F:l.drop (l.takeWhile B4).length=l.dropWhile B4:=by
  exact rT
 cases ha:l.any (λc=>c==46) with
 | true=>
  rw[ha,Ab rfl] at A;unfold Lib.cut;rw[A];simp only[Kp,CI,Int.toNat_natCast,List.length_singleton,E];rw[<-F,I5]
 | false=>
  rw[ha] at A;simp only[DW,DV] at A;unfold Lib.cut;rw[A];have G:∀(l:AE),l.any (λc=>c==46)=false->l.takeWhile B4=l/\l.dropWhile B4=[]:=by
   intro l;induction l with
   | nil=>intro _;exact⟨rfl,rfl⟩
   | cons D l I=>
    intro h;rw[Qy,Bool.or_eq_false_iff] at h;have H:B4 D=true:=vv;obtain⟨B,C⟩:=I h.2;rw[Qx,Tg,H];simp[B,C]
  obtain⟨B,C⟩:=G l ha;rw[B,C];simp
end
