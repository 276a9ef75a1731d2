import Derived.Test.YtcpcgpbohiineaaGreatDoorY08
namespace Go.Proofs.YtcpcgpbohiineaaGreatDoor
open Go.RowKit Go.Proofs.Tryz
set_option linter.all false
set_option maxRecDepth 100000
set_option maxHeartbeats 4000000
section
open Go.Maps (Keyed)
variable{w':AA}
def M4(e:A6)(u:List AB):Prop:=u=[.int .i64 e.m,.int .i64 e.k,.int .i64 e.w,.int .i64 e.n,.int .i64 e.a]
def M4.len{e:A6}{u:List AB}(h:M4 e u):u.length=5:=M5
structure hP(e:A6):Prop where
 m:0<=e.m/\e.m<=1099511627776
 k:0<=e.k/\e.k<=1099511627776
 w:0<=e.w/\e.w<=1099511627776
 n:0<=e.n/\e.n<=1099511627776
 a:0<=e.a/\e.a<=1099511627776
def Jz(E:List A6)(key:AB):Option AB:=match key with
 | .agg ⟨[.int .i64 a,.int .i64 b,.int .i64 c]⟩=>if E.countP (Df a b c)=0 then none else some (.int .i64 (E.countP (Df a b c):Int))
 | _=>none
def oV(E:List A6)(a b c:Int):Jz E (Kc a b c)=if E.countP (Df a b c)=0 then none else some (.int .i64 (E.countP (Df a b c):Int)):=rfl
def oW(E:List A6)(a b c:Int):(Jz E (Kc a b c)).getD ()=.int .i64 (E.countP (Df a b c):Int):=by
 rw[oV];split
 .rename_i A;rw[A];rfl
 .rfl
def AJL(E:List A6)(a b c:Int):decide ((0:Int)<(E.countP (Df a b c):Int))=FM a b c E:=by
 unfold FM;cases h:E.any (Df a b c) with
 | true=>
  have:=Nl.1 h;have:0<E.countP (Df a b c):=List.countP_pos_iff.2 this;exact CA U
 | false=>
  have:E.countP (Df a b c)=0:=List.countP_eq_zero.2 λB A=>by have:=Wc.1 h B A;simpa using this
  rw[this];rfl
def AJK(E:List A6)(e:A6):Jz (E++[e]) (Kc e.k e.w e.n)=some (.int .i64 ((E.countP (Df e.k e.w e.n):Int)+1)):=by
 have:Df e.k e.w e.n e=true:=by simp[Df]
 rw[oV,List.countP_append];simp[this]
def AJJ(E:List A6)(e:A6)(x:AB)(D:x≠Kc e.k e.w e.n):Jz (E++[e]) x=Jz E x:=by
 unfold Jz;split
 .rename_i A B c;have:Df A B c e=false:=by
   cases C:Df A B c e with
   | false=>rfl
   | true=>
    simp only[Df,At,C7] at C;obtain⟨rfl,rfl,rfl⟩:=C;exact absurd rfl D
  rw[List.countP_append];simp[this]
 .rfl
def EV(v:AB):List Nat:=match v.ownBlock with|some g=>[g]|none=>[]
def KY{v:AB}{g:Nat}: g∈EV v↔v.ownBlock=some g:=by
 unfold EV;cases v.ownBlock<;>simp[eq_comm]
structure HR(w:AA)(ab BV:Nat)(Ce:AB)(E:List A6):Prop where
 blk:AG w ab 231 #[Ce,.map (some BV),.int .i64 (D7 E)]
 row:AS 0 w 167 5 M4 E Ce
 map:DQ w prog 234 BV E.length (Jz E)
def HR.kept{w:AA}{ab BV:Nat}{Ce:AB}{E:List A6}{S:List Nat}(h:HR w ab BV Ce E)(hk:AP S w w')(A:ab∉S)(h2:BV∉S)(B:∀g,Ce.ownBlock=some g->g∉S):HR w' ab BV Ce E:=by
 obtain⟨I,G,H⟩:=h.row;exact⟨h.blk.kept hk A,⟨I,G,WF H hk (λF D C=>B F C.symm D)⟩,h.map.keep fq⟩
def HR.below{w:AA}{ab BV:Nat}{Ce:AB}{E:List A6}(h:HR w ab BV Ce E)(hb:Below w w w'):HR w' ab BV Ce E:=
 h.kept (S:=[]) CX N9 N9 (λ_ _ h=>by cases h)
def AER(w:AA):AI 116 #[] w λe w'=>e=.returned (.pointer (some ⟨w.heap.size+1,0,none⟩))/\w'=(w.alloc (.map #[] 0)).alloc (.cells #[AL,.map (some w),()] 231):=by
 exact qo
def HR.new(w:AA):HR ((w.alloc (.map #[] 0)).alloc (.cells #[AL,.map (some w),()] 231)) (w.heap.size+1) w AL []:=by
 refine⟨AG.newAt _ _ _ _ AH,AS.mt,?_⟩;have A:Jz []=λ_=>none:=by
  funext x
  unfold Jz;split<;>rfl
 rw[A];exact(DQ.made w prog _).keep (GI _ _ _ AH)
def ACt(k:Int)(w:AA):AI 119 #[k] w (BX (.int .i64 (if k=3 then -1 else 1)) w):=by
 by_cases h:k=3
 .subst h;exact FA
 .have A:(k==3)=false:=Aw.2 h;rw[AU h];exact FA
def Sz{x y:Bool}(A:x=true↔y=true):Ending.returned (.bool x)=.returned (.bool y):=by
 have:x=y:=Bool.eq_iff_iff.2 A;rw[this]
def Z4(u:AA):(zeroValue 3).run prog u=.ok () u:=AF
def AD6(w:AA)(ab BV:Nat)(Ce:AB)(E:List A6)(a b c:Int)(h:HR w ab BV Ce E)(C:Ec a)(D:Ec b)(F:Ec c):
 AI 118 #[.pointer ab,a,b,c] w (BX (.bool (FM a b c E)) w):=by
 have A:=h.map.look (Keyed.of_law cC) underlying229 (Z4 w) (mZ a b c C D F);rw[oW] at A;simp only[Kc] at A;have B:=O (AJL E a b c);obtain⟨G,H,I,J⟩:=h.blk.c3;generalize ((E.countP (Df a b c):Nat):Int)=K at *;go_in;go_wp2;go_ret;exact⟨congrArg (λb=>Ending.returned (.bool b)) B.o,rfl⟩
def ACg(e:A6)(w:AA):AI 117 #[.agg #[e.m,e.k,e.w,e.n,e.a]] w λC w'=>C=.returned (.bool (FN e))/\Below w w w':=by
 have Aq:Hid (FN e=true↔(0<=e.m/\e.m<=2399/\1<=e.a/\e.a<=1000000000000/\((e.k=1/\e.w=0/\e.n=0)\/((e.k=2\/e.k=3)/\0<=e.w/\e.w<6/\1<=e.n/\e.n<=999)))):=by
  unfold Hid;simp[FN]
 obtain⟨H,A,J,I,B⟩:=e;simp only at Aq ⊢;generalize FN ⟨H,A,J,I,B⟩=K at *;have D:A=1\/A=2\/A=3\/(¬A=1/\¬A=2/\¬A=3):=U;rcases D with rfl|rfl|rfl|⟨E,F,G⟩;rotate_right
 .have L:=Aw.2 E;have M:=Aw.2 F;have N:=Aw.2 G;go_in;go_wp2;all_goals (go_ret;exact⟨Sz (Iff.trans AM Aq.o.symm),(AN _ _).alloc AK _⟩)
 all_goals
  go_in;go_wp2
 all_goals (go_ret;exact⟨Sz Y7,(AN _ _).alloc AK _⟩)
end
section
variable{i:Nat}{w':AA}
structure HQ(w:AA)(ab:Nat)(v:AB)(E:List A6):Prop where
 blk:AG w ab 91 #[v]
 row:AS 0 w 167 5 M4 E v
def HQ.kept{w:AA}{ab:Nat}{v:AB}{E:List A6}{S:List Nat}(h:HQ w ab v E)(A:AP S w w')(B:ab∉S)(C:∀g cs,AG w g 167 cs->g∉S):HQ w' ab v E:=
 ⟨h.blk.kept A B,h.row.kept A C BW⟩
def HQ.below{w:AA}{ab:Nat}{v:AB}{E:List A6}(h:HQ w ab v E)(hb:Below w w w'):HQ w' ab v E:=
 h.kept (S:=[]) CX N9 CE
def HQ.cells{w:AA}{ab:Nat}{C:BH}{n I:Nat}{E:List A6}(h:HQ w ab (.slice C n I) E)(i:Nat)(e:A6)(G:E[i]? = some e):
 ∃g,C=some ⟨g,0,none⟩/\g<w.heap.size/\w.cell? ⟨g,i*5,none⟩=some (e.m:AB)/\w.cell? ⟨g,i*5+1,none⟩=some (e.k:AB)/\w.cell? ⟨g,i*5+2,none⟩=some (e.w:AB)/\w.cell? ⟨g,i*5+3,none⟩=some (e.n:AB)/\w.cell? ⟨g,i*5+4,none⟩=some (e.a:AB):=by
 obtain⟨g,c,K,B,J,D,_,F,A⟩:=h.row.at (λ_ _ H=>H.len) i e G;rw[F] at A;injection B with B;exact⟨g,B,D,A 0 AD,A 1 AD,A 2 AD,A 3 AD,A 4 AD⟩
def AHX{a b c:Int}{E:List A6}{e:A6}(h:FM a b c (E.take i)=false)(A:E[i]? = some e):FM a b c (E.take (i+1))=Df a b c e:=by
 obtain⟨hi,rfl⟩:=Cd.1 A;unfold FM at h ⊢;exact qT
def AHY{a b c:Int}{E:List A6}{e:A6}(B:E[i]? = some e)(A:Df a b c e=true):FM a b c E=true:=Nl.2 ⟨e,Bu B,A⟩
def ABW(w:AA)(ab:Nat)(v:AB)(E:List A6)(a b c:Int)(h:HQ w ab v E)(G:E.length<=100000):
 AI 128 #[.pointer ab,a,b,c] w (BX (.bool (FM a b c E)) w):=by
 obtain⟨j,k,rfl,d⟩:=h.row.slice;have K:=O h;have M:=h.blk.cell 0;have S:=h.blk.lt;simp only[CH,A8] at M;go_in;go_wp2_with fail;go_loopw [9] (λI wr=>∃i:Nat,I=.int .i64 (i:Int)/\i<=E.length/\w=wr/\Hid (FM a b c (E.take i)=false)) (λI _=>E.length-(intOf I).toNat)
 case atStart=>exact⟨0,rfl,Az _,rfl,by simp[Hid,FM]⟩
 case round=>
  obtain⟨i,rfl,Z,rfl,Aq⟩:=hrel;by_cases N:i<E.length
  .have dl:=Ar i E.length;obtain⟨e,J⟩:=BQ E i N;obtain⟨X,rfl,Y,f,P,Q,R,g⟩:=K.o.cells i e J;have HC:=O J;obtain⟨F,A,B,C,D⟩:=e;simp only at P Q R;by_cases H:A=a
   .subst H;by_cases hw:B=b
    .subst hw;by_cases G:C=c
     .subst G;have KA:=O (AHY HC.o (show Df A B C ⟨F,A,B,C,D⟩=true by simp[Df]));go_wp2_with fail;go_ret;exact⟨ZW,rfl⟩
     .have W:(C==c)=false:=Aw.2 G;have Bj:=O (show Df A B c ⟨F,A,B,C,D⟩=false by simp[Df,G]);exact eh
    .have V:(B==b)=false:=Aw.2 hw;have Bj:=O (show Df A b c ⟨F,A,B,C,D⟩=false by simp[Df,hw]);exact eh
   .have T:(A==a)=false:=Aw.2 H;have Bj:=O (show Df a b c ⟨F,A,B,C,D⟩=false by simp[Df,H]);exact eh
  .obtain rfl:i=E.length:=U;have dl:decide ((E.length:Int)<(E.length:Int))=false:=AH;have L:Hid (FM a b c E=false):=by have:=Aq.o;rwa [F6] at this
   go_wp2_with fail;go_ret;exact⟨by rw[L.o];rfl,rfl⟩
def F9(k:Int)(E:List A6):Int:=(E.map λA=>if A.k=k then A.a else 0).sum
def zN{k:Int}{E:List A6}{e:A6}(A:E[i]? = some e):F9 k (E.take (i+1))=F9 k (E.take i)+if e.k=k then e.a else 0:=by
 obtain⟨B,rfl⟩:=Cd.1 A;unfold F9;rw[Mk,BL B];simp only[Option.toList_some,Li,List.sum_append,HA,Q0,List.sum_cons,List.sum_nil,Int.add_zero]
def T7{e:A6}(A:FN e=true):1<=e.a/\e.a<=1000000000000/\(e.k=1\/e.k=2\/e.k=3):=by
 simp only[FN,At,Ki,CJ,C7] at A;omega
def Si{k:Int}: ∀{E:List A6},(∀e∈E,FN e=true)->0<=F9 k E/\F9 k E<=1000000000000*(E.length:Int)
 | [],_=>by simp[F9]
 | e::E,h=>by
  have A:=Si (k:=k) (λC B=>h C (Dq _ B));have D:=T7 (h e (D0 ..));simp only[F9,HA,List.sum_cons,CB] at A ⊢;push_cast
  split<;>omega
def jZ:∀{E:List A6},(∀e∈E,FN e=true)->F9 1 E+F9 2 E-F9 3 E=D7 E
 | [],_=>by simp[F9,D7]
 | e::E,h=>by
  have B:=jZ (λF D=>h F (Dq _ D));have C:=T7 (h e (D0 ..));simp only[F9,D7,Er,HA,List.sum_cons] at B ⊢;rcases C.2.2 with A|A|A<;>simp[A]<;>omega
def zA{E:List A6}(A:∀e∈E,FN e=true)(i:Nat):∀e∈E.take i,FN e=true:=λe B=>A e (Q7 B)
def AAj(w:AA)(ab:Nat)(v:AB)(E:List A6)(k:Int)(h:HQ w ab v E)(q:E.length<=100000)(M:∀e∈E,FN e=true):
 AI 190 #[.pointer ab,k] w (BX (.int .i64 (F9 k E)) w):=by
 obtain⟨y,z,rfl,r⟩:=h.row.slice;have I:=O h;have D:=O M;have J:=h.blk.cell 0;have S:=h.blk.lt;simp only[CH,A8] at J;go_in;go_wp2_with fail;go_loopw [5,6] (λQ C wr=>∃i:Nat,C=.int .i64 (i:Int)/\Q=.int .i64 (F9 k (E.take i))/\i<=E.length/\w=wr) (λ_ C _=>E.length-(intOf C).toNat)
 case atStart=>exact⟨0,rfl,by simp[F9],Az _,rfl⟩
 case round=>
  obtain⟨i,rfl,rfl,o,rfl⟩:=hrel;by_cases L:i<E.length
  .have dl:=Ar i E.length;obtain⟨e,A⟩:=BQ E i L;obtain⟨Z,rfl,n,s,N,t,u,P⟩:=I.o.cells i e A;have G:=Si (k:=k) (zA D.o i);have K:(E.take i).length=i:=AM;rw[K] at G;have H:=T7 (D.o e (Bu A));have An:=O (zN (k:=k) A);obtain⟨W,F,Y,X,V⟩:=e;simp only at N P H An;generalize d:F9 k (E.take i)=R at *;have c:(i:Int)<=100000:=U;obtain⟨f,g⟩:=G;obtain⟨j,m,_⟩:=H;by_cases B:F=k
   .subst B;rw[Ab rfl] at An;exact rW
   .have T:(F==k)=false:=Aw.2 B;rw[AU B,Int.add_zero] at An;exact rW
  .obtain rfl:i=E.length:=U;have dl:decide ((E.length:Int)<(E.length:Int))=false:=AH;rw[F6];go_wp2_with fail;exact H7
def j8(w:AA)(ab:Nat)(v:AB)(E:List A6)(h:HQ w ab v E)(Q:E.length<=100000)(A:KC E):
 AI 129 #[.pointer ab] w (BX (.int .i64 (D7 E)) w):=by
 have P:=O (λB=>AAj w ab v E B h Q A.ok);have C:=jZ A.ok;have D:=Si (k:=1) A.ok;have F:=Si (k:=2) A.ok;have G:=Si (k:=3) A.ok;clear h A;obtain⟨B,H⟩:∃B:Int,B=(E.length:Int):=⟨_,rfl⟩;rw[<-H] at D F G;have Y:B<=100000:=U;clear H;rw[<-C];clear C;obtain⟨R,V⟩:=D;obtain⟨S,W⟩:=F;obtain⟨T,X⟩:=G;generalize I:F9 1 E=Z at *;generalize J:F9 2 E=a at *;generalize K:F9 3 E=b at *;have L:=O I;have M:=O J;have N:=O K;clear I J K;go_in;go_wp2_with (go_at_call 190;refine(P.o _).mono ?_;rintro e w' ⟨rfl,rfl⟩;first|rw[L.o]|rw[M.o]|rw[N.o])
 exact H7
def ABk(e:A6)(w:AA)(N:Ec e.m):AI 127 #[.agg #[e.m,e.k,e.w,e.n,e.a]] w λI w'=>I=.returned (.bool (FN e))/\Below w w w':=by
 have Aq:Hid (FN e=true↔(0<=e.m/\e.m<=2399/\1<=e.a/\e.a<=1000000000000/\((e.k=1/\e.w=0/\e.n=0)\/((e.k=2\/e.k=3)/\0<=e.w/\e.w<6/\1<=e.n/\e.n<=999)))):=by
  unfold Hid;simp[FN]
 obtain⟨C,A,L,K,a⟩:=e;simp only at Aq ⊢;generalize FN ⟨C,A,L,K,a⟩=M at *;have B:A<1\/3<A\/A=1\/A=2\/A=3:=U;have ha:a<1\/1000000000000<a\/(1<=a/\a<=1000000000000):=U;rcases B with B|B|B
 .have E:decide (A<1)=true:=CA B;exact YM
 .have E:=A4 A 1;have G:decide (3<A)=true:=CA B;exact YM
 .have E:=A4 A 1;have G:=A4 3 A;cases D:BJ C 0 2399 with
  | false=>
   have K8:=O D;have J:¬(0<=C/\C<=2399):=by simpa[BJ] using D
   go_in;go_wp2_with (go_at_call 110;refine(Od _ _).mono ?_;rintro e w' ⟨rfl,rfl⟩;rw[K8.o])
   all_goals (go_ret;exact⟨Sz Y7,(AN _ _).alloc AK _⟩)
  | true=>
   have J:0<=C/\C<=2399:=by simpa[BJ] using D
   have K8:=O D;rcases ha with ha|ha|ha
   .have F:decide (a<1)=true:=CA ha;exact YM
   .have F:=A4 a 1;have H:decide (1000000000000<a)=true:=CA ha;exact YM
   .have F:=A4 a 1;have H:=A4 1000000000000 a;rcases B with rfl|rfl|rfl;all_goals
     go_in;go_wp2_with (go_at_call 110;refine(Od _ _).mono ?_;rintro e w' ⟨rfl,rfl⟩;rw[K8.o])
     all_goals (go_ret;exact⟨Sz Y7,(AN _ _).alloc AK _⟩)
end
