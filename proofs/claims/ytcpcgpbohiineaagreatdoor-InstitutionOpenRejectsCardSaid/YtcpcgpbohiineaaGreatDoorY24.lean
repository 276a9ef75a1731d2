import Derived.Test.YtcpcgpbohiineaaGreatDoorY20
import Derived.Test.YtcpcgpbohiineaaGreatDoorY21
namespace Go.Proofs.YtcpcgpbohiineaaGreatDoor
open Go.RowKit Go.Proofs.Tryz
set_option linter.all false
set_option maxRecDepth 100000
set_option maxHeartbeats 4000000
section
open Go.Maps (Keyed)
variable{K:List Kd}{Y:AA}{V:Int->Int->AB}{s:Int}
def mJ{k:Nat}{cs:List AB}{C:List Lit}(A:prog.keyLits (k+1) 3 cs=some C):∃x,cs=[.int .i64 x]:=by
 match cs,A with
 | [.int q n],A=>
  simp only[Program.keyLits,underlying3] at A;split at A
  .rename_i B;exact⟨n,by rw[B.1]⟩
  .cases A
 | [],A=>simp[Program.keyLits,underlying3] at A
 | _::_::_,A=>simp[Program.keyLits,underlying3] at A
def AGl{key:AB}{I:Lit}(h:keyOf prog 225 key=some I):∃x:Int × Int,key=Jl x.1 x.2:=by
 simp only[keyOf,underlying225] at h;split at h
 .rename_i C;simp only[At] at C;obtain⟨O,A,_⟩:=I6.1 h;obtain⟨B,H⟩:∃B,prog.types.size=B+1:=⟨prog.types.size-1,AF⟩;cases key<;>simp[Value.formed,underlying225,XY] at C
  rename_i G;obtain⟨J⟩:=G;match J,C.2 with
  | [a,b],_=>
   rw[H] at A;unfold Program.keyLits at A;rw[underlying225] at A;simp[Value.cells,di,XY] at A;cases ha:prog.keyLits (B+1) 3 [a] with
   | none=>rw[ha] at A;cases A
   | some M=>
    cases F:prog.keyLits (B+1) 3 [b] with
    | none=>rw[ha,F] at A;cases A
    | some N=>
     obtain⟨x,D⟩:=mJ ha;obtain⟨L,E⟩:=mJ F;injection D with D;injection E with E;subst D E;exact⟨(x,L),rfl⟩
 .cases h
def KZ(a b:Int):Lit:=.string (keyBytes [.int .i64 a,.int .i64 b])
def W7(A:∀x∈K,F7 x){a b:Int}(h:B_ a b K=true):Ec a/\Ec b:=by
 obtain⟨x,_,_,_,B⟩:=IT h;obtain⟨_,_,_,C,D,E,F⟩:=WP A B;exact⟨⟨U,U⟩,⟨U,U⟩⟩
def VI(C:DataW AB)(K:List Kd)(V:Int->Int->AB):Prop:=∀key A,keyOf prog 225 key=some A->∀B,C.atKey A B=(match LX K V key with|some v=>.held v|none=>B)
def VI.has{B:DataW AB}(D:VI B K V){a b:Int}{C:Lit}{v:AB}(G:keyOf prog 225 (Jl a b)=some C)(E:∀z,B.atKey C z=.held v):B_ a b K=true:=by
 have A:=D _ _ G .nil;rw[E,XF] at A;cases F:B_ a b K with
 | true=>rfl
 | false=>rw[F] at A;cases A
def VI.start{B:DataW AB}(h:VI B K V)(E:∀x∈K,F7 x)(s:Int):∀n,n∈([]:Ay)↔B_ s n K=true/\Maps.has B (KZ s n)=false:=by
 intro n;refine⟨N9,λ⟨C,D⟩=>?_⟩;obtain⟨F,G⟩:=W7 E C;have A:=h _ _ (O2 s n F G) .nil;rw[XF,C] at A;have:=Maps.atKey_of_not_has D (z:=.nil);unfold KZ at this;rw[this] at A;cases A
def AGh(J:∀x∈K,F7 x){a b:Int}{D:Ay}{left:Lit->Bool}{E:Lit}(h:∀n,n∈D↔B_ s n K=true/\left (KZ s n)=false)(L:left E=true)(S:keyOf prog 225 (Jl a b)=some E)(F:B_ a b K=true)(I:D.Nodup):
 (∀n,n∈(if a=s then D++[b] else D)↔B_ s n K=true/\(left (KZ s n) && !(KZ s n).sameKey E)=false)/\(if a=s then D++[b] else D).Nodup:=by
 obtain⟨P,Q⟩:=W7 J F;have C:E=KZ a b:=by
  have:=O2 a b P Q;rw[S] at this;injection this
 subst C;have H:=Keyed.of_law TX;have G:∀n,B_ s n K=true->((KZ s n).sameKey (KZ a b)=true↔s=a/\n=b):=by
  intro n U;obtain⟨N,O⟩:=W7 J U;constructor
  .intro W;have C:=WideAt.sameKey_eq W;have:=H.inj (O2 s n N O) (by rw[O2 a b P Q];exact congrArg some C.symm);simp only[Jl,Value.agg.injEq,Array.mk.injEq,Mh,Value.int.injEq,true_and,Jx] at this;exact D2
  .rintro⟨rfl,rfl⟩;exact WideAt.sameKey_self (H.key (O2 s n N O))
 by_cases C:a=s
 .subst C;simp only[CI];have R:b∉D:=λT=>by have:=((h b).1 T).2;rw[this] at L;cases L
  refine⟨λn=>?_,Wj.2 ⟨I,AH,λx X Z M=>by simp at M;subst M;rintro rfl;exact R X⟩⟩;simp only[E1,Jv,h n,Bool.and_eq_false_iff,Wd];constructor
  .rintro (⟨B,A⟩|rfl)
   .exact⟨B,.inl A⟩
   .exact⟨F,.inr ((G _ F).2 ⟨rfl,rfl⟩)⟩
  .rintro⟨B,A|A⟩
   .exact .inl ⟨B,A⟩
   .exact .inr ((G n B).1 A).2
 .simp only[AU C];refine⟨λn=>?_,I⟩;rw[h n];simp only[Bool.and_eq_false_iff,Wd];constructor
  .rintro⟨B,A⟩;exact⟨B,.inl A⟩
  .rintro⟨B,A|A⟩
   .exact⟨B,A⟩
   .exact absurd ((G n B).1 A).1.symm C
def AGj(C:Fi K){B:Ay}{left:Lit->Bool}(D:∀n,n∈B↔B_ s n K=true/\left (KZ s n)=false)(I:∀J,left J=false)(H:B.Nodup):B.mergeSort (λx y=>decide (x<=y))=C4 K s:=by
 refine zf (C.nums s) H λn=>?_;rw[D n,TN];constructor
 .rintro⟨E,_⟩;obtain⟨x,A,F,G,_⟩:=IT E;exact⟨x,Bu A,F,G⟩
 .rintro⟨x,A,rfl,rfl⟩;refine⟨?_,I _⟩;rw[W9,C.look A];rfl
structure K0(w X:AA)(BU it c:Nat)(D:DataW AB)(out:Ay)(yK:AB)(left:Lit->Bool)(cnt:Nat):Prop where
 rg:X.ranges prog 225 PK BU it c D left cnt
 out:X.ownsRow w 3 1 yK out.length (out.map (Value.int .i64))
 AJ:Below w w X
 lo:w.heap.size<=it
def K0.o:=@K0.out
def K0.below{w A:AA}{D E c C:Nat}{B:DataW AB}{F:Ay}{G:AB}{left:Lit->Bool}(h:K0 w A D E c B F G left C)(hb:Below A A Y):K0 w Y D E c B F G left C:=by
 refine⟨?_,Bl h.o (S:=[]) CX CE,AW h.AJ hb,h.lo⟩;exact h.rg.kept (row:=none) ⟨hb.os,hb.tape,hb.output,hb.size,λI H _=>hb.block I H⟩ AH AH
def K0.turn{w D:AA}{C A c L E:Nat}{B:DataW AB}{I:Ay}{J:AB}{left H:Lit->Bool}(h:K0 w D C A c B I J left L)(N:Y.ranges prog 225 PK C A c B H E)(F:D.grownBy Y (some A)):K0 w Y C A c B I J H E:=by
 refine⟨N,WF h.o (AP.HW (S:=[A]) F AH) (λP G=>?_),h.AJ.grown F h.AJ.size (λO M=>by cases M;exact h.lo),h.lo⟩;simp only[Aj,A',A_] at G;subst G;exact row_ne_iter h.o h.rg
def K0.app{w D:AA}{B G c E:Nat}{C:DataW AB}{A:Ay}{H v':AB}{left:Lit->Bool}{b:Int}(h:K0 w D B G c C A H left E)(ho:Y.ownsRow w 3 1 v' (A.map (Value.int .i64)++[Value.int .i64 b]).length (A.map (Value.int .i64)++[Value.int .i64 b]))(F:D.grownBy Y H.ownBlock)(N:B<w.heap.size):K0 w Y B G c C (A++[b]) v' left E:=by
 refine⟨h.rg.kept F (λJ=>?_) (row_ne_iter h.o h.rg),L9,PW h.AJ h.AJ.size h.o F,h.lo⟩;obtain⟨L,I,M,_⟩:=h.rg.owns;exact bX h.o ⟨L,I,M⟩ J
end
section
open Go.Maps (Keyed)
def ALh:(prog.info? 3).map (λi=>(i.zero,i.size,i.bytes))=some (some (():AB),1,8):=AF
def AGi{K:List Kd}{s:Int}{A:Ay}{left:Lit->Bool}(h:∀n,n∈A↔B_ s n K=true/\left (KZ s n)=false)(D:A.Nodup):A.length<=K.length:=by
 have H:A.length<=(C4 K s).length:=D.length_le_of_subset λn E=>by
  obtain⟨G,F,B,C,_⟩:=IT ((h n).1 E).1;exact TN.2 ⟨G,Bu F,B,C⟩
 have B:(C4 K s).length<=K.length:=iI;omega
def AMr(A:Ay)(w:AA)(e:Ending)(C:AA):Prop:=∃B,e=.returned B/\C.ownsRow w 3 1 B A.length (A.map (Value.int .i64))/\Below w w C
def ADT(w:AA)(j E:Nat)(K:List Kd)(g:Int->Int->AB)(c:Nat)(s:Int)(h:Dj w j E K g c)(AJ:Fi K)(I:∀x∈K,F7 x)(Ax:K.length<=30000):
 AI 66 #[.pointer j,s] w (AMr (C4 K s) w):=by
 obtain⟨C,b,k⟩:=h.map;have e:Hid (VI C K g):=k;have f:=O I;have AT:=O AJ;have B:=O (e.o.start I s);obtain⟨AW,AX⟩:=h.blk.y1;clear k h I AJ;go_in;go_wp2_with (first|(at_range;refine wpList_range_own _ rfl _ 154 rfl 225 27 (Keyed.of_law TX) underlying154 PK E c C rfl b ?_;intro Ao z F Ae)|fail)
 go_frame
 have AC:Hid (K0 w Ao E w c C [] AL (Maps.has C) (Maps.size C)):=⟨z,Ia _ _ _ _,⟨F.os,F.tape,F.output,F.size,λAg Au=>F.block Ag U AH⟩,Bh _⟩;have AQ:=O b.lt;clear z F Ae AW AX b;go_loopw [5] (λN wr=>∃(left:Lit->Bool) (i:Nat) (A:Ay),K0 w wr E w c C A N left i/\Hid ((∀L,L∈A↔B_ s L K=true/\left (KZ s L)=false)/\A.Nodup)) (λ_ wr=>wr.rangeLeft E w)
 case atStart=>exact⟨_,_,[],AC.o,B.o,.nil⟩
 case round=>
  clear AC B;obtain⟨left,i,A,T,B⟩:=hrel;have AC:=O T;have J:=T.rg;obtain⟨Aj,AO,rfl⟩:=CV T.o;have Av:=AGi B.o.1 B.o.2;clear T;go_wp2_with (first|(at_next;refine wpList_next_ranges _ rfl _ rfl 225 (Keyed.of_law TX) PK (λx:Int × Int=>.agg #[x.1,x.2]) (λX:AB=>X) (λkey Ah I=>AGl I) (λX N G=>⟨X,rfl⟩) E w c C _ _ rfl J ?_ ?_)|fail)
  .intro _ Ad;have Q:=O (AGj AT.o B.o.1 Ad B.o.2);have V:=AC.o.AJ;rcases AC.o.out.2 with ⟨G,A0⟩|⟨Y,As,cur,G,n,W,Ak,Al,Am,AP⟩
   .injection G with S e2 e3;subst S e3;rw[e2];obtain rfl:A=[]:=Jw e2;have P:=O V;clear AC V J;go_wp2_with (go_at_call 120;refine(s9 none 0 _).mono ?_;rintro D An ⟨rfl,rfl⟩)
    go_ret;exact⟨_,rfl,by rw[<-Q.o];simpa using Ia _ _ _ _,P.o⟩
   .injection G with S e2 e3;subst S e3;have l:Sort.Holds encZ wr Y 0 A.toArray:=holds_of_block_i W (by simpa using AP);have t:Y<wr.heap.size:=AG.lt W;have AY:=s_ Y 0 AO A wr l t U;have AF:=λL d=>ownsRow_sorted_i (n:=L) (os:=d) (ts:=A.mergeSort λx N=>decide (x<=N)) AH n W Ak Al Am;have P:=O V;have AS:=O AF;have AR:=O n;clear AC V J AF W AP l t;go_wp2_with (go_at_call 120;refine AY.mono ?_;rintro D An ⟨rfl,Ai,d,rfl⟩)
    go_ret;refine⟨_,rfl,?_,P.o.grown (grownBy_sorted_i _) P.o.size (λA1 Ac=>by cases Ac;exact AR.o)⟩;have:=AS.o Ai d;rw[Q.o] at this;rw[<-Q.o,List.length_mergeSort];rw[Q.o];exact D2
  .intro H R X Ah N A3 M At a u G m AE v q Af Ab;cases G;have Z:=e.o.has a m
   obtain⟨A6,A7⟩:=W7 f.o Z;have gi:=O (AGh f.o B.o.1 u a Z B.o.2);replace AC:=O (AC.o.turn AE q);have ZK:=O v;have AMz:=O J;clear Z a u m AE q Af J v B;go_upto_region 6 with fail;have hal:=(AN M M).alloc AK (.cells #[H,R] 225);have o:=AG.new M 225 #[H,R];replace AC:=O Hn;clear hal Ab;generalize M.alloc (.cells #[H,R] 225)=AV at *;generalize M.heap.size=A2 at *;obtain⟨Ap,Aq,Ar⟩:=o.y2;clear o;by_cases D:H=s
   .subst D;simp only[CI] at gi;have hown:AV.ownsRow w 3 1 (.slice Aj A.length AO) (A.map (Value.int .i64)).length (A.map (Value.int .i64)):=by rw[Lj];exact AC.o.out
    have Az:=AC.o.AJ.size;go_wp2_with (at_builtin;go_loud (refine xr AZ _ _ 22 3 AZ underlying22 () rfl 8 AD ALh w _ (A.map (Value.int .i64)) _ R rfl AZ HP _ AZ AH AM U ?_);intro A4 A5 y Aa r)
    replace AC:=O (AC.o.app y r AQ.o);clear hown y Aa r Ap Aq Ar;exact sP
   .have S:(H==s)=false:=Aw.2 D;simp only[AU D] at gi;clear D;exact sP
end
section
variable{n:Int}{B g c:Nat}{v v':AB}{Y Z:AA}{us:List (List AB)}
attribute [local irreducible] Cu
def AG4:(prog.info? 97).map (·.size)=some 2:=AF
def AJo(n m:Int)(w:AA)(D:0<=n)(E:m<=73049):
 AI 121 #[.agg #[n,m]] w (Bz (.agg #[n,m]) w):=by
 have A:max n 0=n:=U;have C:min m 73049=m:=U;go_in;go_wp2;exact BE (v:=.agg #[n,m]) (Ja results121 _ _ (w.heap.size+1) 97 _ (0,0) _ rfl (AG.newAt _ _ _ _ AH) underlying97 rfl AG4) rfl ⟨rfl,((AN _ _).alloc AK _).alloc AH _⟩
def SM(n:Int)(u:List AB):Prop:=u=[.int .i64 n,.int .i64 (n+1)]
def SM.len{u:List AB}(h:SM n u):u.length=2:=M5
def KD(B:Nat)(w:AA)(A:Ay)(v:AB):Prop:=AS B w 97 2 SM A v
def KD.below{w C:AA}{A:Ay}(h:KD B w A v)(D:Below w w C):KD B C A v:=AS.below h D BW
def KD.cells{w:AA}{A:Ay}(h:KD B w A v)(i:Nat)(n:Int)(G:A[i]? = some n):∃g c,v=.slice (some ⟨g,0,none⟩) A.length c/\g<w.heap.size/\w.cell? ⟨g,i*2,none⟩=some (n:AB)/\w.cell? ⟨g,i*2+1,none⟩=some (.int .i64 (n+1)):=by
 obtain⟨g,c,I,D,_,F,_,E,C⟩:=AS.at h (λ_ _ H=>SM.len H) i n G;rw[E] at C;exact⟨g,c,D,F,C 0 AD,C 1 AD⟩
def KD.holds{m:Nat}{w:AA}{D:Ay}(h:KD B w D (.slice g m c)):Sort.HoldsK Kh 2 w g 0 D.toArray:=by
 intro A F;rw[Sort.size_flatK] at F;rw[Sort.get_flatK _ _ _ _ F];have G:A / 2<D.length:=by simp at F;omega
 obtain⟨us,_,L⟩:=id h;obtain⟨cur,K,_⟩:=Qd L;refine⟨?_,K.frozen _⟩;obtain⟨N,M,C,_,H,I⟩:=h.cells (A / 2) D[A / 2] (BL G);injection C with C;injection C with C;injection C with C;subst C;have J:D.toArray[A / 2]! = D[A / 2]:=by simp[getElem!_pos,G]
 rw[J,DP];rcases Ti A with E|E
 .have:A=A / 2*2:=U;rw[E];rw[<-this] at H;simpa[Kh] using H
 .have:A=A / 2*2+1:=U;rw[E];rw[<-this] at I;simpa[Kh] using I
structure N8(w X:AA)(Cg:Nat)(L:Ay)(vs:AB):Prop where
 box:AG X Cg 94 #[vs]
 row:KD w X L vs
 AJ:Below w w X
 lo:w.heap.size<=Cg
def N8.below{w C:AA}{F:Nat}{E:Ay}{G:AB}(A:N8 w C F E G)(D:Below C C Y):N8 w Y F E G:=⟨A.box.below D A.box.lt,A.row.below D,AW A.AJ D,A.lo⟩
def N8.app{w D:AA}{C:Nat}{A:Ay}{E:AB}(h:N8 w D C A E)(M:Rows SM A us)(I:D.ownsRow w 97 2 E A.length us.flatten)
 (K:Z.ownsRow w 97 2 v' (A.length+1) (us.flatten++[.int .i64 n,.int .i64 (n+1)]))(G:D.grownBy Z E.ownBlock):N8 w (Z.setCell ⟨C,0,none⟩ v') C (A++[n]) v':=by
 have F:=h.box.grown G (h.box.apart I AD);have J:AP [C] Z (Z.setCell ⟨C,0,none⟩ v'):=(AP.refl _ _).setCell AH _;refine⟨F.put 0 _,AS.kept (AS.snoc M rfl K) J (λg N L H=>?_) BW,(PW h.AJ h.AJ.size I G).setCell h.lo _,h.lo⟩;simp only[Aj,A',A_] at H;subst H;exact absurd (L.same F) AD
def Sf{A:Ay}{j:Nat}(h:A[j]? = some n):A.take (j+1)=A.take j++[n]:=vt
structure J4(w X:AA)(o:AB)(L:List (Int × Int)):Prop where
 out:N4 w X L o
 AJ:Below w w X
def J4.o:=@J4.out
def J4.below{w A:AA}{o:AB}{C:List (Int × Int)}(h:J4 w A o C)(hb:Below A A Y):J4 w Y o C:=
 ⟨AS.kept h.o (S:=[]) CX CE BW,AW h.AJ hb⟩
def J4.grow{w C:AA}{o:AB}{A:List (Int × Int)}{a b:Int}(D:J4 w C o A)
 (H:Rows Hk A us)(F:C.ownsRow w 97 2 o A.length us.flatten)
 (G:Z.ownsRow w 97 2 v' (A.length+1) (us.flatten++[.int .i64 a,.int .i64 b]))(E:C.grownBy Z o.ownBlock):J4 w Z v' (A++[(a,b)]):=
 ⟨AS.snoc H rfl G,PW D.AJ D.AJ.size F E⟩
def J4.last{w E:AA}{n:Nat}{A D:List (Int × Int)}{p:Int × Int}(C:J4 w E (.slice g n c) A)(G:A=D++[p])(b:Int):
 J4 w (E.setCell ⟨g,(A.length-1)*2+1,none⟩ b) (.slice g n c) (D++[(p.1,b)]):=by
 obtain⟨us,_,H⟩:=id C.o;obtain⟨cur,I,F⟩:=Qd H;exact⟨C.o.last G b,C.AJ.setCell F _⟩
end
section
attribute [local irreducible] Cu
def ADi(B:Nat)(w:AA)(v:AB)(D:Ay)(h:KD B w D v)(At:D.Pairwise (· < ·))(Y:∀n∈D,1<=n/\n<=999)(BG:D.length<=30000):
 AI 67 #[v] w λe w'=>∃v',e=.returned v'/\N4 w w' (DF D) v'/\Below w w w':=by
 obtain⟨Bl,Bm,rfl,_⟩:=AS.slice h;have Ai:=O h;have Af:=O Y;have Ag:=O At;have AC:Hid (N8 w (w.alloc (.cells #[AL] 94)) w [] AL):=⟨AG.new _ _ _,AS.mt,(AN _ _).alloc AK _,Bh _⟩;clear h Y At;go_in;go_wp2_with fail;generalize w.alloc (.cells #[AL] 94)=BU at *;obtain⟨y,C⟩:∃n,n=w.heap.size:=⟨_,rfl⟩;rw[<-C] at AC;rw[<-C];clear C;go_loopw [12] (λM wr=>∃(A:Ay) (A0:AB),M=.int .i64 (A.length:Int)/\A.length<=D.length/\N8 w wr y A A0/\Hid (D.take A.length=A)) (λM _=>D.length+1-(intOf M).toNat)
 case atStart=>exact⟨[],_,rfl,Az _,AC.o,rfl⟩
 case round=>
  clear AC;obtain⟨A,A0,rfl,BF,Y,AT⟩:=hrel;have AC:=O Y;clear Y;by_cases AM:A.length<D.length
  .have dl:=Ar A.length D.length;obtain⟨n,H⟩:=BQ D A.length AM;obtain⟨BJ,BM⟩:=Af.o n (Bu H);obtain⟨AY,c,e,d,AV,AX⟩:=(KD.below Ai.o AC.o.AJ).cells A.length n H;injection e with e1 L e3;subst e1 e3;have By:=O (Sf H);rw[AT.o] at By;clear H;go_upto_region 5 with fail;have W:=(AN wr wr).alloc AK (.cells #[.int .i64 n,.int .i64 (n+1)] 97);have Z:=AG.new wr 97 #[.int .i64 n,.int .i64 (n+1)];obtain⟨K,J⟩:∃m,m=wr.heap.size:=⟨_,rfl⟩;rw[<-J] at Z;rw[<-J];have Aj:=O W;have t:=O J;clear AV AX d W J;generalize wr.alloc (.cells #[.int .i64 n,.int .i64 (n+1)] 97)=X at *;obtain⟨E,F,G⟩:=Z.y2;go_upto_region 6 with (go_at_call 121;refine(AJo n (n+1) _ U U).mono ?_;rintro e Ak ⟨rfl,hb1⟩;have z:=Z.below hb1 Z.lt;have BP:=z.frozen 0;have BR:=z.frozen 1;obtain⟨BO,N,BS⟩:=z.y2)
   have Aw:Below wr wr ((Ak.setCell ⟨K,0,none⟩ (.int .i64 n)).setCell ⟨K,1,none⟩ (.int .i64 (n+1))):=((AW Aj.o hb1).setCell (by show _<=K;rw[t.o];exact Bh _) _).setCell (by show _<=K;rw[t.o];exact Bh _) _;have Aa:=(z.put 0 (.int .i64 n)).put 1 (.int .i64 (n+1));simp only[RE,PO,PN] at Aa;replace AC:=O (AC.o.below Aw);clear z BP BR BO N BS E F G Z hb1 Aj t Aw;generalize (Ak.setCell ⟨K,0,none⟩ (.int .i64 n)).setCell ⟨K,1,none⟩ (.int .i64 (n+1))=BV at *;obtain⟨E,F,G⟩:=Aa.y2;obtain⟨Q,S⟩:=AC.o.box.y1;have A':=AC.o.box.frozen 0;have Al:=Ar n (n+1);obtain⟨Ae,AR,rfl,_⟩:=AS.slice AC.o.row;obtain⟨us,GF,hown⟩:=AC.o.row;have hwz:=AC.o.AJ.size;clear Aa;go_wp2_with (at_builtin;go_loud (refine ET AZ _ _ 94 97 AZ underlying94 (.agg #[(),()]) 2 16 U U Rl rfl w _ A.length us.flatten _ [.int .i64 n,.int .i64 (n+1)] rfl C2 rfl HP _ AZ AH U U ?_);intro v' w4 DR hb4 hg4;obtain⟨BY,Bj,rfl⟩:=CG DR;have C:=AC.o.box.grown hg4 (AC.o.box.apart hown AD);obtain⟨A_,BB⟩:=C.y1;have BA:=C.frozen 0)
   have An:=O (AC.o.app GF hown DR hg4);clear GF hown DR hg4 hb4 us C A_ BB BA Q S A' E F G AC hwz;go_wp2_with fail;go_roundw
   case rel=>exact⟨A++[n],_,iC,P_,An.o,xB⟩
   case measure=>exact A5
  .obtain rfl:A=D:=by rw[<-AT.o,HB U]
   have dl:decide ((A.length:Int)<(A.length:Int))=false:=AH;have g:=AC.o.row;obtain⟨Ae,AR,rfl,_⟩:=AS.slice g;obtain⟨Q,S⟩:=AC.o.box.y1;have Av:AI 122 #[.iface 94 (.slice Ae A.length AR),.func (.func 123) #[] #[.pointer y]] wr (Bz (.tuple #[]) wr):=by
    by_cases BD:2<=A.length
    .obtain⟨AY,c,e,d,_,_⟩:=g.cells 0 A[0] (BL U);injection e with e1 L e3;subst e1 e3;obtain⟨us,_,AO⟩:=id g;obtain⟨cur,AJ,_⟩:=Qd AO;exact za AY AR y A BD BG Ag.o wr g.holds d Q S (λe=>by subst e;exact absurd (AJ.same AC.o.box) AD)
    .exact zP Ae A.length AR y wr U
   have Ah:=O Av;clear Av;go_wp2_with (go_at_call 122;refine Ah.o.mono ?_;rintro e w2 ⟨rfl,hb1⟩;replace AC:=O Bg;clear Q S;obtain⟨Q,S⟩:=AC.o.box.y1)
   have hwz:=AC.o.AJ.size;have CM:Hid (J4 w2 w2 AL []):=⟨AS.mt,AN _ _⟩;have AU:=AC;clear Q S Ah AT Ai AC hb1 g;go_loopw [6,34] (λo M wr=>∃(j:Nat) (R:List (Int × Int)),M=.int .i64 (j:Int)/\j<=A.length/\R.length<=j/\J4 w2 wr o R/\Hid (R=DF (A.take j))) (λ_ M _=>A.length+1-(intOf M).toNat)
   case atStart=>exact⟨0,[],rfl,Az _,Bh _,CM.o,rfl⟩
   case round=>
    clear CM;obtain⟨j,R,rfl,BF,Be,Ac,T⟩:=hrel;have CM:=O Ac;obtain⟨BN,Ax,rfl,Bc⟩:=AS.slice Ac.o;clear Ac;by_cases AM:j<A.length
    .have dl:=Ar j A.length;obtain⟨n,H⟩:=BQ A j AM;obtain⟨BJ,BM⟩:=Af.o n (Bu H);obtain⟨AY,c,e,d,AV,AX⟩:=(KD.below AU.o.row CM.o.AJ).cells j n H;injection e with e1 L e3;subst e1 e3;have u:=O H;clear H;go_upto_region 14 with fail;have W:=(AN wr wr).alloc AK (.cells #[.int .i64 n,.int .i64 (n+1)] 97);have C:=AG.new wr 97 #[.int .i64 n,.int .i64 (n+1)];obtain⟨K,J⟩:∃m,m=wr.heap.size:=⟨_,rfl⟩;have t:Hid (∀k,k<wr.heap.size->k≠K):=λk Ba=>U;rw[<-J] at C;rw[<-J];replace CM:=O (CM.o.below W);clear AV AX d W J;generalize wr.alloc (.cells #[.int .i64 n,.int .i64 (n+1)] 97)=X at *;obtain⟨E,F,G⟩:=C.y2;rcases Mf R.length with h0|h0
     .have An:Hid (R++[(n,n+1)]=DF (A.take (j+1))):=by
       show _=_;rw[Sf u.o,QU,<-T.o];exact qh
      have Al:=A4 0 R.length;go_upto_region 15 with fail;clear E F G;refine Yf ?_;replace C:=C.drew;replace CM:=O (CM.o.below (AN _ _).drew);have r:X.heap.size=X.drew.heap.size:=rfl;rw[r];clear r;generalize X.drew=P at *;obtain⟨E,F,G⟩:=C.y2;exact th
     .have Al:=Ar 0 R.length;go_upto_region 15 with fail;clear E F G;refine Yf ?_;replace C:=C.drew;replace CM:=O (CM.o.below (AN _ _).drew);have r:X.heap.size=X.drew.heap.size:=rfl;rw[r];clear r;generalize X.drew=P at *;obtain⟨E,F,G⟩:=C.y2;obtain⟨I,p,AE⟩:∃I p,R=I++[p]:=by
       rcases Tc R with rfl|⟨I,p,h⟩
       .simp at h0
       .exact⟨I,p,Fq⟩
      have Ab:p.2<=n:=AAR Ag.o u.o (by rw[<-T.o];exact AE);have Bf:((R.length:Int)-1).toNat=R.length-1:=U;have Aq:R[R.length-1]? = some p:=by rw[AE];simp
      obtain⟨s,Bi,Bk,BC,_,As,_,Am,Ao⟩:=AS.at CM.o.out (λ_ _ q=>Hk.len q) _ p Aq;injection BC with e1 L e3;subst e1 e3;unfold Hk at Am;subst Am;have N:=Ao 1 AD;simp only[Bt,A8] at N;obtain⟨us,BI,AO⟩:=id CM.o.out;obtain⟨cur,AJ,BE⟩:=Qd AO;have A1:=AJ.frozen ((R.length-1)*2+1);have V:=O AE;clear AE Aq Ao AO BI us AJ BE;obtain⟨AQ,Ad⟩:=p;simp only at N Ab;by_cases f:Ad=n
      .have Au:=LC n Ad;have An:Hid (I++[(AQ,n+1)]=DF (A.take (j+1))):=by
        show _=_;rw[Sf u.o,QU,<-T.o,V.o,Vx f]
       have BH:Hid ((I++[(AQ,n+1)]).length=R.length):=by show _=_;rw[V.o];simp
       have A2:=O (CM.o.last V.o (n+1));rw[f] at N Au;have Bb:max n (n+1)=n+1:=U;clear f Ab;refine Ye ?_;go_wp2_with fail;refine MB ([]) [11] [0,1,2,3,4,5,6,7,8,9,10,11,12,13] [14] (Fr 14 1) AF AF rfl AD AD AF AF AF BK ?_;simp only[JY,marked,A8,Bt,Tp,PP,Nat.reduceBEq,Np,BEq.rfl];have Bn:P.drew.cell? ⟨s,(R.length-1)*2+1,none⟩=some (n:AB):=N;have Bo:P.drew.frozen? ⟨s,(R.length-1)*2+1,none⟩=false:=A1;have Bd:s<P.drew.heap.size:=As;replace C:=C.drew;have A3:Hid (J4 w2 (P.drew.setCell ⟨s,(R.length-1)*2+1,none⟩ (.int .i64 (n+1))) (.slice s R.length Ax) (I++[(AQ,n+1)])):=(CM.o.below (AN _ _).drew).last V.o (n+1);clear N A1 As E F G A2;generalize P.drew=BX at *;obtain⟨E,F,G⟩:=C.y2;iterate 11 refine H' ?_
       refine FU ?_;intro A9 Ap;go_simp;refine Ap _ _ OB ?_;clear Ap A9;iterate 2 refine H' ?_
       refine KT ?_;go_wp2_with fail;go_roundw
       case rel=>exact⟨j+1,I++[(AQ,n+1)],A7,U,by rw[BH.o];omega,A3.o,An.o⟩
       case measure=>exact A5
      .have Au:=KI n Ad;have An:Hid (R++[(n,n+1)]=DF (A.take (j+1))):=by
        show _=_;rw[Sf u.o,QU,<-T.o];exact(Vy (λBT q e=>by
         rw[V.o] at e;have:=List.append_inj' e rfl;obtain⟨_,L⟩:=this;injection L with L;rw[<-L];exact f)).symm
       clear f Ab;exact th
    .have dl:=A4 j A.length;have An:Hid (R=DF A):=by show _=_;rw[T.o,HB U]
     have BZ:decide (j<A.length)=false:=DI AM;have A6:=O (AW AU.o.AJ CM.o.AJ);go_wp2_with fail;go_ret;exact⟨.slice BN R.length Ax,rfl,by rw[<-An.o];exact AS.lower CM.o.out AU.o.AJ.size BW,A6.o⟩
end
def AFH{A:Ay}{w:AA}{B:Nat}{v:AB}(h:w.ownsRow B 3 1 v A.length (A.map (Value.int .i64))):∃a c,v=.slice a A.length c/\∀i n,A[i]? = some n->∃g,a=some ⟨g,0,none⟩/\g<w.heap.size/\w.cell? ⟨g,i,none⟩=some (.int .i64 n):=by
 rcases h.2 with ⟨rfl,h0⟩|⟨g,F,cur,rfl,_,E,H,_,_,G⟩
 .exact⟨none,0,Ux,λi n C=>by have:=(Cd.1 C).1;omega⟩
 .refine⟨_,F,rfl,λi n C=>⟨g,rfl,AG.lt E,?_⟩⟩;have I:=(Cd.1 C).1;rw[AG.cell E,<-Ng];have D:(cur.toList.take (A.length*1))[i]? = (A.map (Value.int .i64))[i]?:=by rw[G]
  rw[Tk U] at D;rw[D,JA,C];rfl
structure VE(w X:AA)(L:Ay)(o:AB):Prop where
 out:KD w X L o
 AJ:Below w w X
def VE.o:=@VE.out
def VE.grow{w B C:AA}{o v':AB}{A:Ay}{us:List (List AB)}{n:Int}(D:VE w B A o)(H:Rows SM A us)(F:B.ownsRow w 97 2 o A.length us.flatten)
 (G:C.ownsRow w 97 2 v' (A.length+1) (us.flatten++[.int .i64 n,.int .i64 (n+1)]))(E:B.grownBy C o.ownBlock):VE w C (A++[n]) v':=
 ⟨AS.snoc H rfl G,PW D.AJ D.AJ.size F E⟩
def ADS(w:AA)(I Y:Nat)(K:List Kd)(W:Int->Int->AB)(c:Nat)(s:Int)(h:Dj w I Y K W c)(Q:Fi K)(P:∀x∈K,F7 x)(AG:K.length<=30000):
 AI 27 #[.pointer I,s] w (uy K s w):=by
 have H:=O (ADT w I Y K W c s h Q P AG);have T:=O (Q.nums s);have G:=O (lk P s);have j:(C4 K s).length<=30000:=by
  have AO:(C4 K s).length<=K.length:=iI;omega
 clear h Q P;obtain⟨C,J⟩:∃C,C=C4 K s:=⟨_,rfl⟩;rw[<-J] at H T G j;have v:=O J;clear J;go_in;go_wp2_with fail;refine H.o.mono ?_;rintro AD F ⟨AY,rfl,m,d⟩;obtain⟨a,ac,rfl,f⟩:=AFH m;have AC:=O f;have B:Hid (VE F F [] AL):=⟨AS.mt,AN _ _⟩;have V:=O d;clear m f d H;go_wp2_with fail;go_loopw [5,12] (λo R wr=>∃(A:Ay),R=.int .i64 (A.length:Int)/\A.length<=C.length/\VE F wr A o/\Hid (C.take A.length=A)) (λ_ R _=>C.length+1-(intOf R).toNat)
 case atStart=>exact⟨[],rfl,Az _,B.o,rfl⟩
 case round=>
  clear B;obtain⟨A,rfl,AQ,M,S⟩:=hrel;have B:=O M;obtain⟨AV,AX,rfl,AR⟩:=AS.slice M.o;clear M;by_cases AF:A.length<C.length
  .have dl:=Ar A.length C.length;obtain⟨D,E⟩:=BQ C A.length AF;obtain⟨Z,rfl,N,X⟩:=AC.o _ _ E;obtain⟨AT,AU⟩:=G.o D (Bu E);have AM:wr.cell? ⟨Z,A.length,none⟩=some (D:AB):=((Ra B.o.AJ).1 _ _ N).trans X;have AP:Z<wr.heap.size:=Co N B.o.AJ.size;have By:=O (Sf E);rw[S.o] at By;obtain⟨r,n,hown⟩:=B.o.out;have AJ:=B.o.AJ.size;clear E X N;go_wp2_with (at_builtin;go_loud (refine ET AZ _ _ 94 97 AZ underlying94 (.agg #[(),()]) 2 16 U U Rl rfl F _ A.length r.flatten _ [.int .i64 D,.int .i64 (D+1)] rfl C2 rfl HP _ AZ AH U U ?_);intro AK Aa k AE g)
   have z:=O (B.o.grow n hown k g);clear n hown k g AE r B;go_wp2_with fail;go_roundw
   case rel=>exact⟨A++[D],iC,P_,z.o,xB⟩
   case measure=>exact A5
  .obtain rfl:A=C:=by rw[<-S.o,HB U]
   have dl:decide ((A.length:Int)<(A.length:Int))=false:=AH;have AJ:=B.o.AJ.size;have y:=O (ADi _ wr _ A B.o.out T.o G.o j);go_wp2_with fail;refine y.o.mono ?_;rintro AD Ab ⟨AK,rfl,L,e⟩;have u:=O L;have t:=O e;obtain⟨Ac,Ad,rfl,_⟩:=AS.slice L;clear L e;go_wp2_with fail;go_ret;refine⟨_,rfl,by rw[<-v.o];exact AS.lower u.o (Ap V.o.size B.o.AJ.size) BW,AW (AW V.o B.o.AJ) t.o⟩
